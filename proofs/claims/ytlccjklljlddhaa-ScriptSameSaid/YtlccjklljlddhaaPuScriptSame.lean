/- Of every op and every number the law ScriptSame returns true. No condition. -/
import Derived.Test.YtlccjklljlddhaaFlScriptSame
import Derived.Test.YtlccjklljlddhaaS1
set_option linter.unusedVariables false
set_option linter.unusedSimpArgs false
namespace Go.Proofs.Ytlccjklljlddhaa.Pu
open Go.RowKit Go.Proofs.Ytlccjklljlddhaa.NL Go.Proofs.Ytlccjklljlddhaa.Fn Go.Proofs.Ytlccjklljlddhaa.SC Go.Proofs.YtlccjklljlddhaaW.PrintWords Go.Proofs.YtlccjklljlddhaaW.PrintLast
theorem yes {k : Nat} (o : S36) (hp : o.f5.length ≤ 9223372036854775807) (hk : o.f5.length < k) : script_Same.f k o.f0 o.f1 o.f2 o.f3 o.f4.f0 o.f4.f1 o.f4.f2 o.f5 o.f0 o.f1 o.f2 o.f3 o.f4.f0 o.f4.f1 o.f4.f2 o.f5 = some true := by
  rw [same_f o o hp hk, (sameB_iff o o).2 rfl]
theorem no {k : Nat} (a b : S36) (hp : a.f5.length ≤ 9223372036854775807) (hk : a.f5.length < k) (h : a ≠ b) : script_Same.f k a.f0 a.f1 a.f2 a.f3 a.f4.f0 a.f4.f1 a.f4.f2 a.f5 b.f0 b.f1 b.f2 b.f3 b.f4.f0 b.f4.f1 b.f4.f2 b.f5 = some false := by
  rw [same_f a b hp hk]
  congr 1
  exact Bool.eq_false_iff.2 fun e => h ((sameB_iff a b).1 e)
theorem same_val (o : S36) (hw : Wf o) (h8 : o.f5.length * 8 ≤ 140737488351232) (c : Int) (hc0 : 0 ≤ c) (hc1 : c < 256) : dormerlaw20_ScriptSame.f (o.f5.length + 2) o.f0 o.f1 o.f2 o.f3 o.f4.f0 o.f4.f1 o.f4.f2 o.f5 c = some true := by
  have hp := hw.p
  unfold dormerlaw20_ScriptSame.f dormerlaw20_awake.f
  rw [Option.bind_some]
  obtain ⟨o0, o1, o2, o3, ⟨b0, b1, b2⟩, l⟩ := o
  have ha := hw.a
  have hv := hw.v
  dsimp only at hp h8 ha hv ⊢
  have T := fun k hk => yes (k := k) ⟨o0, o1, o2, o3, ⟨b0, b1, b2⟩, l⟩ hp hk
  have F1 := fun k x hk h => no (k := k) ⟨o0, o1, o2, o3, ⟨b0, b1, b2⟩, l⟩ x hp hk h
  have F2 := fun k x hx hk h => no (k := k) x ⟨o0, o1, o2, o3, ⟨b0, b1, b2⟩, l⟩ hx hk h
  dsimp only at T
  by_cases c0 : Int.tmod c 6 = 0
  · rw [if_pos c0, if_pos rfl, T _ (by omega), Option.bind_some, if_pos rfl]
    have hne : wrap64 (o0 + 1) ≠ o0 := by unfold wrap64; omega
    rw [F1 _ ⟨wrap64 (o0 + 1), o1, o2, o3, ⟨b0, b1, b2⟩, l⟩ (by show l.length < _; omega) (fun e => hne (S36.mk.inj e).1.symm), Option.bind_some, if_neg (by decide),
      F2 _ ⟨wrap64 (o0 + 1), o1, o2, o3, ⟨b0, b1, b2⟩, l⟩ hp (by show l.length < _; omega) (fun e => hne (S36.mk.inj e).1), Option.bind_some]
    rfl
  rw [if_neg c0]
  by_cases c1 : Int.tmod c 6 = 1
  · rw [if_pos c1, if_pos rfl, T _ (by omega), Option.bind_some, if_pos rfl]
    have hne : Go.bits .xor .u64 IntKind.u64.max o1 ≠ o1 := by
      obtain ⟨a, rfl⟩ : ∃ a : Nat, o1 = (a : Int) := ⟨o1.toNat, by omega⟩
      rw [xor_nat (show a < 2 ^ 64 by omega)]
      unfold notN
      omega
    rw [F1 _ ⟨o0, Go.bits .xor .u64 IntKind.u64.max o1, o2, o3, ⟨b0, b1, b2⟩, l⟩ (by show l.length < _; omega) (fun e => hne (S36.mk.inj e).2.1.symm), Option.bind_some, if_neg (by decide),
      F2 _ ⟨o0, Go.bits .xor .u64 IntKind.u64.max o1, o2, o3, ⟨b0, b1, b2⟩, l⟩ hp (by show l.length < _; omega) (fun e => hne (S36.mk.inj e).2.1), Option.bind_some]
    rfl
  rw [if_neg c1]
  by_cases c2 : Int.tmod c 6 = 2
  · rw [if_pos c2, if_pos rfl, T _ (by omega), Option.bind_some, if_pos rfl]
    have hne : IntKind.u64.wrap (o3 + 1) ≠ o3 := by rw [IntKind.wrap_u64]; omega
    rw [F1 _ ⟨o0, o1, o2, IntKind.u64.wrap (o3 + 1), ⟨b0, b1, b2⟩, l⟩ (by show l.length < _; omega) (fun e => hne (S36.mk.inj e).2.2.2.1.symm), Option.bind_some, if_neg (by decide),
      F2 _ ⟨o0, o1, o2, IntKind.u64.wrap (o3 + 1), ⟨b0, b1, b2⟩, l⟩ hp (by show l.length < _; omega) (fun e => hne (S36.mk.inj e).2.2.2.1), Option.bind_some]
    rfl
  rw [if_neg c2]
  by_cases c3 : Int.tmod c 6 = 3
  · rw [if_pos c3, if_pos rfl, T _ (by omega), Option.bind_some, if_pos rfl]
    have hne : (!b1) ≠ b1 := by cases b1 <;> decide
    rw [F1 _ ⟨o0, o1, o2, o3, ⟨b0, !b1, b2⟩, l⟩ (by show l.length < _; omega) (fun e => hne (congrArg (fun x : S36 => x.f4.f1) e).symm), Option.bind_some, if_neg (by decide),
      F2 _ ⟨o0, o1, o2, o3, ⟨b0, !b1, b2⟩, l⟩ hp (by show l.length < _; omega) (fun e => hne (congrArg (fun x : S36 => x.f4.f1) e)), Option.bind_some]
    rfl
  rw [if_neg c3]
  by_cases c4 : Int.tmod c 6 = 4
  · rw [if_pos c4, if_pos rfl, T _ (by omega), Option.bind_some, if_pos rfl]
    have hne : wrap64 (o2 + 1) ≠ o2 := by unfold wrap64; omega
    rw [F1 _ ⟨o0, o1, wrap64 (o2 + 1), o3, ⟨b0, b1, b2⟩, l⟩ (by show l.length < _; omega) (fun e => hne (S36.mk.inj e).2.2.1.symm), Option.bind_some, if_neg (by decide),
      F2 _ ⟨o0, o1, wrap64 (o2 + 1), o3, ⟨b0, b1, b2⟩, l⟩ hp (by show l.length < _; omega) (fun e => hne (S36.mk.inj e).2.2.1), Option.bind_some]
    rfl
  rw [if_neg c4, Option.bind_some, if_pos (by simp; omega), Option.bind_some, if_pos (by simp; omega), Option.bind_some, if_pos rfl, T _ (by omega), Option.bind_some, if_pos rfl]
  have hne : [] ++ l ++ [0] ≠ l := fun e => by have := congrArg List.length e; simp at this
  rw [F1 _ ⟨o0, o1, o2, o3, ⟨b0, b1, b2⟩, [] ++ l ++ [0]⟩ (by show l.length < _; omega) (fun e => hne (congrArg S36.f5 e).symm), Option.bind_some, if_neg (by decide),
    F2 _ ⟨o0, o1, o2, o3, ⟨b0, b1, b2⟩, [] ++ l ++ [0]⟩ (by show ([] ++ l ++ [0]).length ≤ _; simp; omega) (by show ([] ++ l ++ [0]).length < _; simp) (fun e => hne (congrArg S36.f5 e)), Option.bind_some]
  rfl
theorem ScriptSame (o : S36) (A : Option Addr) (c : Nat) (n : Int) (w : World) (hl : o.f5.length ≤ c) (hC : (Kd.int .i64).C w A o.f5.length o.f5) (hw : Wf o) (h8 : o.f5.length * 8 ≤ 140737488351232) (wn : (Lit.int .u8 n).wf = true) :
    Calls Try.prog 8 #[.agg #[.int .i64 o.f0, .int .u64 o.f1, .int .i64 o.f2, .int .u64 o.f3, .int .i64 o.f4.f0, .bool o.f4.f1, .bool o.f4.f2, .slice A o.f5.length c], .int .u8 n] w fun e w' => e = .returned (.bool true) ∧ Below w.heap.size w w' := by
  have hn : 0 ≤ n ∧ n < 256 := by
    have h1 : IntKind.u8.min = 0 := by decide
    have h2 : IntKind.u8.max = 255 := by decide
    simp only [Lit.wf, Bool.and_eq_true, decide_eq_true_eq] at wn
    omega
  exact dormerlaw20_ScriptSame.calls (o.f5.length + 2) _ _ _ _ _ _ _ A c o.f5 n true w hC hl (same_val o hw h8 n hn.1 hn.2) (Lib.hid rfl)
end Go.Proofs.Ytlccjklljlddhaa.Pu
