/- Of every ops the law ScriptBack returns true. No condition. -/
import Derived.Test.YtlccjklljlddhaaFlScriptBack
import Derived.Test.YtlccjklljlddhaaS3
set_option linter.unusedVariables false
set_option linter.unusedSimpArgs false
namespace Go.Proofs.Ytlccjklljlddhaa.Pu
open Go.RowKit Go.Proofs.Ytlccjklljlddhaa.NL Go.Proofs.Ytlccjklljlddhaa.Fn Go.Proofs.Ytlccjklljlddhaa.SC Go.Proofs.YtlccjklljlddhaaW.PrintWords Go.Proofs.YtlccjklljlddhaaW.PrintLast
theorem take_all (l : List S36) (i : Nat) (h : i < l.length) : (l.take (i + 1)).all mayB = ((l.take i).all mayB && mayB (l.getD i z36)) := by
  rw [List.take_add_one, List.getElem?_eq_getElem h, List.all_append, List.getD_eq_getElem?_getD, List.getElem?_eq_getElem h]
  simp
theorem back_l (l : List S36) (hw : ∀ o ∈ l, Wf o) (hl : l.length ≤ 100) (d : Nat) : ∀ k i : Nat, i + d = l.length → d + 2000 < k → dormerlaw20_ScriptBack.l0 k l true ((l.take i).all mayB) (i : Int) = some true := by
  induction d with
  | zero =>
    intro k i hd hk
    obtain ⟨k, rfl⟩ : ∃ m, k = m + 1 := ⟨k - 1, by omega⟩
    simp only [dormerlaw20_ScriptBack.l0]
    rw [if_neg (by omega), List.take_of_length_le (by omega), enc_f l hw (by omega) (by omega), Option.bind_some]
    by_cases hm : l.all mayB = true
    · have hm' : ∀ o ∈ l, mayB o = true := List.all_eq_true.1 hm
      obtain ⟨b1, b2, b3⟩ := back_f (k := k) l hw hm' (by omega)
      have h5 : ∀ o ∈ l, o.f5.length ≤ 4 := fun o ho => by have := (mayB_iff o).1 (hm' o ho); omega
      rw [hm, b3, if_neg (by decide), if_pos trivial, if_pos rfl, if_pos (by rw [b2]; unfold wrap64; omega), b1, Option.bind_some, list_f l 4 h5 (by decide) (by omega) (by omega)]
      rfl
    · have hf : l.all mayB = false := by simpa using hm
      rw [hf]
      unfold encN
      rw [if_neg hm]
      rfl
  | succ d ih =>
    intro k i hd hk
    obtain ⟨k, rfl⟩ : ∃ m, k = m + 1 := ⟨k - 1, by omega⟩
    have hi : i < l.length := by omega
    have ho : l.getD i z36 ∈ l := by
      rw [List.getD_eq_getElem?_getD, List.getElem?_eq_getElem hi]
      exact List.getElem_mem hi
    have h1 := hw _ ho
    have hr := ih k (i + 1) (by omega) (by omega)
    rw [take_all l i hi] at hr
    simp only [dormerlaw20_ScriptBack.l0]
    rw [if_pos (by omega), rd36]
    by_cases hb : (l.take i).all mayB = true
    · rw [if_pos hb, if_pos (by omega)]
      generalize l.getD i z36 = o at *
      rw [may_f o h1 (by omega), Option.bind_some, w1 (by omega)]
      rw [hb, Bool.true_and] at hr
      exact hr
    · have hf : (l.take i).all mayB = false := by simpa using hb
      rw [if_neg hb, w1 (by omega)]
      rw [hf, Bool.false_and] at hr
      exact hr
theorem back_val (l : List S36) (hw : ∀ o ∈ l, Wf o) : dormerlaw20_ScriptBack.f 5000 l = some true := by
  unfold dormerlaw20_ScriptBack.f dormerlaw20_awake.f
  rw [Option.bind_some]
  by_cases h : (l.length : Int) > 100
  · rw [if_pos h]
  · rw [if_neg h]
    exact back_l l hw (by omega) l.length 5000 0 (by omega) (by omega)
theorem ScriptBack (a : Option Addr) (len cap : Nat) (l : List S36) (w : World) (hl : l.length = len) (hc : len ≤ cap) (hC : Kd.C k36 w a l.length l) (hw : ∀ o ∈ l, Wf o) :
    Calls Try.prog 4 #[.slice a len cap] w fun e w' => e = .returned (.bool true) ∧ Below w.heap.size w w' := by
  subst hl
  exact dormerlaw20_ScriptBack.calls 5000 a cap l true w hC hc (back_val l hw)
end Go.Proofs.Ytlccjklljlddhaa.Pu
