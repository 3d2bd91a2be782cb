/- Of every ops and every bytes the law ScriptTells returns true. No condition. -/
import Derived.Test.YtlccjklljlddhaaFlScriptTells
import Derived.Test.YtlccjklljlddhaaS3
set_option linter.unusedVariables false
set_option linter.unusedSimpArgs false
namespace Go.Proofs.Ytlccjklljlddhaa.Pu
open Go.RowKit Go.Proofs.Ytlccjklljlddhaa.NL Go.Proofs.Ytlccjklljlddhaa.Fn Go.Proofs.Ytlccjklljlddhaa.SC Go.Proofs.YtlccjklljlddhaaW.PrintWords Go.Proofs.YtlccjklljlddhaaW.PrintLast
theorem quiet_len (l : List S36) : (quietN l).length ≤ l.length := by
  unfold quietN
  rw [List.length_map]
  exact List.length_filter_le _ _
theorem quiet_five (l : List S36) : ∀ o ∈ quietN l, o.f5.length ≤ 0 := by
  intro o ho
  unfold quietN at ho
  obtain ⟨x, _, rfl⟩ := List.mem_map.1 ho
  exact Nat.le_refl _
theorem most (l : List S36) : ∃ K, ∀ o ∈ l, o.f5.length ≤ K := by
  induction l with
  | nil => exact ⟨0, fun o h => by cases h⟩
  | cons p r ih =>
    obtain ⟨K, h⟩ := ih
    refine ⟨p.f5.length + K, fun o ho => ?_⟩
    rcases List.mem_cons.1 ho with rfl | ho
    · omega
    · have := h o ho
      omega
theorem nbne (b : Bool) : ¬ ((b != b) = true) := by simp
theorem tells_l (l : List S36) (hw : ∀ o ∈ l, Wf o) (hl : l.length ≤ 100) (K : Nat) (hK : ∀ o ∈ l, o.f5.length ≤ K) (bs : List Nat) (hb : ∀ b ∈ bs, b < 256) (hbl : bs.length ≤ 2000) (x : List Int) (y : Int) (d : Nat) :
    ∀ k i : Nat, i + d = l.length → d + K + 5000 < k → dormerlaw20_ScriptTells.l0 k l (ints bs) true x y x y (i : Int) = some true := by
  induction d with
  | zero =>
    intro k i hd hk
    obtain ⟨k, rfl⟩ : ∃ m, k = m + 1 := ⟨k - 1, by omega⟩
    have hql := quiet_len l
    have hok : lenOK l = true := by
      unfold lenOK
      exact decide_eq_true (by omega)
    have hD := dec_ok hb
    have hL := dec_len bs
    have h5 : ∀ o ∈ decN bs, o.f5.length ≤ 4 := fun o ho => by have := (mayB_iff o).1 (hD o ho).1; omega
    simp only [dormerlaw20_ScriptTells.l0]
    unfold script_Decode.f dormerref20_Decode.f script_Quiet.f dormerref20_Quiet.f
    rw [if_neg (by omega), if_pos trivial, if_pos trivial, if_pos trivial, if_pos (okB_of hb (by omega)), Option.bind_some, Option.bind_some, nats_ints, list_f _ 4 h5 (by decide) (by omega) (by omega), Option.bind_some, if_pos rfl, if_pos hok, Option.bind_some, Option.bind_some, list_f _ 0 (quiet_five l) (by decide) (by omega) (by omega)]
    rfl
  | succ d ih =>
    intro k i hd hk
    obtain ⟨k, rfl⟩ : ∃ m, k = m + 1 := ⟨k - 1, by omega⟩
    have hi : i < l.length := by omega
    have mem : ∀ j, j < l.length → l.getD j z36 ∈ l := fun j hj => by
      rw [List.getD_eq_getElem?_getD, List.getElem?_eq_getElem hj]
      exact List.getElem_mem hj
    have ho := mem i hi
    have h1 := hw _ ho
    have h2 := hK _ ho
    have r0 : rd_T36 l 0 = l.getD 0 z36 := rd36 l 0
    simp only [dormerlaw20_ScriptTells.l0]
    rw [if_pos (by omega), if_pos (by omega), rd36, r0]
    generalize l.getD i z36 = o at *
    generalize l.getD 0 z36 = o' at *
    rw [may_f o h1 (by omega), Option.bind_some, rmay_f o (by omega), Option.bind_some, if_neg (nbne _), if_pos (by omega), same_f o o' h1.p (by omega), Option.bind_some, rsame_f o o' h1.p (by omega), Option.bind_some, if_neg (nbne _), w1 (by omega), ih k (i + 1) (by omega) (by omega)]
theorem tells_val (l : List S36) (hw : ∀ o ∈ l, Wf o) (bs : List Nat) (hb : ∀ b ∈ bs, b < 256) : ∃ k, dormerlaw20_ScriptTells.f k l (ints bs) = some true := by
  obtain ⟨K, hK⟩ := most l
  refine ⟨K + 6000, ?_⟩
  unfold dormerlaw20_ScriptTells.f dormerlaw20_awake.f
  rw [Option.bind_some]
  have yes : dormerlaw20_ScriptTells.j0 (K + 6000) l (ints bs) true true = some true := by simp only [dormerlaw20_ScriptTells.j0]; rfl
  by_cases h : (l.length : Int) > 100
  · rw [if_pos h]; exact yes
  · rw [if_neg h]
    by_cases h2 : ((ints bs).length : Int) > 2000
    · rw [decide_eq_true h2]; exact yes
    · rw [decide_eq_false h2]
      rw [ints_length] at h2
      simp only [dormerlaw20_ScriptTells.j0]
      rw [if_neg (by decide), enc_f l hw (by omega) (by omega), Option.bind_some, renc_f l hw (by omega) (by omega), Option.bind_some]
      exact tells_l l hw (by omega) K hK bs hb (by omega) _ _ l.length _ 0 (by omega) (by omega)
theorem ScriptTells (a : Option Addr) (len cap : Nat) (l : List S36) (w : World) (hl : l.length = len) (hc : len ≤ cap) (hC : Kd.C k36 w a l.length l) (hw : ∀ o ∈ l, Wf o)
    (a0 : Option Addr) (len0 cap0 : Nat) (z0 : List Int) (w0 : (a0 = none ∧ len0 = 0 ∧ cap0 = 0 ∧ z0 = []) ∨ ∃ x, a0 = some x ∧ len0 ≤ cap0 ∧ cap0 ≤ maxLen ∧ z0.length = cap0 ∧ (∀ i, i < z0.length → w.cell? (x.add i) = some (.int .u8 (z0.getD i 0))) ∧ ∀ n ∈ z0, (Lit.int .u8 n).wf = true) :
    Calls Try.prog 3 #[.slice a len cap, .slice a0 len0 cap0] w fun e w' => e = .returned (.bool true) ∧ Below w.heap.size w w' := by
  subst hl
  obtain ⟨l0, rfl, hr0, hm0, hw0, hc0⟩ := ReadsInt.ofRowC w0
  obtain ⟨bs, rfl, hb⟩ := ints_of hw0
  obtain ⟨k, h⟩ := tells_val l hw bs hb
  exact dormerlaw20_ScriptTells.calls k a cap l a0 cap0 (ints bs) true w hC hc (Kd.C_of_reads (d := (0 : Int)) (h1 := fun _ => rfl) hr0) hc0 h (Lib.hid rfl)
end Go.Proofs.Ytlccjklljlddhaa.Pu
