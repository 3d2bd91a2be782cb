/- Ops as values: whether they may be, whether they are the same, their bytes: what the printed functions come to. Conditions: those each lemma names. -/
import Derived.Test.YtlccjklljlddhaaNF
import Derived.Test.YtlccjklljlddhaaFnx4
import Derived.Test.YtlccjklljlddhaaFnx6
import Derived.Test.YtlccjklljlddhaaFnx7
import Derived.Test.YtlccjklljlddhaaFnx8
import Derived.Test.YtlccjklljlddhaaFnx9
set_option linter.unusedVariables false
set_option linter.unusedSimpArgs false
namespace Go.Proofs.Ytlccjklljlddhaa.SC
open Go.RowKit Go.Proofs.Ytlccjklljlddhaa.NL Go.Proofs.Ytlccjklljlddhaa.Fn Go.Proofs.YtlccjklljlddhaaW.PrintWords Go.Proofs.YtlccjklljlddhaaW.PrintLast Go.Proofs.YtlccjklljlddhaaW.PrintMore
theorem w1 {i : Nat} (h : i < 9223372036854775807) : wrap64 ((i : Int) + 1) = ((i + 1 : Nat) : Int) := by unfold wrap64; omega
theorem dropC {α : Type} {l : List α} {i : Nat} (d : α) (h : i < l.length) : l.drop i = l.getD i d :: l.drop (i + 1) := by
  rw [List.drop_eq_getElem_cons h, List.getD_eq_getElem?_getD, List.getElem?_eq_getElem h]
  rfl
theorem rd36 (l : List S36) (i : Nat) : rd_T36 l (i : Int) = l.getD i z36 := by unfold rd_T36; simp
/-- What an op's values are. -/
structure Wf (o : S36) : Prop where
  k : -9223372036854775808 ≤ o.f0 ∧ o.f0 < 9223372036854775808
  a : 0 ≤ o.f1 ∧ o.f1 < 18446744073709551616
  v : 0 ≤ o.f3 ∧ o.f3 < 18446744073709551616
  p : o.f5.length ≤ 9223372036854775807
def mayB (o : S36) : Bool := decide (1 ≤ o.f0 ∧ o.f0 ≤ 8 ∧ 0 ≤ o.f4.f0 ∧ o.f4.f0 ≤ 63 ∧ 0 ≤ o.f2 ∧ o.f2 ≤ 255 ∧ o.f5.length = 4 ∧ ∀ p ∈ o.f5, 0 ≤ p ∧ p ≤ 255)
theorem mayB_iff (o : S36) : mayB o = true ↔ 1 ≤ o.f0 ∧ o.f0 ≤ 8 ∧ 0 ≤ o.f4.f0 ∧ o.f4.f0 ≤ 63 ∧ 0 ≤ o.f2 ∧ o.f2 ≤ 255 ∧ o.f5.length = 4 ∧ ∀ p ∈ o.f5, 0 ≤ p ∧ p ≤ 255 := decide_eq_true_iff
theorem in_tot (e : Int) (l : List Int) (hl : l.length ≤ 9223372036854775807) (d : Nat) : ∀ k i : Nat, i + d = l.length → d < k → script_in.l0 k e l (l.length : Int) (i : Int) = some (!(l.drop i).any (outB e)) := by
  induction d with
  | zero =>
    intro k i hd hk
    obtain ⟨k, rfl⟩ : ∃ m, k = m + 1 := ⟨k - 1, by omega⟩
    simp only [script_in.l0]
    rw [if_neg (by omega), List.drop_of_length_le (by omega)]
    rfl
  | succ d ih =>
    intro k i hd hk
    obtain ⟨k, rfl⟩ : ∃ m, k = m + 1 := ⟨k - 1, by omega⟩
    simp only [script_in.l0]
    rw [if_pos (by omega), if_pos (by omega), if_pos (by omega), dropC 0 (by omega), rd_nat, List.any_cons]
    by_cases h1 : l.getD i 0 < 0
    · rw [if_pos h1, outB, decide_eq_true h1]; rfl
    · rw [if_neg h1]
      by_cases h2 : l.getD i 0 ≥ e
      · rw [if_pos h2, outB, decide_eq_true (show e ≤ l.getD i 0 from h2), Bool.or_true]; rfl
      · rw [if_neg h2, w1 (by omega), ih k (i + 1) (by omega) (by omega), outB, decide_eq_false h1, decide_eq_false (show ¬ e ≤ l.getD i 0 from h2)]
        rfl
theorem in_f {k : Nat} (e : Int) (l : List Int) (hl : l.length ≤ 9223372036854775807) (hk : l.length < k) : script_in.f k e l = some (!l.any (outB e)) := by
  have := in_tot e l hl l.length k 0 (by omega) hk
  rwa [List.drop_zero] at this
theorem outB_iff (e x : Int) : (!outB e x) = decide (0 ≤ x ∧ x < e) := by
  rw [Bool.eq_iff_iff, decide_eq_true_iff]
  unfold outB
  simp
theorem any_iff (l : List Int) : (!l.any (outB 256)) = decide (∀ p ∈ l, 0 ≤ p ∧ p ≤ 255) := by
  rw [Bool.eq_iff_iff, decide_eq_true_iff, Bool.not_eq_true', List.any_eq_false]
  constructor
  · intro h p hp
    have h1 := h p hp
    have h2 := outB_iff 256 p
    rw [Bool.not_eq_true] at h1
    rw [h1] at h2
    have := of_decide_eq_true h2.symm
    omega
  · intro h p hp
    have h1 := h p hp
    have h2 := outB_iff 256 p
    rw [decide_eq_true (by omega)] at h2
    simpa using h2
theorem may_f {k : Nat} (o : S36) (h : Wf o) (hk : 6 ≤ k) : script_May.f k o.f0 o.f1 o.f2 o.f3 o.f4.f0 o.f4.f1 o.f4.f2 o.f5 = some (mayB o) := by
  have hw := h.k
  have hp := h.p
  unfold script_May.f
  rw [in_f 8 _ (by simp) (by simp; omega), Option.bind_some, in_f 64 _ (by simp) (by simp; omega), in_f 256 _ (by simp) (by simp; omega)]
  simp only [List.any_cons, List.any_nil, Bool.or_false, Option.bind_some, outB_iff]
  by_cases h1 : 0 ≤ wrap64 (o.f0 - 1) ∧ wrap64 (o.f0 - 1) < 8
  · rw [if_pos (decide_eq_true h1)]
    have h1' : 1 ≤ o.f0 ∧ o.f0 ≤ 8 := by unfold wrap64 at h1; omega
    by_cases h2 : 0 ≤ o.f4.f0 ∧ o.f4.f0 < 64
    · rw [if_pos (decide_eq_true h2)]
      by_cases h3 : 0 ≤ o.f2 ∧ o.f2 < 256
      · rw [if_pos (decide_eq_true h3)]
        by_cases h4 : (o.f5.length : Int) = 4
        · rw [if_pos h4, in_f 256 _ hp (by omega), Option.bind_some, any_iff]
          congr 1
          rw [Bool.eq_iff_iff, mayB_iff, decide_eq_true_iff]
          constructor
          · intro h; exact ⟨h1'.1, h1'.2, by omega, by omega, by omega, by omega, by omega, h⟩
          · intro h; exact h.2.2.2.2.2.2.2
        · rw [if_neg h4]
          congr 1
          exact (decide_eq_false (fun h => h4 (by omega))).symm
      · rw [if_neg (by simpa using h3)]
        congr 1
        exact (decide_eq_false (fun h => h3 (by omega))).symm
    · rw [if_neg (by simpa using h2)]
      congr 1
      exact (decide_eq_false (fun h => h2 (by omega))).symm
  · rw [if_neg (by simpa using h1)]
    congr 1
    exact (decide_eq_false (fun h => h1 (by unfold wrap64; omega))).symm
theorem rmay_l (o : S36) (hl : o.f5.length = 4) (d : Nat) : ∀ k i : Nat, i + d = 4 → d < k → dormerref20_May.l0 k (i : Int) o.f0 o.f1 o.f2 o.f3 o.f4.f0 o.f4.f1 o.f4.f2 o.f5 = some (decide (∀ p ∈ o.f5.drop i, 0 ≤ p ∧ p ≤ 255)) := by
  induction d with
  | zero =>
    intro k i hd hk
    obtain ⟨k, rfl⟩ : ∃ m, k = m + 1 := ⟨k - 1, by omega⟩
    simp only [dormerref20_May.l0]
    rw [if_neg (by omega), List.drop_of_length_le (by omega)]
    rfl
  | succ d ih =>
    intro k i hd hk
    obtain ⟨k, rfl⟩ : ∃ m, k = m + 1 := ⟨k - 1, by omega⟩
    simp only [dormerref20_May.l0]
    rw [if_pos (by omega), if_pos (by omega), if_pos (by omega), dropC 0 (by omega), rd_nat]
    by_cases h1 : o.f5.getD i 0 < 0
    · rw [if_pos h1]
      exact congrArg some (decide_eq_false (fun h => by have := h _ (List.mem_cons_self ..); omega)).symm
    · rw [if_neg h1]
      by_cases h2 : o.f5.getD i 0 > 255
      · rw [if_pos h2]
        exact congrArg some (decide_eq_false (fun h => by have := h _ (List.mem_cons_self ..); omega)).symm
      · rw [if_neg h2, w1 (by omega), ih k (i + 1) (by omega) (by omega)]
        congr 1
        rw [Bool.eq_iff_iff, decide_eq_true_iff, decide_eq_true_iff]
        constructor
        · intro h p hp
          rcases List.mem_cons.1 hp with rfl | hp
          · omega
          · exact h p hp
        · intro h p hp
          exact h p (List.mem_cons_of_mem _ hp)
theorem rmay_no {k : Nat} (o : S36) (hk : 6 ≤ k) (h : mayB o = false) : dormerref20_May.j0 k true o.f0 o.f1 o.f2 o.f3 o.f4.f0 o.f4.f1 o.f4.f2 o.f5 = some (mayB o) := by
  obtain ⟨k, rfl⟩ : ∃ m, k = m + 1 := ⟨k - 1, by omega⟩
  simp only [dormerref20_May.j0]
  rw [h]
  rfl
theorem rmay_f {k : Nat} (o : S36) (hk : 6 ≤ k) : dormerref20_May.f k o.f0 o.f1 o.f2 o.f3 o.f4.f0 o.f4.f1 o.f4.f2 o.f5 = some (mayB o) := by
  unfold dormerref20_May.f
  by_cases h1 : o.f0 < 1
  · rw [if_pos h1, rmay_no o hk (decide_eq_false (fun h => by omega))]
  rw [if_neg h1]
  by_cases h2 : o.f0 > 8
  · rw [if_pos h2, rmay_no o hk (decide_eq_false (fun h => by omega))]
  rw [if_neg h2]
  by_cases h3 : o.f4.f0 < 0
  · rw [if_pos h3, rmay_no o hk (decide_eq_false (fun h => by omega))]
  rw [if_neg h3]
  by_cases h4 : o.f4.f0 > 63
  · rw [if_pos h4, rmay_no o hk (decide_eq_false (fun h => by omega))]
  rw [if_neg h4]
  by_cases h5 : o.f2 < 0
  · rw [if_pos h5, rmay_no o hk (decide_eq_false (fun h => by omega))]
  rw [if_neg h5]
  by_cases h6 : o.f2 > 255
  · rw [if_pos h6, rmay_no o hk (decide_eq_false (fun h => by omega))]
  rw [if_neg h6]
  by_cases h7 : o.f5.length = 4
  · rw [show ((o.f5.length : Int) != 4) = false by rw [h7]; rfl]
    obtain ⟨k, rfl⟩ : ∃ m, k = m + 1 := ⟨k - 1, by omega⟩
    simp only [dormerref20_May.j0]
    rw [if_neg (by decide)]
    have := rmay_l o h7 4 k 0 (by omega) (by omega)
    rw [List.drop_zero] at this
    rw [show (0 : Int) = ((0 : Nat) : Int) from rfl, this]
    congr 1
    rw [Bool.eq_iff_iff, mayB_iff, decide_eq_true_iff]
    constructor
    · intro h; exact ⟨by omega, by omega, by omega, by omega, by omega, by omega, h7, h⟩
    · intro h; exact h.2.2.2.2.2.2.2
  · rw [show ((o.f5.length : Int) != 4) = true by simp; omega, rmay_no o hk (decide_eq_false (fun h => by omega))]
/-- Are two ops the same? -/
def sameB (a b : S36) : Bool := decide (a.f0 = b.f0 ∧ a.f1 = b.f1 ∧ a.f2 = b.f2 ∧ a.f3 = b.f3 ∧ a.f4.f0 = b.f4.f0 ∧ a.f4.f1 = b.f4.f1 ∧ a.f4.f2 = b.f4.f2 ∧ a.f5 = b.f5)
theorem equal_l (l m : List Int) (hm : l.length = m.length) (hl : l.length ≤ 9223372036854775807) (d : Nat) : ∀ k i : Nat, i + d = l.length → d < k → slices_Equal_int_int.l0 k l m (l.length : Int) (i : Int) = some (decide (l.drop i = m.drop i)) := by
  induction d with
  | zero =>
    intro k i hd hk
    obtain ⟨k, rfl⟩ : ∃ m, k = m + 1 := ⟨k - 1, by omega⟩
    simp only [slices_Equal_int_int.l0]
    rw [if_neg (by omega), List.drop_of_length_le (by omega), List.drop_of_length_le (by omega)]
    rfl
  | succ d ih =>
    intro k i hd hk
    obtain ⟨k, rfl⟩ : ∃ m, k = m + 1 := ⟨k - 1, by omega⟩
    simp only [slices_Equal_int_int.l0]
    rw [if_pos (by omega), if_pos (by omega), if_pos (by omega), if_pos (by omega), dropC (l := l) 0 (by omega), dropC (l := m) 0 (by omega), rd_nat, rd_nat]
    by_cases h1 : l.getD i 0 = m.getD i 0
    · rw [if_pos h1, w1 (by omega), ih k (i + 1) (by omega) (by omega), h1]
      congr 1
      simp
    · rw [if_neg h1]
      congr 1
      exact (decide_eq_false (fun h => h1 (List.cons.inj h).1)).symm
theorem equal_f {k : Nat} (l m : List Int) (hl : l.length ≤ 9223372036854775807) (hk : l.length < k) : slices_Equal_int_int.f k l m = some (decide (l = m)) := by
  unfold slices_Equal_int_int.f
  by_cases h : l.length = m.length
  · rw [if_pos (by omega)]
    have := equal_l l m h hl l.length k 0 (by omega) hk
    rw [List.drop_zero, List.drop_zero] at this
    exact this
  · rw [if_neg (by omega)]
    congr 1
    exact (decide_eq_false (fun e => h (by rw [e]))).symm
theorem acc_iff (x0 y0 : Int) (x1 y1 x2 y2 : Bool) : ((x0 == y0 && (x1 == y1 && (x2 == y2))) = true) ↔ (x0 = y0 ∧ x1 = y1 ∧ x2 = y2) := by simp
theorem same_f {k : Nat} (a b : S36) (hl : a.f5.length ≤ 9223372036854775807) (hk : a.f5.length < k) : script_Same.f k a.f0 a.f1 a.f2 a.f3 a.f4.f0 a.f4.f1 a.f4.f2 a.f5 b.f0 b.f1 b.f2 b.f3 b.f4.f0 b.f4.f1 b.f4.f2 b.f5 = some (sameB a b) := by
  unfold script_Same.f
  by_cases h1 : a.f0 = b.f0
  · rw [if_pos h1]
    by_cases h2 : a.f1 = b.f1
    · rw [if_pos h2]
      by_cases h3 : a.f2 = b.f2
      · rw [if_pos h3]
        by_cases h4 : a.f3 = b.f3
        · rw [if_pos h4]
          by_cases h5 : a.f4.f0 = b.f4.f0 ∧ a.f4.f1 = b.f4.f1 ∧ a.f4.f2 = b.f4.f2
          · rw [if_pos ((acc_iff ..).2 h5), equal_f _ _ hl hk, Option.bind_some]
            congr 1
            rw [Bool.eq_iff_iff, decide_eq_true_iff]
            unfold sameB
            rw [decide_eq_true_iff]
            exact ⟨fun h => ⟨h1, h2, h3, h4, h5.1, h5.2.1, h5.2.2, h⟩, fun h => h.2.2.2.2.2.2.2⟩
          · rw [if_neg (fun h => h5 ((acc_iff ..).1 h))]
            exact congrArg some (decide_eq_false (fun h => h5 ⟨h.2.2.2.2.1, h.2.2.2.2.2.1, h.2.2.2.2.2.2.1⟩)).symm
        · rw [if_neg h4]
          exact congrArg some (decide_eq_false (fun h => h4 h.2.2.2.1)).symm
      · rw [if_neg h3]
        exact congrArg some (decide_eq_false (fun h => h3 h.2.2.1)).symm
    · rw [if_neg h2]
      exact congrArg some (decide_eq_false (fun h => h2 h.2.1)).symm
  · rw [if_neg h1]
    exact congrArg some (decide_eq_false (fun h => h1 h.1)).symm
theorem sameB_iff (a b : S36) : sameB a b = true ↔ a = b := by
  unfold sameB
  rw [decide_eq_true_iff]
  constructor
  · intro h
    obtain ⟨a0, a1, a2, a3, ⟨a4, a5, a6⟩, a7⟩ := a
    obtain ⟨b0, b1, b2, b3, ⟨b4, b5, b6⟩, b7⟩ := b
    simp only at h
    obtain ⟨rfl, rfl, rfl, rfl, rfl, rfl, rfl, rfl⟩ := h
    rfl
  · rintro rfl
    exact ⟨rfl, rfl, rfl, rfl, rfl, rfl, rfl, rfl⟩
theorem rsame_no {k : Nat} (a b : S36) (hk : 2 ≤ k) (h : sameB a b = false) : dormerref20_Same.j0 k true a.f0 a.f1 a.f2 a.f3 a.f4.f0 a.f4.f1 a.f4.f2 a.f5 b.f0 b.f1 b.f2 b.f3 b.f4.f0 b.f4.f1 b.f4.f2 b.f5 = some (sameB a b) := by
  obtain ⟨k, rfl⟩ : ∃ m, k = m + 1 := ⟨k - 1, by omega⟩
  simp only [dormerref20_Same.j0]
  rw [h]
  rfl
theorem rsame_l (a b : S36) (hm : a.f5.length = b.f5.length) (hl : a.f5.length ≤ 9223372036854775807) (d : Nat) : ∀ k i : Nat, i + d = a.f5.length → d < k → dormerref20_Same.l0 k (i : Int) a.f0 a.f1 a.f2 a.f3 a.f4.f0 a.f4.f1 a.f4.f2 a.f5 b.f0 b.f1 b.f2 b.f3 b.f4.f0 b.f4.f1 b.f4.f2 b.f5 = some (decide (a.f5.drop i = b.f5.drop i)) := by
  induction d with
  | zero =>
    intro k i hd hk
    obtain ⟨k, rfl⟩ : ∃ m, k = m + 1 := ⟨k - 1, by omega⟩
    simp only [dormerref20_Same.l0]
    rw [if_neg (by omega), List.drop_of_length_le (by omega), List.drop_of_length_le (by omega)]
    rfl
  | succ d ih =>
    intro k i hd hk
    obtain ⟨k, rfl⟩ : ∃ m, k = m + 1 := ⟨k - 1, by omega⟩
    simp only [dormerref20_Same.l0]
    rw [if_pos (by omega), if_pos (by omega), if_pos (by omega), dropC (l := a.f5) 0 (by omega), dropC (l := b.f5) 0 (by omega), rd_nat, rd_nat]
    by_cases h1 : a.f5.getD i 0 = b.f5.getD i 0
    · rw [if_pos h1, w1 (by omega), ih k (i + 1) (by omega) (by omega), h1]
      congr 1
      simp
    · rw [if_neg h1]
      congr 1
      exact (decide_eq_false (fun h => h1 (List.cons.inj h).1)).symm
theorem nacc_iff (x0 y0 : Int) (x1 y1 x2 y2 : Bool) : ((!(x0 == y0) || (!(x1 == y1) || (!(x2 == y2)))) = true) ↔ ¬ (x0 = y0 ∧ x1 = y1 ∧ x2 = y2) := by
  rw [← acc_iff]
  cases (x0 == y0) <;> cases (x1 == y1) <;> cases (x2 == y2) <;> simp
theorem rsame_f {k : Nat} (a b : S36) (hl : a.f5.length ≤ 9223372036854775807) (hk : a.f5.length + 2 ≤ k) : dormerref20_Same.f k a.f0 a.f1 a.f2 a.f3 a.f4.f0 a.f4.f1 a.f4.f2 a.f5 b.f0 b.f1 b.f2 b.f3 b.f4.f0 b.f4.f1 b.f4.f2 b.f5 = some (sameB a b) := by
  unfold dormerref20_Same.f
  by_cases h1 : a.f0 = b.f0
  · rw [if_pos h1]
    by_cases h2 : a.f1 = b.f1
    · rw [if_pos h2]
      by_cases h3 : a.f2 = b.f2
      · rw [if_pos h3]
        by_cases h4 : a.f3 = b.f3
        · rw [if_pos h4]
          by_cases h5 : a.f4.f0 = b.f4.f0 ∧ a.f4.f1 = b.f4.f1 ∧ a.f4.f2 = b.f4.f2
          · rw [if_neg (fun h => (nacc_iff ..).1 h h5)]
            by_cases h6 : a.f5.length = b.f5.length
            · rw [show ((a.f5.length : Int) != (b.f5.length : Int)) = false by rw [h6]; simp]
              obtain ⟨k, rfl⟩ : ∃ m, k = m + 1 := ⟨k - 1, by omega⟩
              simp only [dormerref20_Same.j0]
              rw [if_neg (by decide)]
              have := rsame_l a b h6 hl a.f5.length k 0 (by omega) (by omega)
              rw [List.drop_zero, List.drop_zero] at this
              rw [show (0 : Int) = ((0 : Nat) : Int) from rfl, this]
              congr 1
              rw [Bool.eq_iff_iff, decide_eq_true_iff]
              unfold sameB
              rw [decide_eq_true_iff]
              exact ⟨fun h => ⟨h1, h2, h3, h4, h5.1, h5.2.1, h5.2.2, h⟩, fun h => h.2.2.2.2.2.2.2⟩
            · rw [show ((a.f5.length : Int) != (b.f5.length : Int)) = true by simp; omega]
              exact rsame_no a b (by omega) (decide_eq_false (fun h => h6 (by rw [h.2.2.2.2.2.2.2])))
          · rw [if_pos ((nacc_iff ..).2 h5)]
            exact rsame_no a b (by omega) (decide_eq_false (fun h => h5 ⟨h.2.2.2.2.1, h.2.2.2.2.2.1, h.2.2.2.2.2.2.1⟩))
        · rw [if_neg h4]
          exact rsame_no a b (by omega) (decide_eq_false (fun h => h4 h.2.2.2.1))
      · rw [if_neg h3]
        exact rsame_no a b (by omega) (decide_eq_false (fun h => h3 h.2.2.1))
    · rw [if_neg h2]
      exact rsame_no a b (by omega) (decide_eq_false (fun h => h2 h.2.1))
  · rw [if_neg h1]
    exact rsame_no a b (by omega) (decide_eq_false (fun h => h1 h.1))
theorem list_l (l : List S36) (K : Nat) (hK : ∀ o ∈ l, o.f5.length ≤ K) (hK2 : K ≤ 9223372036854775807) (hl : l.length ≤ 9223372036854775807) (d : Nat) : ∀ k i : Nat, i + d = l.length → d + K + 2 < k → dormerref20_List.l0 k l l (i : Int) = some true := by
  induction d with
  | zero =>
    intro k i hd hk
    obtain ⟨k, rfl⟩ : ∃ m, k = m + 1 := ⟨k - 1, by omega⟩
    simp only [dormerref20_List.l0]
    rw [if_neg (by omega)]
  | succ d ih =>
    intro k i hd hk
    obtain ⟨k, rfl⟩ : ∃ m, k = m + 1 := ⟨k - 1, by omega⟩
    have hi : i < l.length := by omega
    have ho : l.getD i z36 ∈ l := by
      rw [List.getD_eq_getElem?_getD, List.getElem?_eq_getElem hi]
      exact List.getElem_mem hi
    have hp := hK _ ho
    simp only [dormerref20_List.l0]
    rw [if_pos (by omega), if_pos (by omega), if_pos (by omega), rd36]
    generalize l.getD i z36 = o at *
    rw [rsame_f o o (by omega) (by omega), Option.bind_some, if_pos ((sameB_iff o o).2 rfl), w1 (by omega), ih k (i + 1) (by omega) (by omega)]
theorem list_f {k : Nat} (l : List S36) (K : Nat) (hK : ∀ o ∈ l, o.f5.length ≤ K) (hK2 : K ≤ 9223372036854775807) (hl : l.length ≤ 9223372036854775807) (hk : l.length + K + 3 ≤ k) : dormerref20_List.f k l l = some true := by
  unfold dormerref20_List.f
  rw [if_pos rfl]
  exact list_l l K hK hK2 hl l.length k 0 (by omega) (by omega)
end Go.Proofs.Ytlccjklljlddhaa.SC
