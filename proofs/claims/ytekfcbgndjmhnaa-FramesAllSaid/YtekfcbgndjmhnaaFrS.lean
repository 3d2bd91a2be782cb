/- Marks and the list of the frames that are taken. No Go function in it. -/
import Derived.Test.YtekfcbgndjmhnaaFrQ
set_option linter.unusedVariables false
set_option linter.unusedSimpArgs false
namespace Go.Proofs.Ytekfcbgndjmhnaa.FrP
/-- The frames that are taken are the listed ones. -/
structure Gv (S : List Bool) (idx : List Nat) : Prop where
  len : S.length = 15
  nodup : idx.Nodup
  lt : ∀ i ∈ idx, i < 15
  on : ∀ j, j < 15 → S.getD j false = decide (j ∈ idx)
def ad (i : Nat) : Int := ((i : Int) + 1) * 4096
theorem gv_start {c : Nat} (hc : c ≤ 15) : Gv (marks 15 c) (List.range c) :=
  ⟨marks_length _ _, List.nodup_range, fun i hi => by have := List.mem_range.1 hi; omega, fun j hj => by rw [marks_getD hj]; simp⟩
theorem gv_at {S : List Bool} {idx : List Nat} (h : Gv S idx) {k : Nat} (hk : k < idx.length) : idx.getD k 0 < S.length ∧ S.getD (idx.getD k 0) false = true := by
  have hm : idx.getD k 0 ∈ idx := by rw [List.getD_eq_getElem?_getD, List.getElem?_eq_getElem hk]; exact List.getElem_mem hk
  have := h.lt _ hm
  rw [h.len, h.on _ this]
  exact ⟨this, by simp only [hm, decide_true]⟩
theorem gv_give {S : List Bool} {idx : List Nat} (h : Gv S idx) {k : Nat} (hk : k < idx.length) : Gv (S.set (idx.getD k 0) false) (idx.take k ++ idx.drop (k + 1)) := by
  have hl := (gv_at h hk).1
  have hd : idx = idx.take k ++ idx.getD k 0 :: idx.drop (k + 1) := by
    conv => lhs; rw [← List.take_append_drop k idx]
    rw [List.drop_eq_getElem_cons hk, List.getD_eq_getElem?_getD, List.getElem?_eq_getElem hk]
    rfl
  have hn := h.nodup
  have ho := h.on
  have hlt := h.lt
  generalize idx.getD k 0 = x at *
  generalize idx.take k = A at *
  generalize idx.drop (k + 1) = B at *
  subst hd
  have hn2 := (List.perm_middle.nodup_iff).1 hn
  rw [List.nodup_cons] at hn2
  refine ⟨by rw [List.length_set]; exact h.len, hn2.2, fun i hi => hlt i ?_, fun j hj => ?_⟩
  · rw [List.mem_append] at hi
    rcases hi with hi | hi <;> simp [hi]
  · by_cases hjx : j = x
    · subst hjx
      rw [set_get hl]
      simp only [hn2.1, decide_false]
    · rw [set_other false hjx, ho j hj]
      congr 1
      simp [hjx]
theorem gv_none {S : List Bool} (h : Gv S []) : S.count true = 0 ∧ S.getD 0 false = false := by
  refine ⟨List.count_eq_zero.2 fun hm => ?_, by rw [h.on 0 (by omega)]; rfl⟩
  obtain ⟨j, hj, he⟩ := List.getElem_of_mem hm
  have := h.on j (by rw [h.len] at hj; exact hj)
  rw [List.getD_eq_getElem?_getD, List.getElem?_eq_getElem hj] at this
  simp [he] at this
theorem gv_drop {S : List Bool} {idx : List Nat} {i : Nat} (h : Gv S (idx.drop i)) (hi : i < idx.length) : idx.getD i 0 < S.length ∧ S.getD (idx.getD i 0) false = true ∧ Gv (S.set (idx.getD i 0) false) (idx.drop (i + 1)) := by
  have hk : 0 < (idx.drop i).length := by rw [List.length_drop]; omega
  have e : (idx.drop i).getD 0 0 = idx.getD i 0 := by simp [List.getD_eq_getElem?_getD]
  have h1 := gv_at h hk
  have h2 := gv_give h hk
  rw [e] at h1 h2
  refine ⟨h1.1, h1.2, ?_⟩
  simpa [List.drop_drop, Nat.add_comm] using h2
theorem ad_getD (idx : List Nat) (k : Nat) (hk : k < idx.length) : (idx.map ad).getD k 0 = ((idx.getD k 0 : Nat) : Int) * 4096 + 4096 := by
  simp only [List.getD_eq_getElem?_getD, List.getElem?_map, List.getElem?_eq_getElem hk, Option.map_some, Option.getD_some, ad]
  omega
end Go.Proofs.Ytekfcbgndjmhnaa.FrP
