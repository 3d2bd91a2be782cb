/- Marks: the lowest one that is off, and how many are on. No Go function in it. -/
import Derived.Test.YtekfcbgndjmhnaaFrP
set_option linter.unusedVariables false
set_option linter.unusedSimpArgs false
namespace Go.Proofs.Ytekfcbgndjmhnaa.FrP
theorem lowest : ∀ S : List Bool, (∃ i, i < S.length ∧ S.getD i false = false ∧ (∀ j, j < i → S.getD j false = true)) ∨ (∀ j, j < S.length → S.getD j false = true)
  | [] => .inr fun j hj => by simp at hj
  | false :: r => .inl ⟨0, by simp, rfl, fun j hj => by omega⟩
  | true :: r => by
    rcases lowest r with ⟨i, h1, h2, h3⟩ | h
    · refine .inl ⟨i + 1, by simp; omega, by simpa using h2, fun j hj => ?_⟩
      cases j with
      | zero => rfl
      | succ j => simpa using h3 j (by omega)
    · refine .inr fun j hj => ?_
      cases j with
      | zero => rfl
      | succ j => simpa using h j (by simpa using hj)
theorem count_full : ∀ {S : List Bool}, (∀ j, j < S.length → S.getD j false = true) → S.count true = S.length
  | [], _ => rfl
  | b :: r, h => by
    have h0 := h 0 (by simp)
    simp at h0
    subst h0
    have := count_full (S := r) (fun j hj => by simpa using h (j + 1) (by simpa using hj))
    simp [this]
theorem count_under : ∀ {S : List Bool} {i : Nat}, i < S.length → S.getD i false = false → S.count true < S.length := by
  intro S i hi hf
  have h1 := count_set_true hi hf
  have h2 := List.count_le_length (a := true) (l := S.set i true)
  rw [List.length_set] at h2
  omega
theorem count_over : ∀ {S : List Bool} {i : Nat}, i < S.length → S.getD i false = true → 0 < S.count true := by
  intro S i hi hf
  have h1 := count_set_false hi hf
  omega
theorem set_get {S : List Bool} {i : Nat} (hi : i < S.length) (b : Bool) : (S.set i b).getD i false = b := by
  have h := tk_set_same hi b
  rwa [tk_at] at h
theorem set_other {S : List Bool} {i j : Nat} (b : Bool) (h : j ≠ i) : (S.set i b).getD j false = S.getD j false := by
  have h := tk_set_other (S := S) (i := i) (a := (j + 1) * 4096) b (by omega)
  rwa [tk_at, tk_at] at h
theorem tk_zero (S : List Bool) : tk S 0 = false := by rw [tk]; simp
end Go.Proofs.Ytekfcbgndjmhnaa.FrP
