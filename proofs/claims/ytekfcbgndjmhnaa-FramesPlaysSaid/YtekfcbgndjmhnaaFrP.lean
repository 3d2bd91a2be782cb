/- Frames that are free, as a list of marks and as a map of numbers: what one says of the other. No Go in it. Conditions: those each lemma names. -/
import Derived.Maps.Views
import Derived.Maps.OwnSet
set_option linter.unusedVariables false
set_option linter.unusedSimpArgs false
namespace Go.Proofs.Ytekfcbgndjmhnaa.FrP
open Go.Maps

/-- Is the frame at a taken? -/
def tk (S : List Bool) (a : Nat) : Bool := (a % 4096 == 0 && decide (4096 ≤ a)) && S.getD (a / 4096 - 1) false
theorem tk_at (S : List Bool) (i : Nat) : tk S ((i + 1) * 4096) = S.getD i false := by
  unfold tk
  have e1 : (i + 1) * 4096 % 4096 = 0 := Nat.mul_mod_left _ _
  have e2 : 4096 ≤ (i + 1) * 4096 := by omega
  have e3 : (i + 1) * 4096 / 4096 - 1 = i := by rw [Nat.mul_div_cancel _ (by decide)]; omega
  rw [e1, e3]
  simp [e2]
theorem tk_form {S : List Bool} {a : Nat} (h : tk S a = true) : ∃ i, i < S.length ∧ a = (i + 1) * 4096 ∧ S.getD i false = true := by
  simp only [tk, Bool.and_eq_true, beq_iff_eq, decide_eq_true_eq] at h
  obtain ⟨⟨h1, h2⟩, h3⟩ := h
  refine ⟨a / 4096 - 1, ?_, ?_, h3⟩
  · rcases Nat.lt_or_ge (a / 4096 - 1) S.length with h4 | h4
    · exact h4
    · rw [List.getD_eq_getElem?_getD, List.getElem?_eq_none h4] at h3
      simp at h3
  · omega
theorem tk_set_same {S : List Bool} {i : Nat} (hi : i < S.length) (b : Bool) : tk (S.set i b) ((i + 1) * 4096) = b := by
  rw [tk_at, List.getD_eq_getElem?_getD, List.getElem?_set_self hi]; rfl
theorem tk_set_other {S : List Bool} {i a : Nat} (b : Bool) (h : a ≠ (i + 1) * 4096) : tk (S.set i b) a = tk S a := by
  unfold tk
  by_cases h1 : a % 4096 = 0
  · by_cases h2 : 4096 ≤ a
    · have h3 : i ≠ a / 4096 - 1 := by omega
      rw [List.getD_eq_getElem?_getD, List.getElem?_set_ne h3, ← List.getD_eq_getElem?_getD]
    · simp [h2]
  · have : (a % 4096 == 0) = false := by simpa using h1
    simp [this]
theorem count_set_true {S : List Bool} : ∀ {i : Nat}, i < S.length → S.getD i false = false → (S.set i true).count true = S.count true + 1 := by
  induction S with
  | nil => intro i hi; simp at hi
  | cons b S ih =>
    intro i hi h
    cases i with
    | zero =>
      simp at h
      subst h
      simp
    | succ i =>
      have := ih (i := i) (by simpa using hi) (by simpa using h)
      simp only [List.set_cons_succ, List.count_cons, this]
      omega
theorem count_set_false {S : List Bool} : ∀ {i : Nat}, i < S.length → S.getD i false = true → (S.set i false).count true + 1 = S.count true := by
  induction S with
  | nil => intro i hi; simp at hi
  | cons b S ih =>
    intro i hi h
    cases i with
    | zero =>
      simp at h
      subst h
      simp
    | succ i =>
      have := ih (i := i) (by simpa using hi) (by simpa using h)
      simp only [List.set_cons_succ, List.count_cons]
      omega

abbrev key (a : Nat) : Lit := .int .u64 (a : Int)
abbrev one (z : Int) : DataW Unit := .lit (.int .i64 z)
/-- The map says what the marks say. -/
structure Is (D : DataW Unit) (S : List Bool) : Prop where
  tidy : Tidy D
  at_ : ∀ a : Nat, D.atKey (key a) (one 0) = one (if tk S a = true then 1 else 0)
  has_ : ∀ a : Nat, Maps.has D (key a) = tk S a
  size_ : Maps.size D = S.count true
theorem key_ne {a b : Nat} (h : a ≠ b) : key a ≠ key b := by
  intro e
  injection e with _ e
  omega
theorem key_is (a : Nat) : WideAt.IsKeyLit (key a) := by trivial
theorem is_new (n : Nat) : Is (.map []) (List.replicate n false) := by
  have ht : ∀ a, tk (List.replicate n false) a = false := by
    intro a
    cases h : tk (List.replicate n false) a
    · rfl
    · obtain ⟨i, hi, _, h3⟩ := tk_form h
      rw [List.getD_eq_getElem?_getD, List.getElem?_replicate] at h3
      split at h3 <;> simp at h3
  refine ⟨tidy_empty, fun a => ?_, fun a => ?_, ?_⟩
  · rw [ht]; rfl
  · rw [ht]; rfl
  · rw [List.count_replicate]; rfl
theorem is_put {D : DataW Unit} {S : List Bool} {i : Nat} (h : Is D S) (hi : i < S.length) (hf : S.getD i false = false) : Is (D.put (key ((i + 1) * 4096)) (one 1)) (S.set i true) := by
  refine ⟨h.tidy.put (key_is _) _, fun a => ?_, fun a => ?_, ?_⟩
  · by_cases ha : a = (i + 1) * 4096
    · rw [ha, atKey_put_same h.tidy.isMap (key_is _), tk_set_same hi]; rfl
    · rw [atKey_put_other (key_ne ha), tk_set_other _ ha, h.at_]
  · by_cases ha : a = (i + 1) * 4096
    · rw [ha, has_put_same h.tidy.isMap (key_is _), tk_set_same hi]
    · rw [has_put_other (key_ne ha), tk_set_other _ ha, h.has_]
  · rw [size_put h.tidy, h.has_, tk_at, hf, count_set_true hi hf, h.size_]; rfl
theorem is_del {D : DataW Unit} {S : List Bool} {i : Nat} (h : Is D S) (hi : i < S.length) (hf : S.getD i false = true) : Is (D.del (key ((i + 1) * 4096))) (S.set i false) := by
  refine ⟨h.tidy.del _, fun a => ?_, fun a => ?_, ?_⟩
  · by_cases ha : a = (i + 1) * 4096
    · rw [ha, atKey_del_same, tk_set_same hi]; rfl
    · rw [atKey_del_other (key_ne ha), tk_set_other _ ha, h.at_]
  · by_cases ha : a = (i + 1) * 4096
    · rw [ha, has_del_same, tk_set_same hi]
    · rw [has_del_other (key_ne ha), tk_set_other _ ha, h.has_]
  · have h1 := size_del (k := key ((i + 1) * 4096)) h.tidy
    rw [h.has_, tk_at, hf, h.size_] at h1
    have h2 := count_set_false hi hf
    simp only [if_true] at h1
    omega
/-- The first i of n frames are taken. -/
def marks (n i : Nat) : List Bool := (List.range n).map fun j => decide (j < i)
theorem marks_length (n i : Nat) : (marks n i).length = n := by simp [marks]
theorem marks_getD {n i j : Nat} (hj : j < n) : (marks n i).getD j false = decide (j < i) := by
  simp [marks, List.getD_eq_getElem?_getD, hj]
theorem marks_on {n i j : Nat} (hj : j < n) (h : j < i) : (marks n i).getD j false = true := by rw [marks_getD hj]; simp [h]
theorem marks_off {n i j : Nat} (hj : j < n) (h : i ≤ j) : (marks n i).getD j false = false := by
  rw [marks_getD hj]
  have : ¬ j < i := by omega
  simp [this]
theorem marks_zero (n : Nat) : marks n 0 = List.replicate n false := by
  apply List.ext_getElem
  · simp [marks]
  · intro j h1 h2
    simp [marks]
theorem marks_set {n i : Nat} (hi : i < n) : (marks n i).set i true = marks n (i + 1) := by
  apply List.ext_getElem
  · simp [marks]
  · intro j h1 h2
    by_cases h : i = j
    · subst h
      simp [marks]
    · rw [List.getElem_set_ne h]
      simp only [marks, List.getElem_map, List.getElem_range]
      have : (j < i) = (j < i + 1) := by simp only [eq_iff_iff]; omega
      simp [this]
theorem marks_count {n i : Nat} (hi : i ≤ n) : (marks n i).count true = i := by
  induction i with
  | zero => rw [marks_zero, List.count_replicate]; rfl
  | succ i ih =>
    rw [← marks_set (by omega), count_set_true (by rw [marks_length]; omega) (marks_off (by omega) (Nat.le_refl _)), ih (by omega)]
theorem marks_taken {n i : Nat} (h1 : 1 ≤ i) (hi : i ≤ n) : tk (marks n i) (i * 4096) = true := by
  have := tk_at (marks n i) (i - 1)
  rw [show (i - 1 + 1) * 4096 = i * 4096 by omega] at this
  rw [this, marks_on (by omega) (by omega)]
theorem u8_lit {a : Int} (h : (Lit.int .u8 a).wf = true) : 0 ≤ a ∧ a < 256 := by
  have h1 : IntKind.u8.min = 0 := by decide
  have h2 : IntKind.u8.max = 255 := by decide
  simp only [Lit.wf, Bool.and_eq_true, decide_eq_true_eq] at h
  omega
theorem u64_lit {a : Int} (h : (Lit.int .u64 a).wf = true) : 0 ≤ a ∧ a < 18446744073709551616 := by
  have h1 : IntKind.u64.min = 0 := by decide
  have h2 : IntKind.u64.max = 18446744073709551615 := by decide
  simp only [Lit.wf, Bool.and_eq_true, decide_eq_true_eq] at h
  omega
theorem i64_lit {a : Int} (h : (Lit.int .i64 a).wf = true) : -9223372036854775808 ≤ a ∧ a < 9223372036854775808 := by
  have h1 : IntKind.i64.min = -9223372036854775808 := by decide
  have h2 : IntKind.i64.max = 9223372036854775807 := by decide
  simp only [Lit.wf, Bool.and_eq_true, decide_eq_true_eq] at h
  omega
end Go.Proofs.Ytekfcbgndjmhnaa.FrP
