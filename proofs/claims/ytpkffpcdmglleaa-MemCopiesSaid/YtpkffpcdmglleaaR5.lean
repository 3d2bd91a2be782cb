/- What the reference's Diff comes to: the slots that differ, rising. Conditions: those each lemma names. -/
import Derived.Test.YtpkffpcdmglleaaR4
set_option linter.unusedVariables false
set_option linter.unusedSimpArgs false
namespace Go.Proofs.Ytpkffpcdmglleaa.RM
open Go.RowKit Go.Proofs.Ytpkffpcdmglleaa.Fn Go.Proofs.Ytpkffpcdmglleaa.Me Go.Proofs.YtpkffpcdmglleaaW.PrintWords Go.Proofs.YtpkffpcdmglleaaW.PrintMore
section
variable {n : Nat} {a b : Sl} {tra trb : List Int}
/-- A row's words, slot by slot. -/
def sw (a : Sl) : Nat → Nat := fun s => wN a (8 * s)
/-- How far a row has come. -/
def adv (a : Sl) (i s : Nat) : Nat := if i < a.length ∧ (a.getD i (0, 0)).1 = 8 * s then i + 1 else i
theorem adv_stand {i t s : Nat} (ha : Neat n a) (h : Stand a i t) (hts : t ≤ s) (h1 : ∀ p ∈ a.drop i, 8 * s ≤ p.1) : Stand a (adv a i s) (s + 1) := by
  unfold adv
  split
  · rename_i h2
    exact h.next ha h2.1 hts h2.2
  · rename_i h2
    refine h.stay ha hts fun p hp => ?_
    by_cases hi : i < a.length
    · have h3 := ahead ha hi p hp
      have h4 := h1 _ (by rw [drop_cons hi]; simp : a.getD i (0, 0) ∈ a.drop i)
      have h5 : (a.getD i (0, 0)).1 ≠ 8 * s := fun e => h2 ⟨hi, e⟩
      omega
    · rw [List.drop_of_length_le (by omega)] at hp
      cases hp
theorem gap {i j t s : Nat} (ha : Neat n a) (hb : Neat n b) (hi : Stand a i t) (hj : Stand b j t) (hts : t ≤ s) (h1 : ∀ p ∈ a.drop i, 8 * s ≤ p.1) (h2 : ∀ p ∈ b.drop j, 8 * s ≤ p.1) : DL (sw a) (sw b) s = DL (sw a) (sw b) t := by
  have e : s = t + (s - t) := by omega
  rw [e]
  refine DL_same _ _ _ _ fun q hq => ?_
  show wN a (8 * (t + q)) = wN b (8 * (t + q))
  rw [hi.zero (s := t + q) (by omega) (fun p hp => .inl (by have := h1 p hp; omega)), hj.zero (s := t + q) (by omega) (fun p hp => .inl (by have := h2 p hp; omega))]
theorem rdiff_j3 (ha : Neat n a) (hb : Neat n b) (la : a.length ≤ 1000) (lb : b.length ≤ 1000) {i j t s : Nat} (hi : Stand a i t) (hj : Stand b j t) (hts : t ≤ s) (hs : s ≤ 1000000) (h1 : ∀ p ∈ a.drop i, 8 * s ≤ p.1) (h2 : ∀ p ∈ b.drop j, 8 * s ≤ p.1) (m : Nat) (hm : 2000 ≤ m) :
    dormerref04_Diff.j3 (m + 3) (DL (sw a) (sw b) t) (i : Int) (j : Int) ((8 * s : Nat) : Int) (n : Int) (enc a) tra (n : Int) (enc b) trb = dormerref04_Diff.l0 m (DL (sw a) (sw b) (s + 1)) ((adv a i s : Nat) : Int) ((adv b j s : Nat) : Int) (n : Int) (enc a) tra (n : Int) (enc b) trb := by
  have key : dormerref04_Diff.j3 (m + 3) (DL (sw a) (sw b) t) (i : Int) (j : Int) ((8 * s : Nat) : Int) (n : Int) (enc a) tra (n : Int) (enc b) trb = dormerref04_Diff.j4 (m + 2) (DL (sw a) (sw b) (s + 1)) (i : Int) (j : Int) ((8 * s : Nat) : Int) (n : Int) (enc a) tra (n : Int) (enc b) trb := by
    have g := gap ha hb hi hj hts h1 h2
    have ln := DL_len (sw a) (sw b) t
    simp only [dormerref04_Diff.j3]
    rw [word_f a n tra (8 * s) (by omega) (by omega), Option.bind_some, word_f b n trb (8 * s) (by omega) (by omega), Option.bind_some, DL_succ, g]
    by_cases he : sw a s = sw b s
    · have he' : wN a (8 * s) = wN b (8 * s) := he
      rw [if_pos he, if_pos (by rw [he'])]
    · have he' : ¬ wN a (8 * s) = wN b (8 * s) := he
      rw [if_neg he, if_neg (by omega), if_pos (by omega)]
  rw [key]
  simp only [dormerref04_Diff.j4]
  have li := hi.le
  have lj := hj.le
  have j5f : ∀ x : Int, x = ((adv a i s : Nat) : Int) → (fun y : Bool => dormerref04_Diff.j5 (m + 1) (DL (sw a) (sw b) (s + 1)) (i : Int) (j : Int) ((8 * s : Nat) : Int) y (n : Int) (enc a) tra (n : Int) (enc b) trb) (decide (i < a.length ∧ (a.getD i (0, 0)).1 = 8 * s)) = dormerref04_Diff.l0 m (DL (sw a) (sw b) (s + 1)) x ((adv b j s : Nat) : Int) (n : Int) (enc a) tra (n : Int) (enc b) trb := by
    intro x hx
    show dormerref04_Diff.j5 (m + 1) _ _ _ _ (decide (i < a.length ∧ (a.getD i (0, 0)).1 = 8 * s)) _ _ _ _ _ _ = _
    simp only [dormerref04_Diff.j5]
    rw [hx]
    unfold adv
    by_cases c1 : i < a.length ∧ (a.getD i (0, 0)).1 = 8 * s
    · rw [if_pos (by simpa using c1), if_pos c1]
      by_cases c2 : j < b.length
      · rw [enc_len, if_pos (by omega), if_pos (by omega), rd85]
        by_cases c3 : (b.getD j (0, 0)).1 = 8 * s
        · rw [if_pos (by show ((_ : Nat) : Int) = _; omega), if_pos ⟨c2, c3⟩, w1 (by omega), w1 (by omega)]
        · rw [if_neg (by show ¬ ((_ : Nat) : Int) = _; omega), if_neg (fun h => c3 h.2), w1 (by omega)]
      · rw [enc_len, if_neg (by omega), if_neg (fun h => c2 h.1), w1 (by omega)]
    · rw [if_neg (by simpa using c1), if_neg c1]
      by_cases c2 : j < b.length
      · rw [enc_len, if_pos (by omega), if_pos (by omega), rd85]
        by_cases c3 : (b.getD j (0, 0)).1 = 8 * s
        · rw [if_pos (by show ((_ : Nat) : Int) = _; omega), if_pos ⟨c2, c3⟩, w1 (by omega)]
        · rw [if_neg (by show ¬ ((_ : Nat) : Int) = _; omega), if_neg (fun h => c3 h.2)]
      · rw [enc_len, if_neg (by omega), if_neg (fun h => c2 h.1)]
  by_cases c0 : i < a.length
  · rw [enc_len, if_pos (by omega), if_pos (by omega), rd85, ← j5f _ rfl]
    show dormerref04_Diff.j5 (m + 1) _ _ _ _ _ _ _ _ _ _ _ = dormerref04_Diff.j5 (m + 1) _ _ _ _ _ _ _ _ _ _ _
    congr 1
    show ((((a.getD i (0, 0)).1 : Nat) : Int) == ((8 * s : Nat) : Int)) = decide _
    rw [Bool.eq_iff_iff, beq_iff_eq, decide_eq_true_iff]
    constructor
    · intro h; exact ⟨c0, by omega⟩
    · intro h; have := h.2; omega
  · rw [enc_len, if_neg (by omega), ← j5f _ rfl]
    show dormerref04_Diff.j5 (m + 1) _ _ _ _ _ _ _ _ _ _ _ = dormerref04_Diff.j5 (m + 1) _ _ _ _ _ _ _ _ _ _ _
    congr 1
    rw [decide_eq_false (fun h => c0 h.1)]
theorem rdiff_l (ha : Neat n a) (hb : Neat n b) (la : a.length ≤ 1000) (lb : b.length ≤ 1000) {M : Nat} (hM : 8 * M = 2 ^ n) (hM2 : M ≤ 1000000) (d : Nat) : ∀ (k i j t : Nat), (a.length - i) + (b.length - j) ≤ d → 6 * d + 2010 < k → Stand a i t → Stand b j t → t ≤ M →
    dormerref04_Diff.l0 k (DL (sw a) (sw b) t) (i : Int) (j : Int) (n : Int) (enc a) tra (n : Int) (enc b) trb = some (DL (sw a) (sw b) M) := by
  induction d with
  | zero =>
    intro k i j t hd hk hi hj ht
    obtain ⟨k, rfl⟩ : ∃ m, k = m + 2 := ⟨k - 2, by omega⟩
    have li := hi.le
    have lj := hj.le
    have hia : i = a.length := by omega
    have hjb : j = b.length := by omega
    have g := gap (s := M) ha hb hi hj ht (fun p hp => by rw [List.drop_of_length_le (by omega)] at hp; cases hp) (fun p hp => by rw [List.drop_of_length_le (by omega)] at hp; cases hp)
    simp only [dormerref04_Diff.l0, dormerref04_Diff.j1]
    rw [enc_len, enc_len, if_neg (by omega), decide_eq_false (by omega), if_neg (by decide), g]
  | succ d ih =>
    intro k i j t hd hk hi hj ht
    have li := hi.le
    have lj := hj.le
    by_cases hend : i = a.length ∧ j = b.length
    · exact ih k i j t (by omega) (by omega) hi hj ht
    obtain ⟨k, rfl⟩ : ∃ m, k = m + 6 := ⟨k - 6, by omega⟩
    -- the place at hand
    have fin : ∀ s, (∀ p ∈ a.drop i, 8 * s ≤ p.1) → (∀ p ∈ b.drop j, 8 * s ≤ p.1) → ((i < a.length ∧ (a.getD i (0, 0)).1 = 8 * s) ∨ (j < b.length ∧ (b.getD j (0, 0)).1 = 8 * s)) →
        dormerref04_Diff.j3 (k + 3) (DL (sw a) (sw b) t) (i : Int) (j : Int) ((8 * s : Nat) : Int) (n : Int) (enc a) tra (n : Int) (enc b) trb = some (DL (sw a) (sw b) M) := by
      intro s h1 h2 h3
      have hsm : t ≤ s ∧ s < M := by
        rcases h3 with ⟨h4, h5⟩ | ⟨h4, h5⟩
        · have hmem : a.getD i (0, 0) ∈ a.drop i := by rw [drop_cons h4]; simp
          have := hi.high _ hmem
          have := (ha.at8 _ (List.mem_of_mem_drop hmem)).2
          omega
        · have hmem : b.getD j (0, 0) ∈ b.drop j := by rw [drop_cons h4]; simp
          have := hj.high _ hmem
          have := (hb.at8 _ (List.mem_of_mem_drop hmem)).2
          omega
      rw [rdiff_j3 ha hb la lb hi hj hsm.1 (by omega) h1 h2 k (by omega)]
      refine ih k _ _ (s + 1) ?_ (by omega) (adv_stand ha hi hsm.1 h1) (adv_stand hb hj hsm.1 h2) (by omega)
      have a1 : adv a i s ≥ i := by unfold adv; split <;> omega
      have a2 : adv b j s ≥ j := by unfold adv; split <;> omega
      rcases h3 with h4 | h4
      · have : adv a i s = i + 1 := by unfold adv; rw [if_pos h4]
        omega
      · have : adv b j s = j + 1 := by unfold adv; rw [if_pos h4]
        omega
    have fa : ∀ (h4 : i < a.length), (∀ p ∈ b.drop j, (a.getD i (0, 0)).1 ≤ p.1) → dormerref04_Diff.j3 (k + 3) (DL (sw a) (sw b) t) (i : Int) (j : Int) (((a.getD i (0, 0)).1 : Nat) : Int) (n : Int) (enc a) tra (n : Int) (enc b) trb = some (DL (sw a) (sw b) M) := by
      intro h4 h2
      have hmem : a.getD i (0, 0) ∈ a.drop i := by rw [drop_cons h4]; simp
      have h8 := (ha.at8 _ (List.mem_of_mem_drop hmem)).1
      have e : (a.getD i (0, 0)).1 = 8 * ((a.getD i (0, 0)).1 / 8) := by omega
      have := fin ((a.getD i (0, 0)).1 / 8) (fun p hp => by rw [← e]; exact ahead ha h4 p hp) (fun p hp => by rw [← e]; exact h2 p hp) (.inl ⟨h4, e⟩)
      rwa [← e] at this
    have fb : ∀ (h4 : j < b.length), (∀ p ∈ a.drop i, (b.getD j (0, 0)).1 ≤ p.1) → dormerref04_Diff.j3 (k + 3) (DL (sw a) (sw b) t) (i : Int) (j : Int) (((b.getD j (0, 0)).1 : Nat) : Int) (n : Int) (enc a) tra (n : Int) (enc b) trb = some (DL (sw a) (sw b) M) := by
      intro h4 h2
      have hmem : b.getD j (0, 0) ∈ b.drop j := by rw [drop_cons h4]; simp
      have h8 := (hb.at8 _ (List.mem_of_mem_drop hmem)).1
      have e : (b.getD j (0, 0)).1 = 8 * ((b.getD j (0, 0)).1 / 8) := by omega
      have := fin ((b.getD j (0, 0)).1 / 8) (fun p hp => by rw [← e]; exact h2 p hp) (fun p hp => by rw [← e]; exact ahead hb h4 p hp) (.inr ⟨h4, e⟩)
      rwa [← e] at this
    -- the places' choice
    have hj1 : dormerref04_Diff.l0 (k + 6) (DL (sw a) (sw b) t) (i : Int) (j : Int) (n : Int) (enc a) tra (n : Int) (enc b) trb = dormerref04_Diff.j1 (k + 5) (DL (sw a) (sw b) t) (i : Int) (j : Int) true (n : Int) (enc a) tra (n : Int) (enc b) trb := by
      simp only [dormerref04_Diff.l0]
      rw [enc_len, enc_len]
      by_cases c : i < a.length
      · rw [if_pos (by omega)]
      · rw [if_neg (by omega), decide_eq_true (by omega)]
    rw [hj1]
    simp only [dormerref04_Diff.j1]
    rw [if_pos trivial, enc_len, enc_len]
    by_cases cj : b.length ≤ j
    · have ca : i < a.length := by omega
      rw [if_pos (by omega)]
      simp only [dormerref04_Diff.j2]
      rw [if_pos trivial, if_pos (by omega), enc_len, if_pos (by omega), rd85]
      exact fa ca (fun p hp => by rw [List.drop_of_length_le cj] at hp; cases hp)
    · rw [if_neg (by omega)]
      by_cases ca : i < a.length
      · rw [if_pos (by omega), if_pos (by omega), if_pos (by omega), if_pos (by omega), rd85, rd85]
        by_cases cl : (a.getD i (0, 0)).1 < (b.getD j (0, 0)).1
        · rw [decide_eq_true (by show ((_ : Nat) : Int) < ((_ : Nat) : Int); omega)]
          simp only [dormerref04_Diff.j2]
          rw [if_pos trivial, if_pos (by omega), enc_len, if_pos (by omega), rd85]
          exact fa ca (fun p hp => by have := ahead hb (by omega) p hp; omega)
        · rw [decide_eq_false (by show ¬ ((_ : Nat) : Int) < ((_ : Nat) : Int); omega)]
          simp only [dormerref04_Diff.j2]
          rw [if_neg (by decide), if_pos (by omega), enc_len, if_pos (by omega), rd85]
          exact fb (by omega) (fun p hp => by have := ahead ha ca p hp; omega)
      · rw [if_neg (by omega)]
        simp only [dormerref04_Diff.j2]
        rw [if_neg (by decide), if_pos (by omega), enc_len, if_pos (by omega), rd85]
        exact fb (by omega) (fun p hp => by rw [List.drop_of_length_le (by omega)] at hp; cases hp)
theorem rdiff_f (ha : Neat n a) (hb : Neat n b) (la : a.length ≤ 1000) (lb : b.length ≤ 1000) {M : Nat} (hM : 8 * M = 2 ^ n) (hM2 : M ≤ 1000000) : dormerref04_Diff.f 20000 (n : Int) (enc a) tra (n : Int) (enc b) trb = some (DL (sw a) (sw b) M) := by
  unfold dormerref04_Diff.f
  rw [if_pos rfl]
  exact rdiff_l ha hb la lb hM hM2 (a.length + b.length) 20000 0 0 0 (by omega) (by omega) ⟨by omega, fun p hp => by simp at hp, fun p _ => by omega⟩ ⟨by omega, fun p hp => by simp at hp, fun p _ => by omega⟩ (by omega)
end
end Go.Proofs.Ytpkffpcdmglleaa.RM
