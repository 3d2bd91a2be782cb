/- The reference's slots rise; what its Diff comes to. Conditions: those each lemma names. -/
import Derived.Test.YtpkffpcdmglleaaR3
import Derived.Test.YtpkffpcdmglleaaMdf
import Derived.Test.YtpkffpcdmglleaaFnx3
set_option linter.unusedVariables false
set_option linter.unusedSimpArgs false
namespace Go.Proofs.Ytpkffpcdmglleaa.RM
open Go.RowKit Go.Proofs.Ytpkffpcdmglleaa.Fn Go.Proofs.Ytpkffpcdmglleaa.Me Go.Proofs.YtpkffpcdmglleaaW.PrintWords Go.Proofs.YtpkffpcdmglleaaW.PrintMore
/-- Slots rise, each is a slot's address below 2^n. -/
structure Neat (n : Nat) (ps : Sl) : Prop where
  up : ps.Pairwise fun p q => p.1 < q.1
  at8 : ∀ p ∈ ps, p.1 % 8 = 0 ∧ p.1 < 2 ^ n
theorem sN_mem (ps : Sl) (a x : Nat) (done : Bool) : ∀ q ∈ sN' ps a x done, q ∈ ps ∨ (q = (a, x) ∧ done = false) := by
  induction ps generalizing done with
  | nil =>
    intro q hq
    unfold sN' at hq
    cases done with
    | true => simp at hq
    | false => right; simpa using hq
  | cons p r ih =>
    intro q hq
    unfold sN' at hq
    split at hq
    · rcases ih done q hq with h | h
      · exact .inl (by simp [h])
      · exact .inr h
    · split at hq
      · rcases List.mem_cons.1 hq with rfl | hq
        · exact .inl (by simp)
        · rcases ih done q hq with h | h
          · exact .inl (by simp [h])
          · exact .inr h
      · rename_i hd
        have hd' : done = false := by simpa using hd
        split at hq
        · rcases List.mem_cons.1 hq with rfl | hq
          · exact .inr ⟨rfl, hd'⟩
          · rcases List.mem_cons.1 hq with rfl | hq
            · exact .inl (by simp)
            · rcases ih true q hq with h | h
              · exact .inl (by simp [h])
              · cases h.2
        · rcases List.mem_cons.1 hq with rfl | hq
          · exact .inl (by simp)
          · rcases ih done q hq with h | h
            · exact .inl (by simp [h])
            · exact .inr h
theorem sN_up (ps : Sl) (a x : Nat) (done : Bool) (h : ps.Pairwise fun p q => p.1 < q.1) : (sN' ps a x done).Pairwise fun p q => p.1 < q.1 := by
  induction ps generalizing done with
  | nil =>
    unfold sN'
    split <;> simp
  | cons p r ih =>
    obtain ⟨h1, h2⟩ := List.pairwise_cons.1 h
    unfold sN'
    split
    · exact ih done h2
    · rename_i hpa
      split
      · rename_i hd
        refine List.pairwise_cons.2 ⟨fun q hq => ?_, ih done h2⟩
        rcases sN_mem r a x done q hq with hm | hm
        · exact h1 q hm
        · rw [hd] at hm; cases hm.2
      · split
        · rename_i hlt
          have ht : ∀ q ∈ sN' r a x true, p.1 < q.1 := fun q hq => by
            rcases sN_mem r a x true q hq with hm | hm
            · exact h1 q hm
            · cases hm.2
          refine List.pairwise_cons.2 ⟨fun q hq => ?_, List.pairwise_cons.2 ⟨ht, ih true h2⟩⟩
          rcases List.mem_cons.1 hq with rfl | hq
          · exact hlt
          · exact Nat.lt_trans hlt (ht q hq)
        · refine List.pairwise_cons.2 ⟨fun q hq => ?_, ih done h2⟩
          rcases sN_mem r a x done q hq with hm | hm
          · exact h1 q hm
          · rw [hm.1]
            show p.1 < a
            omega
theorem Neat.put {n : Nat} {ps : Sl} (h : Neat n ps) {a : Nat} (x : Nat) (h8 : a % 8 = 0) (ha : a < 2 ^ n) : Neat n (sN' ps a x false) := by
  refine ⟨sN_up ps a x false h.up, fun q hq => ?_⟩
  rcases sN_mem ps a x false q hq with hm | hm
  · exact h.at8 q hm
  · rw [hm.1]; exact ⟨h8, ha⟩
theorem Neat.want {n : Nat} {r : Rm} (h : Neat n r.sl) (k : Int) (q x : Nat) : Neat n (wantN n r k q x).m.sl := by
  unfold wantN
  by_cases k1 : k = 1
  · rw [if_pos k1]; split <;> exact h
  rw [if_neg k1]
  by_cases k2 : k = 2
  · rw [if_pos k2]
    split
    · exact h.put _ (by omega) (by omega)
    · exact h
  rw [if_neg k2]
  by_cases k3 : k = 3
  · rw [if_pos k3]
    split
    · split <;> exact h
    · exact h
  rw [if_neg k3]
  by_cases k4 : k = 4
  · rw [if_pos k4]
    split
    · split <;> exact h
    · exact h
  rw [if_neg k4]
  by_cases k5 : k = 5
  · rw [if_pos k5]
    split
    · rename_i hb
      split
      · rename_i h8
        exact h.put _ h8 hb
      · exact h
    · exact h
  rw [if_neg k5]
  exact h
theorem wN_no {ps : Sl} {a : Nat} (h : ∀ p ∈ ps, p.1 ≠ a) : wN ps a = 0 := by
  induction ps with
  | nil => rfl
  | cons p r ih =>
    unfold wN
    rw [if_neg (h p (by simp)), ih (fun q hq => h q (by simp [hq]))]
/-- A state of the reference's Diff: what lies ahead begins at t or later, what lies behind ends before. -/
structure Stand (ps : Sl) (i t : Nat) : Prop where
  le : i ≤ ps.length
  low : ∀ p ∈ ps.take i, p.1 < 8 * t
  high : ∀ p ∈ ps.drop i, 8 * t ≤ p.1
theorem Stand.zero {ps : Sl} {i t : Nat} (h : Stand ps i t) {s : Nat} (hts : t ≤ s) (hs : ∀ p ∈ ps.drop i, 8 * s < p.1 ∨ p.1 < 8 * t) : wN ps (8 * s) = 0 := by
  apply wN_no
  intro p hp e
  rw [← List.take_append_drop i ps] at hp
  rcases List.mem_append.1 hp with hp | hp
  · have := h.low p hp
    omega
  · have := h.high p hp
    rcases hs p hp with h | h <;> omega
theorem drop_cons {ps : Sl} {i : Nat} (h : i < ps.length) : ps.drop i = ps.getD i (0, 0) :: ps.drop (i + 1) := dropC (0, 0) h
theorem take_snoc' {ps : Sl} {i : Nat} (h : i < ps.length) : ps.take (i + 1) = ps.take i ++ [ps.getD i (0, 0)] := by
  rw [List.take_add_one, List.getElem?_eq_getElem h, List.getD_eq_getElem?_getD, List.getElem?_eq_getElem h]
  rfl
/-- The place at hand, if it is one of this row's, is passed. -/
theorem Stand.next {n : Nat} {ps : Sl} {i t s : Nat} (hn : Neat n ps) (h : Stand ps i t) (hi : i < ps.length) (hts : t ≤ s) (he : (ps.getD i (0, 0)).1 = 8 * s) : Stand ps (i + 1) (s + 1) := by
  have hd := drop_cons hi
  have hu : (ps.drop i).Pairwise fun p q => p.1 < q.1 := hn.up.sublist (List.drop_sublist i ps)
  rw [hd] at hu
  obtain ⟨h1, h2⟩ := List.pairwise_cons.1 hu
  refine ⟨hi, fun p hp => ?_, fun p hp => ?_⟩
  · rw [take_snoc' hi] at hp
    rcases List.mem_append.1 hp with hp | hp
    · have := h.low p hp
      omega
    · have : p = ps.getD i (0, 0) := by simpa using hp
      rw [this, he]
      omega
  · have a1 := h1 p hp
    have a2 := (hn.at8 p (List.mem_of_mem_drop hp)).1
    omega
theorem Stand.stay {n : Nat} {ps : Sl} {i t s : Nat} (hn : Neat n ps) (h : Stand ps i t) (hts : t ≤ s) (hs : ∀ p ∈ ps.drop i, 8 * s < p.1) : Stand ps i (s + 1) := by
  refine ⟨h.le, fun p hp => by have := h.low p hp; omega, fun p hp => ?_⟩
  have a1 := hs p hp
  have a2 := (hn.at8 p (List.mem_of_mem_drop hp)).1
  omega
/-- What lies ahead lies at or behind its first. -/
theorem ahead {n : Nat} {ps : Sl} {i : Nat} (hn : Neat n ps) (hi : i < ps.length) : ∀ p ∈ ps.drop i, (ps.getD i (0, 0)).1 ≤ p.1 := by
  have hd := drop_cons hi
  have hu : (ps.drop i).Pairwise fun p q => p.1 < q.1 := hn.up.sublist (List.drop_sublist i ps)
  rw [hd] at hu ⊢
  obtain ⟨h1, h2⟩ := List.pairwise_cons.1 hu
  intro p hp
  rcases List.mem_cons.1 hp with rfl | hp
  · exact Nat.le_refl _
  · exact Nat.le_of_lt (h1 p hp)
end Go.Proofs.Ytpkffpcdmglleaa.RM
