/- The reference's memory behind deeds, alone in its block. Conditions: those each lemma names. -/
import Derived.Test.YtpkffpcdmglleaaR5
set_option linter.unusedVariables false
set_option linter.unusedSimpArgs false
namespace Go.Proofs.Ytpkffpcdmglleaa.RM
open Go.RowKit Go.Proofs.Ytpkffpcdmglleaa.Fn Go.Proofs.Ytpkffpcdmglleaa.Me Go.Proofs.YtpkffpcdmglleaaW.PrintWords Go.Proofs.YtpkffpcdmglleaaW.PrintMore
/-- The reference's memory behind deeds. -/
def wants (n : Nat) (l : List Od.Deed) : Rm := l.foldl (fun r d => (wantN n r d.k d.q d.x).m) ⟨[], []⟩
theorem wants_snoc (n : Nat) (l : List Od.Deed) (d : Od.Deed) : wants n (l ++ [d]) = (wantN n (wants n l) d.k d.q d.x).m := by simp [wants, List.foldl_append]
theorem rel_fold (n : Nat) (l : List Od.Deed) (hl : ∀ d ∈ l, d.q < 18446744073709551616 ∧ d.x < 18446744073709551616) : ∀ (m : Me.Wt) (r : Rm), Rel m r → Rel (l.foldl (fun m d => (Me.did n m d.k d.q d.x).m) m) (l.foldl (fun r d => (wantN n r d.k d.q d.x).m) r) := by
  induction l with
  | nil => exact fun m r h => h
  | cons d l ih =>
    intro m r h
    have hd := hl d (by simp)
    exact ih (fun e he => hl e (by simp [he])) _ _ (rel_step h n d.k d.q d.x hd.1 hd.2).2.2.1
theorem rel_runs (n : Nat) (l : List Od.Deed) (hl : ∀ d ∈ l, d.q < 18446744073709551616 ∧ d.x < 18446744073709551616) : Rel (Me.runs n l) (wants n l) :=
  rel_fold n l hl _ _ ⟨fun s => rfl, rfl, fun p hp => by cases hp⟩
theorem sw_runs (n : Nat) (l : List Od.Deed) (hl : ∀ d ∈ l, d.q < 18446744073709551616 ∧ d.x < 18446744073709551616) : sw (wants n l).sl = (Me.runs n l).wd := funext fun s => (rel_runs n l hl).1 s
/-- The reference's memory in block X, from world wI on; nothing else that was is written. -/
structure Sr (w0 wI w : World) (n X i : Nat) (r : Rm) (v1 v2 : Value) (P : Nat → Prop) : Prop where
  blk : w.heap[X]? = some (.cells #[.int .i64 (n : Int), v1, v2] 29 (0, 0))
  rm : RmAt w w0.heap.size P v1 v2 r
  pn : ∀ k, P k → wI.heap.size ≤ k
  leX : w0.heap.size ≤ X
  ltX : X < wI.heap.size
  b : Below w0.heap.size w0 w
  kp : Kept wI w (fun k => k = X)
  ok : Ok r.sl
  neat : Neat n r.sl
  sl : r.sl.length ≤ i
  tr : r.tr.length ≤ i
variable {w0 wI w W1 w8 w9 : World} {n X i q x : Nat} {k : Int} {r : Rm} {v1 v2 u1 u2 : Value} {P : Nat → Prop}
theorem Sr.start (hx : wI.heap[X]? = some (.cells #[.int .i64 (n : Int), .slice none 0 0, .slice none 0 0] 29 (0, 0))) (hX : w0.heap.size ≤ X) (b : Below w0.heap.size w0 wI) : Sr w0 wI wI n X 0 ⟨[], []⟩ (.slice none 0 0) (.slice none 0 0) (fun _ => False) :=
  ⟨hx, ⟨Kd.R_nil _ _ _ _ _, Kd.R_nil _ _ _ _ _⟩, fun _ h => h.elim, hX, blk_lt hx, b, Kept.refl _ _, fun p hp => (by cases hp), ⟨by simp, fun p hp => by cases hp⟩, by simp, by simp⟩
theorem Sr.mono {j : Nat} (h : Sr w0 wI w n X i r v1 v2 P) (hij : i ≤ j) : Sr w0 wI w n X j r v1 v2 P :=
  ⟨h.blk, h.rm, h.pn, h.leX, h.ltX, h.b, h.kp, h.ok, h.neat, Nat.le_trans h.sl hij, Nat.le_trans h.tr hij⟩
theorem Sr.next (h : Sr w0 wI w n X i r v1 v2 P) (D : Below w.heap.size w W1) (hR : RmAt w8 w0.heap.size (fun k => (P k ∧ k < w.heap.size) ∨ W1.heap.size ≤ k) u1 u2 (wantN n r k q x).m)
    (hB : Below w0.heap.size w0 w8) (hK : Kept W1 w8 (fun k => P k ∧ k < w.heap.size)) (hq : q < 18446744073709551616) (hx' : x < 18446744073709551616)
    (hx : w9.heap[X]? = some (.cells #[.int .i64 (n : Int), u1, u2] 29 (0, 0))) (hg : w8.grownBy w9 (some X)) : Sr w0 wI w9 n X (i + 1) (wantN n r k q x).m u1 u2 (fun k => (P k ∧ k < w.heap.size) ∨ W1.heap.size ≤ k) := by
  have hX := h.ltX
  have h1 := h.kp.1
  have h2 := D.size
  have h3 := h.pn
  have hr : Rel ⟨sw r.sl, r.tr⟩ r := ⟨fun s => rfl, rfl, h.ok⟩
  obtain ⟨_, _, s3, s4, s5⟩ := rel_step hr n k q x hq hx'
  have hpX : ∀ k, ((P k ∧ k < w.heap.size) ∨ W1.heap.size ≤ k) → k ≠ X := fun k hp e => by
    subst e
    rcases hp with hp | hp
    · have := h3 _ hp.1
      omega
    · omega
  refine ⟨hx, hR.kept (Kept.of_grown hg (Kept.refl _ (fun k => k = X)) (fun k hk => .inl (Option.some.inj hk).symm)) hpX, fun k hp => ?_, h.leX, hX, hB.grown hg hB.size (fun k hk => by cases hk; exact h.leX), ?_, s3.2.2, h.neat.want k q x, by have := h.sl; omega, by have := h.tr; omega⟩
  · rcases hp with hp | hp
    · exact h3 _ hp.1
    · omega
  · exact Kept.of_grown hg ((h.kp.below D).then_ hK (fun k hp => .inr (h3 k hp.1))) (fun k hk => .inl (Option.some.inj hk).symm)
end Go.Proofs.Ytpkffpcdmglleaa.RM
