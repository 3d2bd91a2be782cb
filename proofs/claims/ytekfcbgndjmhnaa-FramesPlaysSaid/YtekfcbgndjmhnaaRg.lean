/- What a store leaves alone of frames; the state of FramesPlays. No walk in it. -/
import Derived.Test.YtekfcbgndjmhnaaFa
import Derived.Test.YtekfcbgndjmhnaaRf
import Derived.Maps.OwnSet
import Derived.Maps.OwnOps
set_option linter.unusedVariables false
set_option linter.unusedSimpArgs false
namespace Go.Proofs.Ytekfcbgndjmhnaa.Fr
open Go.RowKit Go.Maps Go.Proofs.Ytekfcbgndjmhnaa.FrP Go.Proofs.YtekfcbgndjmhnaaW.PrintWords Go.Proofs.YtekfcbgndjmhnaaW.PrintMore
theorem FrAt.set {w : World} {g m : Nat} {S : List Bool} (h : FrAt w g m S) {p : Addr} (u : Value) (h1 : g ≠ p.block) (h2 : m ≠ p.block) : FrAt (w.setCell p u) g m S := by
  obtain ⟨D, ho, hi⟩ := h.own
  refine ⟨?_, ?_, h.few, D, ho.setCell h2 _, hi⟩
  · rw [World.cell?_of_block (a := ⟨g, 0, none⟩) (Below.heap_setCell w p u g h1)]; exact h.c0
  · rw [World.cell?_of_block (a := ⟨g, 1, none⟩) (Below.heap_setCell w p u g h1)]; exact h.c1
/-- The state of FramesPlays: frames' marks, and the reference's, which lie in block X. -/
structure Pl (w0 w : World) (m X : Nat) (S : List Bool) (A : Option Addr) (c : Nat) : Prop where
  fr : FrAt w (m + 1) m S
  x : w.heap[X]? = some (.cells #[.slice A S.length c] 28 (0, 0))
  r : Kd.R Kd.bool 4 w w0.heap.size (fun q => q ≠ m ∧ q ≠ X) (.slice A S.length c) S
  b : Below w0.heap.size w0 w
  ne : m + 1 < X
  le : w0.heap.size ≤ m
theorem Pl.below {w0 w w' : World} {m X : Nat} {S : List Bool} {A : Option Addr} {c : Nat} (h : Pl w0 w m X S A c) (hb : Below w.heap.size w w') : Pl w0 w' m X S A c :=
  ⟨h.fr.below hb, blk_below h.x hb, Kd.R_below h.r hb, below_step h.b hb, h.ne, h.le⟩
theorem Pl.drew {w0 w : World} {m X : Nat} {S : List Bool} {A : Option Addr} {c : Nat} (h : Pl w0 w m X S A c) : Pl w0 w.drew m X S A c := h.below (below_drew (Below.refl _ _))
theorem Pl.drewN {w0 w : World} {m X : Nat} {S : List Bool} {A : Option Addr} {c : Nat} (h : Pl w0 w m X S A c) (n : Nat) : Pl w0 (w.drewN n) m X S A c := h.below (pw_below_drewN (Below.refl _ _) n)
theorem Pl.cell {w0 w : World} {m X : Nat} {S : List Bool} {A : Option Addr} {c : Nat} (h : Pl w0 w m X S A c) : w.cell? ⟨X, 0, none⟩ = some (.slice A S.length c) := (blk_cell h.x 0).trans rfl
theorem Pl.frozen {w0 w : World} {m X : Nat} {S : List Bool} {A : Option Addr} {c : Nat} (h : Pl w0 w m X S A c) : w.frozen? ⟨X, 0, none⟩ = false := blk_frozen h.x 0
theorem Pl.C {w0 w : World} {m X : Nat} {S : List Bool} {A : Option Addr} {c : Nat} (h : Pl w0 w m X S A c) : Kd.C Kd.bool w A S.length S ∧ S.length ≤ c := by
  obtain ⟨A', c', e, hl, hC⟩ := Kd.R_reads h.r
  injection e with e1 e2 e3
  subst e1 e3
  exact ⟨hC, hl⟩
/-- A new value of the reference, which lies in X from now on, frames having been told apart (row m). -/
theorem Pl.next {w0 w w4 w5 W : World} {m X : Nat} {S S' : List Bool} {A A' : Option Addr} {c c' : Nat} (h : Pl w0 w m X S A c) (hg : w.grownBy w4 (some m)) (hF : FrAt w4 (m + 1) m S') (hb : Below w4.heap.size w4 w5)
    (hR : Kd.R Kd.bool 4 w5 w4.heap.size (fun _ => True) (.slice A' S'.length c') S') (o : Obj) (hW : (w5.alloc o).setCell ⟨X, 0, none⟩ (.slice A' S'.length c') = W) : Pl w0 W m X S' A' c' := by
  subst hW
  have hX : X < w.heap.size := blk_lt h.x
  have hX4 : X < w4.heap.size := Nat.lt_of_lt_of_le hX hg.size
  have hmX := h.ne
  have hle := h.le
  have hx6 := blk_alloc (blk_below (blk_grown h.x hg (by simp; omega)) hb) o
  have hF8 := ((hF.below hb).below (below_alloc (Below.refl _ _) o)).set (p := ⟨X, 0, none⟩) (.slice A' S'.length c') (by show m + 1 ≠ X; omega) (by show m ≠ X; omega)
  have hR6 : Kd.R Kd.bool 4 (w5.alloc o) w0.heap.size (fun q => q ≠ m ∧ q ≠ X) (.slice A' S'.length c') S' := by
    refine Kd.R_alloc (Kd.R_mono (Kd.R_lower (Kd.R_bound hR) (by have := hF.lt; omega)) ?_) o
    intro q hq
    have := hq.2.1
    exact ⟨by omega, by omega⟩
  exact ⟨hF8, blk_put hx6 0 _ rfl, Kd.R_far (p := ⟨X, 0, none⟩) hR6 (fun q hq => hq.2) _, below_set (below_alloc (below_step (step h.b hg h.le) hb) o) (by omega), h.ne, h.le⟩
/-- The same where the reference answered itself. -/
theorem Pl.same {w0 w w5 W : World} {m X : Nat} {S : List Bool} {A : Option Addr} {c : Nat} (h : Pl w0 w m X S A c) (hb : Below w.heap.size w w5) (o : Obj) (hW : (w5.alloc o).setCell ⟨X, 0, none⟩ (.slice A S.length c) = W) : Pl w0 W m X S A c := by
  subst hW
  have hmX := h.ne
  have hle := h.le
  have h6 := (h.below hb).below (below_alloc (Below.refl _ _) o)
  exact ⟨h6.fr.set (p := ⟨X, 0, none⟩) (.slice A S.length c) (by show m + 1 ≠ X; omega) (by show m ≠ X; omega), blk_put h6.x 0 _ rfl, Kd.R_far (p := ⟨X, 0, none⟩) h6.r (fun q hq => hq.2) _, below_set h6.b (by omega), h.ne, h.le⟩
end Go.Proofs.Ytekfcbgndjmhnaa.Fr
