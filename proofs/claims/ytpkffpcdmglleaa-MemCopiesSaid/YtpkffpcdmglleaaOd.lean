/- How an argument that is a slice of deeds (structs of three whole numbers) reads: its cells. No Go function in it. -/
import Derived.WalkKit
import Derived.ProofKit
import Derived.Deep.Slices
import Derived.ChangeSame
import Derived.Below
import Derived.Lib.Hide
set_option linter.unusedVariables false
set_option linter.unusedSimpArgs false
namespace Go.Proofs.Ytpkffpcdmglleaa.Od
open Go.RowKit Go.WideShapes Go.ChangeShapes Go.Deep
/-- A deed: its kind, its place, its number. -/
structure Deed where
  k : Int
  q : Nat
  x : Nat
instance : Inhabited Deed := ⟨⟨0, 0, 0⟩⟩
/-- The cells of a row of deeds. -/
def Cells (w : World) (a : Option Addr) (dl : List Deed) : Prop := ∀ i (d : Deed), dl[i]? = some d → d.q < 18446744073709551616 ∧ d.x < 18446744073709551616 ∧ -9223372036854775808 ≤ d.k ∧ d.k < 9223372036854775808 ∧
  ∃ x, a = some x ∧ w.cell? (x.add (i * 3)) = some (.int .i64 d.k) ∧ w.cell? ⟨(x.add (i * 3)).block, (x.add (i * 3)).off + 1, none⟩ = some (.int .u64 (d.q : Int)) ∧ w.cell? ⟨(x.add (i * 3)).block, (x.add (i * 3)).off + 2, none⟩ = some (.int .u64 (d.x : Int))
theorem u64_lit {a : Int} (h : (Lit.int .u64 a).wf = true) : 0 ≤ a ∧ a < 18446744073709551616 := by
  have h1 : IntKind.u64.min = 0 := by decide
  have h2 : IntKind.u64.max = 18446744073709551615 := by decide
  simp only [Lit.wf, Bool.and_eq_true, decide_eq_true_eq] at h
  omega
theorem i64_lit {a : Int} (h : (Lit.int .i64 a).wf = true) : -9223372036854775808 ≤ a ∧ a < 9223372036854775808 := by
  have h1 : IntKind.i64.min = -9223372036854775808 := by decide
  have h2 : IntKind.i64.max = 9223372036854775807 := by decide
  simp only [Lit.wf, Bool.and_eq_true, decide_eq_true_eq] at h
  omega
theorem at_below {w w' : World} {p : Addr} {v : Value} (hb : Below w.heap.size w w') (hc : w.cell? p = some v) : w'.cell? p = some v := by
  have hlt : p.block < w.heap.size := World.block_lt_of_cell? w p hc
  exact (hb.cell hlt).trans hc
theorem Cells.below {w w' : World} {a : Option Addr} {dl : List Deed} (h : Cells w a dl) (hb : Below w.heap.size w w') : Cells w' a dl := by
  intro i d hd
  obtain ⟨h1, h2, h3, h4, x, hx, c0, c1, c2⟩ := h i d hd
  exact ⟨h1, h2, h3, h4, x, hx, at_below hb c0, at_below hb c1, at_below hb c2⟩
section
variable {H : Type} {enc : TypeId × Value → H} {P : Program} {w : World} {base : Nat} {spare : Nat → Bool} {held : Bool}
theorem open_deeds {t e : TypeId} {f0 f1 f2 : Field} {a : Option Addr} {len cap : Nat} {d : DataW H} {p : List MemPlace} (ht : P.underlying t = some (.slice e)) (he : P.underlying e = some (.struct #[f0, f1, f2])) (hc : P.cellsOf e = 3)
    (o0 : f0.offset = 0) (o1 : f1.offset = 1) (o2 : f2.offset = 2) (c0 : P.cellsOf f0.type = 1) (c1 : P.cellsOf f1.type = 1) (c2 : P.cellsOf f2.type = 1)
    (u0 : P.underlying f0.type = some (.int .i64)) (u1 : P.underlying f1.type = some (.int .u64)) (u2 : P.underlying f2.type = some (.int .u64))
    (h : DataW.Trod enc P w base spare held t (.slice a len cap) d p) : len < 9223372036854775808 ∧ ∃ dl : List Deed, dl.length = len ∧ Cells w a dl := by
  obtain ⟨fuel, hf⟩ := h
  rcases open_slice ht hf with ⟨hcs, _⟩ | ⟨x, l, c, m, n, D, Pl, hcs, hb, hl, hm, hmm, hx, hel⟩
  · simp [Value.cells] at hcs
    obtain ⟨rfl, rfl, rfl⟩ := hcs
    exact ⟨by decide, [], rfl, fun i d hd => by simp at hd⟩
  · simp [Value.cells] at hcs
    obtain ⟨rfl, rfl, rfl⟩ := hcs
    have hlm : len ≤ m := by rw [hmm]; split <;> omega
    have each : ∀ i, i < len → ∃ q : Deed, q.q < 18446744073709551616 ∧ q.x < 18446744073709551616 ∧ -9223372036854775808 ≤ q.k ∧ q.k < 9223372036854775808 ∧ w.cell? (x.add (i * 3)) = some (.int .i64 q.k) ∧ w.cell? ⟨(x.add (i * 3)).block, (x.add (i * 3)).off + 1, none⟩ = some (.int .u64 (q.q : Int)) ∧ w.cell? ⟨(x.add (i * 3)).block, (x.add (i * 3)).off + 2, none⟩ = some (.int .u64 (q.x : Int)) := by
      intro i hi
      obtain ⟨cs', h1, h2⟩ := hel i (by omega)
      rw [hc] at h1
      obtain ⟨_, hlen, hcell⟩ := World.cells?_some h1
      obtain ⟨xs, k, hk, hxy, _, hxl, hff⟩ := DataW.trod_struct he h2
      match xs, hxl, cs', hlen with
      | [y0, y1, y2], _, [v0, v1, v2], _ =>
        have g0 := hff 0 f0 rfl
        have g1 := hff 1 f1 rfl
        have g2 := hff 2 f2 rfl
        simp [o0, o1, o2, c0, c1, c2] at g0 g1 g2
        have e0 := hcell 0 (by omega)
        have e1 := hcell 1 (by omega)
        have e2 := hcell 2 (by omega)
        obtain ⟨b0, r0, _, w0⟩ := DataW.trod_int u0 g0
        obtain ⟨b1, r1, _, w1⟩ := DataW.trod_int u1 g1
        obtain ⟨b2, r2, _, w2⟩ := DataW.trod_int u2 g2
        simp only [List.cons.injEq, and_true] at r0 r1 r2
        subst r0 r1 r2
        have l0 := i64_lit w0
        have l1 := u64_lit w1
        have l2 := u64_lit w2
        have n1 : ((b1.toNat : Nat) : Int) = b1 := by omega
        have n2 : ((b2.toNat : Nat) : Int) = b2 := by omega
        refine ⟨⟨b0, b1.toNat, b2.toNat⟩, by show b1.toNat < _; omega, by show b2.toNat < _; omega, l0.1, l0.2, e0.trans rfl, ?_, ?_⟩
        · show _ = some (Value.int .u64 ((b1.toNat : Nat) : Int))
          rw [n1]
          exact e1.trans rfl
        · show _ = some (Value.int .u64 ((b2.toNat : Nat) : Int))
          rw [n2]
          exact e2.trans rfl
    obtain ⟨q, hq⟩ := choose_lt each
    refine ⟨by unfold maxLen at hm; omega, (List.range len).map q, by simp, fun i d hd => ?_⟩
    have hi : i < len := by
      rcases Nat.lt_or_ge i len with h | h
      · exact h
      · rw [List.getElem?_eq_none (by simpa using h)] at hd
        cases hd
    rw [List.getElem?_map, List.getElem?_range hi] at hd
    simp only [Option.map_some, Option.some.injEq] at hd
    subst hd
    obtain ⟨q1, q2, q3, q4, q5, q6, q7⟩ := hq i hi
    exact ⟨q1, q2, q3, q4, x, rfl, q5, q6, q7⟩
end
end Go.Proofs.Ytpkffpcdmglleaa.Od
