/- How arguments that are structs or arrays of whole numbers read: their values written out. No Go function in it. -/
import Derived.WalkKit
import Derived.ProofKit
import Derived.OpenShut
import Derived.Lib.SmallJoins
import Derived.SizedLaws
set_option linter.unusedVariables false
set_option linter.unusedSimpArgs false
namespace Go.Proofs.Ytpkffpcdmglleaa.Op
open Go.RowKit Go.Joins Go.WideShapes Go.ChangeShapes Go.ChangeAt
variable {H : Type} {enc : TypeId × Value → H} {P : Program} {w : World} {base : Nat} {spare : Nat → Bool} {held : Bool}

/-- An array of whole numbers, by value. -/
theorem open_arr {n : Nat} {e t : TypeId} {k : IntKind} {r : Reach} {b0 : Nat} {v : Value} {d : DataW H} {p : List MemPlace} (ht : P.underlying t = some (.array n e)) (he : P.underlying e = some (.int k)) (hc : P.cellsOf e = 1) (hct : P.cellsOf t = n)
    (hv : Value.okWide P w r b0 t v) (h : DataW.Trod enc P w base spare held t v d p) : ∃ xs : List Int, xs.length = n ∧ v = .agg (xs.map (Value.int k)).toArray ∧ ∀ x ∈ xs, (Lit.int k x).wf = true := by
  obtain ⟨cs, rfl, hsz⟩ : ∃ cs : Array Value, v = .agg cs ∧ cs.size = n := by
    simp only [Value.okWide, ht] at hv
    obtain ⟨cs, h1, h2, _⟩ := hv
    exact ⟨cs, h1, by rw [h2, hct]⟩
  obtain ⟨fuel, hf⟩ := h
  obtain ⟨xs, m, _, _, hl, hx, hel⟩ := DataW.trod_array ht hf
  have hcl : (Value.agg cs).cells.toList = cs.toList := rfl
  rw [hcl] at hel
  have key : ∀ i, i < n → ∃ a : Int, cs.toList[i]? = some (.int k a) ∧ (Lit.int k a).wf = true := by
    intro i hi
    have h1 := hel i hi
    rw [List.getElem?_eq_getElem (by omega), hc, Nat.mul_one] at h1
    obtain ⟨a, ha, _, hw⟩ := DataW.trod_int he h1
    refine ⟨a, ?_, hw⟩
    have h2 : i < cs.toList.length := by rw [Array.length_toList]; omega
    rw [List.drop_eq_getElem_cons h2] at ha
    simp only [List.take_succ_cons, List.take_zero, List.cons.injEq, and_true] at ha
    rw [List.getElem?_eq_getElem h2, ha]
  refine ⟨cs.toList.map intOf, by simp [hsz], ?_, ?_⟩
  · congr 1
    apply Array.ext'
    simp only [List.map_map]
    apply List.ext_getElem
    · simp
    · intro i h1 h2
      have hi : i < n := by rw [Array.length_toList] at h1; omega
      obtain ⟨a, ha, _⟩ := key i hi
      rw [List.getElem?_eq_getElem h1] at ha
      injection ha with ha
      simp only [List.getElem_map, Function.comp]
      rw [ha]
      rfl
  · intro x hx
    obtain ⟨u, hu, rfl⟩ := List.mem_map.1 hx
    obtain ⟨i, hi, rfl⟩ := List.getElem_of_mem hu
    obtain ⟨a, ha, hw⟩ := key i (by rw [Array.length_toList] at hi; omega)
    rw [List.getElem?_eq_getElem hi] at ha
    injection ha with ha
    rw [ha]
    exact hw
/-- A slice of whole numbers: its cells. -/
theorem open_row {t e : TypeId} {k : IntKind} {a : Option Addr} {len cap : Nat} {d : DataW H} {p : List MemPlace} (ht : P.underlying t = some (.slice e)) (he : P.underlying e = some (.int k)) (hc : P.cellsOf e = 1) (h : DataW.Trod enc P w base (fun _ => true) held t (.slice a len cap) d p) :
    ∃ zs : List Int, (a = none ∧ len = 0 ∧ cap = 0 ∧ zs = []) ∨ ∃ x, a = some x ∧ len ≤ cap ∧ cap ≤ maxLen ∧ zs.length = cap ∧ (∀ i, i < zs.length → w.cell? (x.add i) = some (.int k (zs.getD i 0))) ∧ ∀ n ∈ zs, (Lit.int k n).wf = true := by
  obtain ⟨fuel, hf⟩ := h
  rcases open_ints ht he hc hf with ⟨hcs, _⟩ | ⟨x, l, c, zs, hcs, _, hl, hm, hz, _, hcell, hwz⟩
  · simp [Value.cells] at hcs
    obtain ⟨rfl, rfl, rfl⟩ := hcs
    exact ⟨[], .inl ⟨rfl, rfl, rfl, rfl⟩⟩
  · simp [Value.cells] at hcs
    obtain ⟨rfl, rfl, rfl⟩ := hcs
    exact ⟨zs, .inr ⟨_, rfl, hl, hm, by simpa using hz, hcell, hwz⟩⟩
theorem list2 {α : Type} {l : List α} (h : l.length = 2) : ∃ a b, l = [a, b] := by
  match l, h with
  | [a, b], _ => exact ⟨a, b, rfl⟩
theorem list8 {α : Type} {l : List α} (h : l.length = 8) : ∃ a b c d e f g i, l = [a, b, c, d, e, f, g, i] := by
  match l, h with
  | [a, b, c, d, e, f, g, i], _ => exact ⟨a, b, c, d, e, f, g, i, rfl⟩
end Go.Proofs.Ytpkffpcdmglleaa.Op
