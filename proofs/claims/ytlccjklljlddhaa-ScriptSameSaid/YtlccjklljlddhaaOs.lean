/- An argument that is an op: its cells, and its picks' bound. No Go function in it. -/
import Derived.Test.YtlccjklljlddhaaOo
import Derived.Test.YtlccjklljlddhaaWSized
set_option linter.unusedVariables false
set_option linter.unusedSimpArgs false
namespace Go.Proofs.Ytlccjklljlddhaa.Oo
open Go.RowKit Go.WideShapes Go.ChangeShapes Go.Deep Go.Proofs.Ytlccjklljlddhaa.NL Go.Proofs.Ytlccjklljlddhaa.Fn Go.Proofs.Ytlccjklljlddhaa.SC Go.Proofs.YtlccjklljlddhaaW.PrintWords Go.Proofs.YtlccjklljlddhaaW.PrintMore
variable {H : Type} {enc : TypeId × Value → H} {w : World} {base : Nat} {held : Bool}
theorem agg_of {v : Value} {cs : List Value} (h : v.cells.toList = cs) (hl : cs.length = 8) : v = .agg cs.toArray := by
  cases v
  case agg xs =>
    have : xs.toList = cs := h
    rw [← this]
  all_goals (subst h; simp [Value.cells] at hl)
theorem open_op {v : Value} {d : DataW H} {p : List MemPlace} {ts : List TypeId} {ds : List (DataW H)} {j : Nat} (hsz : (DataW.weightsEach Try.prog ts ds).all (· ≤ reachBytes) = true) (ht : ts[j]? = some 36) (hd : ds[j]? = some d)
    (h : DataW.Trod enc Try.prog w base (fun _ => true) held 36 v d p) :
    ∃ (o : S36) (A : Option Addr) (c : Nat), v = .agg #[.int .i64 o.f0, .int .u64 o.f1, .int .i64 o.f2, .int .u64 o.f3, .int .i64 o.f4.f0, .bool o.f4.f1, .bool o.f4.f2, .slice A o.f5.length c] ∧ o.f5.length ≤ c ∧ (Kd.int .i64).C w A o.f5.length o.f5 ∧ Wf o ∧ o.f5.length * 8 ≤ 140737488351232 := by
  obtain ⟨fuel, hf⟩ := h
  obtain ⟨o, A, c, hcs, hlc, hC, hw, _⟩ := open_cells hf
  have hv := agg_of hcs rfl
  obtain ⟨xs, n, _, hx, _, hl, hg⟩ := DataW.trod_struct Try.underlying36 hf
  have hl6 : xs.length = 6 := hl
  have g5 := hg 5 _ rfl
  obtain ⟨y5, e5⟩ : ∃ y, xs[5]? = some y := ⟨_, List.getElem?_eq_getElem (by omega)⟩
  rw [hcs, e5] at g5
  have T : DataW.Trod enc Try.prog w base (fun _ => true) held 34 (.slice A o.f5.length c) y5.1 y5.2 := ⟨n, g5⟩
  obtain ⟨hx1, _⟩ := Prod.mk.inj hx
  have hin := List.all_eq_true.1 hsz
  have hsz2 : (DataW.weightsEach Try.prog [3, 31, 3, 31, 33, 34] (xs.map (·.1))).all (· ≤ reachBytes) = true := by
    refine List.all_eq_true.2 fun m hm => hin m (DataW.weights_mem_each ht hd m ?_)
    rw [hx1]
    unfold DataW.weights
    rw [Try.underlying36]
    exact hm
  refine ⟨o, A, c, hv, hlc, hC, hw, sized_ints hsz2 (j := 5) (t := 34) rfl (by rw [List.getElem?_map, e5]; rfl) Try.underlying34 Try.underlying3 (by kernel_rfl) (by kernel_rfl) T⟩
end Go.Proofs.Ytlccjklljlddhaa.Oo
