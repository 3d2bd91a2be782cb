/- How an argument that is an op, or a slice of ops, reads: its cells. No Go function in it. -/
import Derived.Test.YtlccjklljlddhaaS1
import Derived.Deep.Slices
import Derived.ChangeSlices
import Derived.ChangeSame
set_option linter.unusedVariables false
set_option linter.unusedSimpArgs false
namespace Go.Proofs.Ytlccjklljlddhaa.Oo
open Go.RowKit Go.WideShapes Go.ChangeShapes Go.Deep Go.Proofs.Ytlccjklljlddhaa.NL Go.Proofs.Ytlccjklljlddhaa.Fn Go.Proofs.Ytlccjklljlddhaa.SC Go.Proofs.YtlccjklljlddhaaW.PrintWords Go.Proofs.YtlccjklljlddhaaW.PrintMore
instance : Inhabited S36 := ⟨z36⟩
section
variable {H : Type} {enc : TypeId × Value → H} {w : World} {base : Nat} {held : Bool}
/-- The cells of one op. -/
theorem open_cells {fuel : Nat} {cs : List Value} {x : DataW H × List MemPlace} (h : DataW.trod enc Try.prog w base (fun _ => true) held fuel 36 cs = some x) :
    ∃ (o : S36) (A : Option Addr) (c : Nat), cs = [.int .i64 o.f0, .int .u64 o.f1, .int .i64 o.f2, .int .u64 o.f3, .int .i64 o.f4.f0, .bool o.f4.f1, .bool o.f4.f2, .slice A o.f5.length c] ∧ o.f5.length ≤ c ∧ (Kd.int .i64).C w A o.f5.length o.f5 ∧ Wf o ∧ ∀ p ∈ o.f5, (Lit.int .i64 p).wf = true := by
  obtain ⟨xs, n, _, _, hl, _, hf⟩ := DataW.trod_struct Try.underlying36 h
  rw [show Try.prog.cellsOf 36 = 8 by kernel_rfl] at hl
  have k3 : Try.prog.cellsOf 3 = 1 := by kernel_rfl
  have k31 : Try.prog.cellsOf 31 = 1 := by kernel_rfl
  have k33 : Try.prog.cellsOf 33 = 3 := by kernel_rfl
  have k34 : Try.prog.cellsOf 34 = 1 := by kernel_rfl
  have k4 : Try.prog.cellsOf 4 = 1 := by kernel_rfl
  match cs, hl with
  | [v0, v1, v2, v3, v4, v5, v6, v7], _ =>
    have g0 := hf 0 _ rfl
    have g1 := hf 1 _ rfl
    have g2 := hf 2 _ rfl
    have g3 := hf 3 _ rfl
    have g4 := hf 4 _ rfl
    have g5 := hf 5 _ rfl
    simp [k3, k31, k33, k34] at g0 g1 g2 g3 g4 g5
    have hs : ∀ i, i < 6 → ∃ y, xs[i]? = some y := by
      intro i hi
      rename_i hsz
      have : xs.length = 6 := by assumption
      exact ⟨_, List.getElem?_eq_getElem (by omega)⟩
    obtain ⟨y0, e0⟩ := hs 0 (by omega)
    obtain ⟨y1, e1⟩ := hs 1 (by omega)
    obtain ⟨y2, e2⟩ := hs 2 (by omega)
    obtain ⟨y3, e3⟩ := hs 3 (by omega)
    obtain ⟨y4, e4⟩ := hs 4 (by omega)
    obtain ⟨y5, e5⟩ := hs 5 (by omega)
    rw [e0] at g0
    rw [e1] at g1
    rw [e2] at g2
    rw [e3] at g3
    rw [e4] at g4
    rw [e5] at g5
    obtain ⟨n0, r0, _, w0⟩ := DataW.trod_int Try.underlying3 g0
    obtain ⟨n1, r1, _, w1⟩ := DataW.trod_int Try.underlying31 g1
    obtain ⟨n2, r2, _, w2⟩ := DataW.trod_int Try.underlying3 g2
    obtain ⟨n3, r3, _, w3⟩ := DataW.trod_int Try.underlying31 g3
    simp only [List.cons.injEq, and_true] at r0 r1 r2 r3
    subst r0 r1 r2 r3
    obtain ⟨ys, m, _, _, _, hys, hg⟩ := DataW.trod_struct Try.underlying33 g4
    have f0 := hg 0 _ rfl
    have f1 := hg 1 _ rfl
    have f2 := hg 2 _ rfl
    simp [k3, k4] at f0 f1 f2
    have hs2 : ∀ i, i < 3 → ∃ y, ys[i]? = some y := fun i hi => ⟨_, List.getElem?_eq_getElem (by rw [hys]; exact hi)⟩
    obtain ⟨z0, q0⟩ := hs2 0 (by omega)
    obtain ⟨z1, q1⟩ := hs2 1 (by omega)
    obtain ⟨z2, q2⟩ := hs2 2 (by omega)
    rw [q0] at f0
    rw [q1] at f1
    rw [q2] at f2
    obtain ⟨n4, r4, _, w4⟩ := DataW.trod_int Try.underlying3 f0
    obtain ⟨b5, r5, _⟩ := DataW.trod_bool Try.underlying4 f1
    obtain ⟨b6, r6, _⟩ := DataW.trod_bool Try.underlying4 f2
    simp only [List.cons.injEq, and_true] at r4 r5 r6
    subst r4 r5 r6
    have b0 := i64_lit w0
    have b1 := u64_lit w1
    have b3 := u64_lit w3
    rcases Go.ChangeShapes.open_ints Try.underlying34 Try.underlying3 k3 g5 with ⟨hc, _⟩ | ⟨ad, l, c, zs, hc, _, hl, hm, hz, _, hcell, hwz⟩
    · simp only [List.cons.injEq, and_true] at hc
      subst hc
      refine ⟨⟨n0, n1, n2, n3, ⟨n4, b5, b6⟩, []⟩, none, 0, rfl, Nat.le_refl _, Kd.C_nil _ _, ⟨b0, b1, b3, by simp⟩, fun p hp => by cases hp⟩
    · simp only [List.cons.injEq, and_true] at hc
      subst hc
      have hz' : zs.length = c := by simpa using hz
      have hlt : (zs.take l).length = l := by rw [List.length_take]; omega
      refine ⟨⟨n0, n1, n2, n3, ⟨n4, b5, b6⟩, zs.take l⟩, some ad, c, ?_, ?_, ?_, ⟨b0, b1, b3, ?_⟩, fun p hp => hwz p (List.mem_of_mem_take hp)⟩
      · show _ = [_, _, _, _, _, _, _, Value.slice (some ad) (zs.take l).length c]
        rw [hlt]
      · show (zs.take l).length ≤ c
        omega
      · show (Kd.int .i64).C w (some ad) (zs.take l).length (zs.take l)
        refine ⟨rfl, by unfold maxLen at hm; omega, fun _ => ⟨ad, rfl, fun j p hp => ⟨[.int .i64 p], rfl, rfl, fun i u hu => ?_⟩⟩⟩
        have hi0 : i = 0 := by
          have := (List.getElem?_eq_some_iff.1 hu).1
          simpa using this
        subst hi0
        have hu2 : u = .int .i64 p := by simpa using hu.symm
        subst hu2
        have hj : j < l := by
          have := (List.getElem?_eq_some_iff.1 hp).1
          omega
        have hpj : zs.getD j 0 = p := by
          rw [List.getElem?_take, if_pos hj] at hp
          rw [List.getD_eq_getElem?_getD, hp]
          rfl
        have := hcell j (by omega)
        rw [hpj] at this
        show w.cell? (ad.add (j * 1 + 0)) = _
        rw [Nat.mul_one, Nat.add_zero]
        exact this
      · show (zs.take l).length ≤ _
        unfold maxLen at hm
        omega
/-- A slice of ops. -/
theorem open_ops {a : Option Addr} {len cap : Nat} {d : DataW H} {p : List MemPlace} (h : DataW.Trod enc Try.prog w base (fun _ => true) held 22 (.slice a len cap) d p) :
    len ≤ cap ∧ ∃ l : List S36, l.length = len ∧ Kd.C k36 w a l.length l ∧ ∀ o ∈ l, Wf o := by
  obtain ⟨fuel, hf⟩ := h
  rcases open_slice Try.underlying22 hf with ⟨hcs, _⟩ | ⟨x, l, c, m, n, D, Pl, hcs, hb, hl, hm, hmm, hx, hel⟩
  · simp [Value.cells] at hcs
    obtain ⟨rfl, rfl, rfl⟩ := hcs
    exact ⟨Nat.le_refl _, [], rfl, Kd.C_nil _ _, fun o ho => by cases ho⟩
  · simp [Value.cells] at hcs
    obtain ⟨rfl, rfl, rfl⟩ := hcs
    have hlm : len ≤ m := by rw [hmm]; simp; omega
    have k36 : Try.prog.cellsOf 36 = 8 := by kernel_rfl
    have each : ∀ i, i < len → ∃ o : S36, (∃ cs, Fn.k36.K w o cs ∧ cs.length = 8 ∧ ∀ j u, cs[j]? = some u → w.cell? (x.add (i * 8 + j)) = some u) ∧ Wf o := by
      intro i hi
      obtain ⟨cs', h1, h2⟩ := hel i (by omega)
      rw [k36] at h1
      obtain ⟨_, hlen, hcell⟩ := World.cells?_some h1
      obtain ⟨o, A, c, rfl, hl7, hC7, hwf, _⟩ := open_cells h2
      refine ⟨o, ⟨_, k36_mk w o hl7 hC7, rfl, fun j u hu => ?_⟩, hwf⟩
      have hj : j < 8 := (List.getElem?_eq_some_iff.1 hu).1
      have := hcell j hj
      rw [Go.Deep.add_add] at this
      rw [this]
      exact hu
    obtain ⟨O, hO⟩ := choose_lt each
    have hget : ∀ j o, ((List.range len).map O)[j]? = some o → j < len ∧ o = O j := by
      intro j o hj
      have hlt : j < len := by
        have := (List.getElem?_eq_some_iff.1 hj).1
        simpa using this
      rw [List.getElem?_map, List.getElem?_range hlt] at hj
      exact ⟨hlt, by simpa using hj.symm⟩
    refine ⟨hl, (List.range len).map O, by simp, ⟨rfl, ?_, fun _ => ⟨x, rfl, fun j o hj => ?_⟩⟩, fun o ho => ?_⟩
    · simp
      unfold maxLen at hm
      omega
    · obtain ⟨hlt, rfl⟩ := hget j o hj
      obtain ⟨⟨cs, h1, h2, h3⟩, _⟩ := hO j hlt
      exact ⟨cs, h2, h1, h3⟩
    · obtain ⟨j, hj, rfl⟩ := List.mem_map.1 ho
      exact (hO j (List.mem_range.1 hj)).2
end
end Go.Proofs.Ytlccjklljlddhaa.Oo
