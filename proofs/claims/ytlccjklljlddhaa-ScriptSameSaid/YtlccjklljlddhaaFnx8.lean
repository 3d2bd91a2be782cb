-- PRINTED by print.py (a twelfth state) out of the translation. Not trusted: Lean checks it.
import Derived.Test.YtlccjklljlddhaaFnx0
import Derived.Test.YtlccjklljlddhaaFnx1
namespace Go.Proofs.Ytlccjklljlddhaa.Fn
open Go.RowKit Go.Proofs.YtlccjklljlddhaaW.PrintWords Go.Proofs.YtlccjklljlddhaaW.PrintLast Go.Proofs.YtlccjklljlddhaaW.PrintMore
attribute [local go_sem] max2_int min2_int max_two min_two max_three min_three max_four min_four   -- for this text's walks alone
set_option linter.unusedVariables false
set_option linter.unusedSimpArgs false

attribute [local go_sem high] eqA33
/-! ### dormerref20_Same: function 15 -/
mutual
def dormerref20_Same.j0 : Nat → Bool → Int → Int → Int → Int → Int → Bool → Bool → List Int → Int → Int → Int → Int → Int → Bool → Bool → List Int → Option (Bool)
  | 0, _, _, _, _, _, _, _, _, _, _, _, _, _, _, _, _, _ => none
  | k + 1, x47, x260000, x260001, x260002, x260003, x260004, x260005, x260006, x260007, x261000, x261001, x261002, x261003, x261004, x261005, x261006, x261007 => if x47 = true then (some false) else (dormerref20_Same.l0 k 0 x260000 x260001 x260002 x260003 x260004 x260005 x260006 x260007 x261000 x261001 x261002 x261003 x261004 x261005 x261006 x261007)
def dormerref20_Same.l0 : Nat → Int → Int → Int → Int → Int → Int → Bool → Bool → List Int → Int → Int → Int → Int → Int → Bool → Bool → List Int → Option (Bool)
  | 0, _, _, _, _, _, _, _, _, _, _, _, _, _, _, _, _, _ => none
  | k + 1, x5, x260000, x260001, x260002, x260003, x260004, x260005, x260006, x260007, x261000, x261001, x261002, x261003, x261004, x261005, x261006, x261007 => if x5 < (x260007.length : Int) then (if 0 ≤ x5 then (if x5 < (x261007.length : Int) then (if (rd x260007 x5) = (rd x261007 x5) then (dormerref20_Same.l0 k (wrap64 (x5 + 1)) x260000 x260001 x260002 x260003 x260004 x260005 x260006 x260007 x261000 x261001 x261002 x261003 x261004 x261005 x261006 x261007) else (some false)) else (none)) else (none)) else (some true)
end
def dormerref20_Same.f (k : Nat) (a0_0 : Int) (a0_1 : Int) (a0_2 : Int) (a0_3 : Int) (a0_4 : Int) (a0_5 : Bool) (a0_6 : Bool) (l0_7 : List Int) (a1_0 : Int) (a1_1 : Int) (a1_2 : Int) (a1_3 : Int) (a1_4 : Int) (a1_5 : Bool) (a1_6 : Bool) (l1_7 : List Int) : Option (Bool) := if a0_0 = a1_0 then (if a0_1 = a1_1 then (if a0_2 = a1_2 then (if a0_3 = a1_3 then (if (!(a0_4 == a1_4) || (!(a0_5 == a1_5) || (!(a0_6 == a1_6)))) = true then (dormerref20_Same.j0 k true a0_0 a0_1 a0_2 a0_3 a0_4 a0_5 a0_6 l0_7 a1_0 a1_1 a1_2 a1_3 a1_4 a1_5 a1_6 l1_7) else (dormerref20_Same.j0 k ((l0_7.length : Int) != (l1_7.length : Int)) a0_0 a0_1 a0_2 a0_3 a0_4 a0_5 a0_6 l0_7 a1_0 a1_1 a1_2 a1_3 a1_4 a1_5 a1_6 l1_7)) else (dormerref20_Same.j0 k true a0_0 a0_1 a0_2 a0_3 a0_4 a0_5 a0_6 l0_7 a1_0 a1_1 a1_2 a1_3 a1_4 a1_5 a1_6 l1_7)) else (dormerref20_Same.j0 k true a0_0 a0_1 a0_2 a0_3 a0_4 a0_5 a0_6 l0_7 a1_0 a1_1 a1_2 a1_3 a1_4 a1_5 a1_6 l1_7)) else (dormerref20_Same.j0 k true a0_0 a0_1 a0_2 a0_3 a0_4 a0_5 a0_6 l0_7 a1_0 a1_1 a1_2 a1_3 a1_4 a1_5 a1_6 l1_7)) else (dormerref20_Same.j0 k true a0_0 a0_1 a0_2 a0_3 a0_4 a0_5 a0_6 l0_7 a1_0 a1_1 a1_2 a1_3 a1_4 a1_5 a1_6 l1_7)
theorem dormerref20_Same.mono_l : ∀ k, (∀ y0 y1 y2 y3 y4 y5 y6 y7 y8 y9 y10 y11 y12 y13 y14 y15 y16, LeO (dormerref20_Same.j0 k y0 y1 y2 y3 y4 y5 y6 y7 y8 y9 y10 y11 y12 y13 y14 y15 y16) (dormerref20_Same.j0 (k + 1) y0 y1 y2 y3 y4 y5 y6 y7 y8 y9 y10 y11 y12 y13 y14 y15 y16)) ∧ (∀ y0 y1 y2 y3 y4 y5 y6 y7 y8 y9 y10 y11 y12 y13 y14 y15 y16, LeO (dormerref20_Same.l0 k y0 y1 y2 y3 y4 y5 y6 y7 y8 y9 y10 y11 y12 y13 y14 y15 y16) (dormerref20_Same.l0 (k + 1) y0 y1 y2 y3 y4 y5 y6 y7 y8 y9 y10 y11 y12 y13 y14 y15 y16))
  | 0 => ⟨fun _ _ _ _ _ _ _ _ _ _ _ _ _ _ _ _ _ r h => by simp [dormerref20_Same.j0] at h, fun _ _ _ _ _ _ _ _ _ _ _ _ _ _ _ _ _ r h => by simp [dormerref20_Same.l0] at h⟩
  | k + 1 => by
    obtain ⟨ih0, ih1⟩ := dormerref20_Same.mono_l k
    refine ⟨?_, ?_⟩
    · intro y0 y1 y2 y3 y4 y5 y6 y7 y8 y9 y10 y11 y12 y13 y14 y15 y16
      unfold dormerref20_Same.j0
      repeat' first
      | (with_reducible exact ih0 _ _ _ _ _ _ _ _ _ _ _ _ _ _ _ _ _)
      | (with_reducible exact ih1 _ _ _ _ _ _ _ _ _ _ _ _ _ _ _ _ _)
      | (with_reducible exact LeO.refl _)
      | (with_reducible exact LeO.none _)
      | (with_reducible refine LeO.ite ?_ ?_)
      | (with_reducible refine LeO.bind ?_ (fun _ => ?_))
      | exact ih0 _ _ _ _ _ _ _ _ _ _ _ _ _ _ _ _ _
      | exact ih1 _ _ _ _ _ _ _ _ _ _ _ _ _ _ _ _ _
      | exact LeO.none _
      | refine LeO.ite ?_ ?_
      | refine LeO.bind ?_ (fun _ => ?_)
    · intro y0 y1 y2 y3 y4 y5 y6 y7 y8 y9 y10 y11 y12 y13 y14 y15 y16
      unfold dormerref20_Same.l0
      repeat' first
      | (with_reducible exact ih0 _ _ _ _ _ _ _ _ _ _ _ _ _ _ _ _ _)
      | (with_reducible exact ih1 _ _ _ _ _ _ _ _ _ _ _ _ _ _ _ _ _)
      | (with_reducible exact LeO.refl _)
      | (with_reducible exact LeO.none _)
      | (with_reducible refine LeO.ite ?_ ?_)
      | (with_reducible refine LeO.bind ?_ (fun _ => ?_))
      | exact ih0 _ _ _ _ _ _ _ _ _ _ _ _ _ _ _ _ _
      | exact ih1 _ _ _ _ _ _ _ _ _ _ _ _ _ _ _ _ _
      | exact LeO.none _
      | refine LeO.ite ?_ ?_
      | refine LeO.bind ?_ (fun _ => ?_)
theorem dormerref20_Same.mono : ∀ a0 a1 a2 a3 a4 a5 a6 a7 a8 a9 a10 a11 a12 a13 a14 a15 k, LeO (dormerref20_Same.f k a0 a1 a2 a3 a4 a5 a6 a7 a8 a9 a10 a11 a12 a13 a14 a15) (dormerref20_Same.f (k + 1) a0 a1 a2 a3 a4 a5 a6 a7 a8 a9 a10 a11 a12 a13 a14 a15) := by
  intro a0 a1 a2 a3 a4 a5 a6 a7 a8 a9 a10 a11 a12 a13 a14 a15 k
  obtain ⟨ih0, ih1⟩ := dormerref20_Same.mono_l k
  unfold dormerref20_Same.f
  repeat' first
      | (with_reducible exact ih0 _ _ _ _ _ _ _ _ _ _ _ _ _ _ _ _ _)
      | (with_reducible exact ih1 _ _ _ _ _ _ _ _ _ _ _ _ _ _ _ _ _)
      | (with_reducible exact LeO.refl _)
      | (with_reducible exact LeO.none _)
      | (with_reducible refine LeO.ite ?_ ?_)
      | (with_reducible refine LeO.bind ?_ (fun _ => ?_))
      | exact ih0 _ _ _ _ _ _ _ _ _ _ _ _ _ _ _ _ _
      | exact ih1 _ _ _ _ _ _ _ _ _ _ _ _ _ _ _ _ _
      | exact LeO.none _
      | refine LeO.ite ?_ ?_
      | refine LeO.bind ?_ (fun _ => ?_)
set_option maxHeartbeats 8000000 in
set_option maxRecDepth 100000 in
theorem dormerref20_Same.calls (k : Nat) (a0_0 : Int) (a0_1 : Int) (a0_2 : Int) (a0_3 : Int) (a0_4 : Int) (a0_5 : Bool) (a0_6 : Bool) (A0_7 : Option Addr) (c0_7 : Nat) (l0_7 : List Int) (a1_0 : Int) (a1_1 : Int) (a1_2 : Int) (a1_3 : Int) (a1_4 : Int) (a1_5 : Bool) (a1_6 : Bool) (A1_7 : Option Addr) (c1_7 : Nat) (l1_7 : List Int) (r : Bool) (w : World) (hr0_7 : Kd.C (Kd.int .i64) w A0_7 l0_7.length l0_7) (hc0_7 : l0_7.length ≤ c0_7) (hr1_7 : Kd.C (Kd.int .i64) w A1_7 l1_7.length l1_7) (hc1_7 : l1_7.length ≤ c1_7) (h : dormerref20_Same.f k a0_0 a0_1 a0_2 a0_3 a0_4 a0_5 a0_6 l0_7 a1_0 a1_1 a1_2 a1_3 a1_4 a1_5 a1_6 l1_7 = some r) :
    Calls Try.prog 15 #[.agg #[.int .i64 a0_0, .int .u64 a0_1, .int .i64 a0_2, .int .u64 a0_3, .int .i64 a0_4, .bool a0_5, .bool a0_6, .slice A0_7 l0_7.length c0_7], .agg #[.int .i64 a1_0, .int .u64 a1_1, .int .i64 a1_2, .int .u64 a1_3, .int .i64 a1_4, .bool a1_5, .bool a1_6, .slice A1_7 l1_7.length c1_7]] w fun e w' => e = .returned (.bool r) ∧ Below w.heap.size w w' := by
  have hu36 := Try.underlying36
  have hu33 := Try.underlying33
  have HR0_7 := Aside0.mk hr0_7
  have HC0_7 := Aside0.mk hc0_7
  clear hr0_7 hc0_7
  have HR1_7 := Aside0.mk hr1_7
  have HC1_7 := Aside0.mk hc1_7
  clear hr1_7 hc1_7
  have HB := Aside0.mk (Below.refl w.heap.size w)
  have H : (if a0_0 = a1_0 then (if a0_1 = a1_1 then (if a0_2 = a1_2 then (if a0_3 = a1_3 then (if (!(a0_4 == a1_4) || (!(a0_5 == a1_5) || (!(a0_6 == a1_6)))) = true then (dormerref20_Same.j0 k true a0_0 a0_1 a0_2 a0_3 a0_4 a0_5 a0_6 l0_7 a1_0 a1_1 a1_2 a1_3 a1_4 a1_5 a1_6 l1_7) else (dormerref20_Same.j0 k ((l0_7.length : Int) != (l1_7.length : Int)) a0_0 a0_1 a0_2 a0_3 a0_4 a0_5 a0_6 l0_7 a1_0 a1_1 a1_2 a1_3 a1_4 a1_5 a1_6 l1_7)) else (dormerref20_Same.j0 k true a0_0 a0_1 a0_2 a0_3 a0_4 a0_5 a0_6 l0_7 a1_0 a1_1 a1_2 a1_3 a1_4 a1_5 a1_6 l1_7)) else (dormerref20_Same.j0 k true a0_0 a0_1 a0_2 a0_3 a0_4 a0_5 a0_6 l0_7 a1_0 a1_1 a1_2 a1_3 a1_4 a1_5 a1_6 l1_7)) else (dormerref20_Same.j0 k true a0_0 a0_1 a0_2 a0_3 a0_4 a0_5 a0_6 l0_7 a1_0 a1_1 a1_2 a1_3 a1_4 a1_5 a1_6 l1_7)) else (dormerref20_Same.j0 k true a0_0 a0_1 a0_2 a0_3 a0_4 a0_5 a0_6 l0_7 a1_0 a1_1 a1_2 a1_3 a1_4 a1_5 a1_6 l1_7)) = some r := h
  clear h
  have HC3 := Aside0.mk H
  clear H
  go_enter Try.func15, Try.ntmps15
  go_upto_region 1 with (first | ((with_reducible refine gate_dst (N := 2) rfl ?_); (try (refine gate_guard (by rfl) ?_; dsimp only)); refine box_event ?hg (N := 2) ?hd (cs := #[.int .i64 a0_0, .int .u64 a0_1, .int .i64 a0_2, .int .u64 a0_3, .int .i64 a0_4, .bool a0_5, .bool a0_6, .slice A0_7 l0_7.length c0_7]) (t := 36) ?hr ?_; (case hd => rfl); (case hg => rfl); (case hr => first | (go_simp; done) | (go_simp; rfl)); intro gb259 hg w4 hbox hb; have n0_ := Aside0.mk (below_step (by repeat (first | (with_reducible first | exact HB.out | apply below_alloc | apply pw_below_drewN | apply below_drew1) | exact HB.out)) hb); have n1_ := Aside0.mk (hbox); have n2_ := Aside0.mk ((by rw [hg]; exact (below_size (by repeat (first | (with_reducible first | exact HB.out | apply below_alloc | apply pw_below_drewN | apply below_drew1) | exact HB.out))) : w.heap.size ≤ gb259)); have n3_ := Aside0.mk ((by rw [hg]; exact (below_size (by repeat (first | (with_reducible first | exact HB.out | apply below_alloc | apply pw_below_drewN | apply below_drew1) | exact HB.out))) : w.heap.size ≤ gb259)); clear HB; have HB := n0_; have BK259 := n1_; have GW259 := n2_; have GE259 := n3_; clear n0_ n1_ n2_ n3_; clear hb hbox hg) | ((with_reducible refine gate_dst (N := 3) rfl ?_); (try (refine gate_guard (by rfl) ?_; dsimp only)); refine box_event ?hg (N := 3) ?hd (cs := #[.int .i64 a1_0, .int .u64 a1_1, .int .i64 a1_2, .int .u64 a1_3, .int .i64 a1_4, .bool a1_5, .bool a1_6, .slice A1_7 l1_7.length c1_7]) (t := 36) ?hr ?_; (case hd => rfl); (case hg => rfl); (case hr => first | (go_simp; done) | (go_simp; rfl)); intro gb260 hg w5 hbox hb; have n0_ := Aside0.mk (blk_below (g := gb259) (o := .cells #[.int .i64 a0_0, .int .u64 a0_1, .int .i64 a0_2, .int .u64 a0_3, .int .i64 a0_4, .bool a0_5, .bool a0_6, .slice A0_7 l0_7.length c0_7] 36 (0, 0)) (by (with_reducible repeat (first | refine blk_drewN ?_ _ | refine blk_drew ?_ | refine blk_alloc ?_ _)); exact BK259.out) hb); have n1_ := Aside0.mk (below_step (by repeat (first | (with_reducible first | exact HB.out | apply below_alloc | apply pw_below_drewN | apply below_drew1 | refine below_set ?_ GE259.out) | exact HB.out)) hb); have n2_ := Aside0.mk (hbox); have n3_ := Aside0.mk ((by rw [hg]; exact (below_size (by repeat (first | (with_reducible first | exact HB.out | apply below_alloc | apply pw_below_drewN | apply below_drew1 | refine below_set ?_ GE259.out) | exact HB.out))) : w.heap.size ≤ gb260)); have n4_ := Aside0.mk ((by rw [hg]; exact (below_size (by repeat (first | (with_reducible first | exact HB.out | apply below_alloc | apply pw_below_drewN | apply below_drew1 | refine below_set ?_ GE259.out) | exact HB.out))) : w.heap.size ≤ gb260)); have n5_ := Aside0.mk ((by rw [hg]; exact Nat.ne_of_lt (blk_lt (g := gb259) (o := .cells #[.int .i64 a0_0, .int .u64 a0_1, .int .i64 a0_2, .int .u64 a0_3, .int .i64 a0_4, .bool a0_5, .bool a0_6, .slice A0_7 l0_7.length c0_7] 36 (0, 0)) (by (with_reducible repeat (first | refine blk_drewN ?_ _ | refine blk_drew ?_ | refine blk_alloc ?_ _)); exact BK259.out)) : gb259 ≠ gb260)); have n6_ := Aside0.mk ((by rw [hg]; exact Nat.ne_of_gt (blk_lt (g := gb259) (o := .cells #[.int .i64 a0_0, .int .u64 a0_1, .int .i64 a0_2, .int .u64 a0_3, .int .i64 a0_4, .bool a0_5, .bool a0_6, .slice A0_7 l0_7.length c0_7] 36 (0, 0)) (by (with_reducible repeat (first | refine blk_drewN ?_ _ | refine blk_drew ?_ | refine blk_alloc ?_ _)); exact BK259.out)) : gb260 ≠ gb259)); clear BK259; clear HB; have BK259 := n0_; have HB := n1_; have BK260 := n2_; have GW260 := n3_; have GE260 := n4_; have NB259_260 := n5_; have NB260_259 := n6_; clear n0_ n1_ n2_ n3_ n4_ n5_ n6_; clear hb hbox hg))
  repeat (go_quiet (first | ((with_reducible refine gate_dst (N := 2) rfl ?_); (try (refine gate_guard (by rfl) ?_; dsimp only)); refine box_event ?hg (N := 2) ?hd (cs := #[.int .i64 a0_0, .int .u64 a0_1, .int .i64 a0_2, .int .u64 a0_3, .int .i64 a0_4, .bool a0_5, .bool a0_6, .slice A0_7 l0_7.length c0_7]) (t := 36) ?hr ?_; (case hd => rfl); (case hg => rfl); (case hr => first | (go_simp; done) | (go_simp; rfl)); intro gb259 hg w4 hbox hb; have n0_ := Aside0.mk (below_step (by repeat (first | (with_reducible first | exact HB.out | apply below_alloc | apply pw_below_drewN | apply below_drew1) | exact HB.out)) hb); have n1_ := Aside0.mk (hbox); have n2_ := Aside0.mk ((by rw [hg]; exact (below_size (by repeat (first | (with_reducible first | exact HB.out | apply below_alloc | apply pw_below_drewN | apply below_drew1) | exact HB.out))) : w.heap.size ≤ gb259)); have n3_ := Aside0.mk ((by rw [hg]; exact (below_size (by repeat (first | (with_reducible first | exact HB.out | apply below_alloc | apply pw_below_drewN | apply below_drew1) | exact HB.out))) : w.heap.size ≤ gb259)); clear HB; have HB := n0_; have BK259 := n1_; have GW259 := n2_; have GE259 := n3_; clear n0_ n1_ n2_ n3_; clear hb hbox hg) | ((with_reducible refine gate_dst (N := 3) rfl ?_); (try (refine gate_guard (by rfl) ?_; dsimp only)); refine box_event ?hg (N := 3) ?hd (cs := #[.int .i64 a1_0, .int .u64 a1_1, .int .i64 a1_2, .int .u64 a1_3, .int .i64 a1_4, .bool a1_5, .bool a1_6, .slice A1_7 l1_7.length c1_7]) (t := 36) ?hr ?_; (case hd => rfl); (case hg => rfl); (case hr => first | (go_simp; done) | (go_simp; rfl)); intro gb260 hg w5 hbox hb; have n0_ := Aside0.mk (blk_below (g := gb259) (o := .cells #[.int .i64 a0_0, .int .u64 a0_1, .int .i64 a0_2, .int .u64 a0_3, .int .i64 a0_4, .bool a0_5, .bool a0_6, .slice A0_7 l0_7.length c0_7] 36 (0, 0)) (by (with_reducible repeat (first | refine blk_drewN ?_ _ | refine blk_drew ?_ | refine blk_alloc ?_ _)); exact BK259.out) hb); have n1_ := Aside0.mk (below_step (by repeat (first | (with_reducible first | exact HB.out | apply below_alloc | apply pw_below_drewN | apply below_drew1 | refine below_set ?_ GE259.out) | exact HB.out)) hb); have n2_ := Aside0.mk (hbox); have n3_ := Aside0.mk ((by rw [hg]; exact (below_size (by repeat (first | (with_reducible first | exact HB.out | apply below_alloc | apply pw_below_drewN | apply below_drew1 | refine below_set ?_ GE259.out) | exact HB.out))) : w.heap.size ≤ gb260)); have n4_ := Aside0.mk ((by rw [hg]; exact (below_size (by repeat (first | (with_reducible first | exact HB.out | apply below_alloc | apply pw_below_drewN | apply below_drew1 | refine below_set ?_ GE259.out) | exact HB.out))) : w.heap.size ≤ gb260)); have n5_ := Aside0.mk ((by rw [hg]; exact Nat.ne_of_lt (blk_lt (g := gb259) (o := .cells #[.int .i64 a0_0, .int .u64 a0_1, .int .i64 a0_2, .int .u64 a0_3, .int .i64 a0_4, .bool a0_5, .bool a0_6, .slice A0_7 l0_7.length c0_7] 36 (0, 0)) (by (with_reducible repeat (first | refine blk_drewN ?_ _ | refine blk_drew ?_ | refine blk_alloc ?_ _)); exact BK259.out)) : gb259 ≠ gb260)); have n6_ := Aside0.mk ((by rw [hg]; exact Nat.ne_of_gt (blk_lt (g := gb259) (o := .cells #[.int .i64 a0_0, .int .u64 a0_1, .int .i64 a0_2, .int .u64 a0_3, .int .i64 a0_4, .bool a0_5, .bool a0_6, .slice A0_7 l0_7.length c0_7] 36 (0, 0)) (by (with_reducible repeat (first | refine blk_drewN ?_ _ | refine blk_drew ?_ | refine blk_alloc ?_ _)); exact BK259.out)) : gb260 ≠ gb259)); clear BK259; clear HB; have BK259 := n0_; have HB := n1_; have BK260 := n2_; have GW260 := n3_; have GE260 := n4_; have NB259_260 := n5_; have NB260_259 := n6_; clear n0_ n1_ n2_ n3_ n4_ n5_ n6_; clear hb hbox hg)); go_upto_region 1 with (first | ((with_reducible refine gate_dst (N := 2) rfl ?_); (try (refine gate_guard (by rfl) ?_; dsimp only)); refine box_event ?hg (N := 2) ?hd (cs := #[.int .i64 a0_0, .int .u64 a0_1, .int .i64 a0_2, .int .u64 a0_3, .int .i64 a0_4, .bool a0_5, .bool a0_6, .slice A0_7 l0_7.length c0_7]) (t := 36) ?hr ?_; (case hd => rfl); (case hg => rfl); (case hr => first | (go_simp; done) | (go_simp; rfl)); intro gb259 hg w4 hbox hb; have n0_ := Aside0.mk (below_step (by repeat (first | (with_reducible first | exact HB.out | apply below_alloc | apply pw_below_drewN | apply below_drew1) | exact HB.out)) hb); have n1_ := Aside0.mk (hbox); have n2_ := Aside0.mk ((by rw [hg]; exact (below_size (by repeat (first | (with_reducible first | exact HB.out | apply below_alloc | apply pw_below_drewN | apply below_drew1) | exact HB.out))) : w.heap.size ≤ gb259)); have n3_ := Aside0.mk ((by rw [hg]; exact (below_size (by repeat (first | (with_reducible first | exact HB.out | apply below_alloc | apply pw_below_drewN | apply below_drew1) | exact HB.out))) : w.heap.size ≤ gb259)); clear HB; have HB := n0_; have BK259 := n1_; have GW259 := n2_; have GE259 := n3_; clear n0_ n1_ n2_ n3_; clear hb hbox hg) | ((with_reducible refine gate_dst (N := 3) rfl ?_); (try (refine gate_guard (by rfl) ?_; dsimp only)); refine box_event ?hg (N := 3) ?hd (cs := #[.int .i64 a1_0, .int .u64 a1_1, .int .i64 a1_2, .int .u64 a1_3, .int .i64 a1_4, .bool a1_5, .bool a1_6, .slice A1_7 l1_7.length c1_7]) (t := 36) ?hr ?_; (case hd => rfl); (case hg => rfl); (case hr => first | (go_simp; done) | (go_simp; rfl)); intro gb260 hg w5 hbox hb; have n0_ := Aside0.mk (blk_below (g := gb259) (o := .cells #[.int .i64 a0_0, .int .u64 a0_1, .int .i64 a0_2, .int .u64 a0_3, .int .i64 a0_4, .bool a0_5, .bool a0_6, .slice A0_7 l0_7.length c0_7] 36 (0, 0)) (by (with_reducible repeat (first | refine blk_drewN ?_ _ | refine blk_drew ?_ | refine blk_alloc ?_ _)); exact BK259.out) hb); have n1_ := Aside0.mk (below_step (by repeat (first | (with_reducible first | exact HB.out | apply below_alloc | apply pw_below_drewN | apply below_drew1 | refine below_set ?_ GE259.out) | exact HB.out)) hb); have n2_ := Aside0.mk (hbox); have n3_ := Aside0.mk ((by rw [hg]; exact (below_size (by repeat (first | (with_reducible first | exact HB.out | apply below_alloc | apply pw_below_drewN | apply below_drew1 | refine below_set ?_ GE259.out) | exact HB.out))) : w.heap.size ≤ gb260)); have n4_ := Aside0.mk ((by rw [hg]; exact (below_size (by repeat (first | (with_reducible first | exact HB.out | apply below_alloc | apply pw_below_drewN | apply below_drew1 | refine below_set ?_ GE259.out) | exact HB.out))) : w.heap.size ≤ gb260)); have n5_ := Aside0.mk ((by rw [hg]; exact Nat.ne_of_lt (blk_lt (g := gb259) (o := .cells #[.int .i64 a0_0, .int .u64 a0_1, .int .i64 a0_2, .int .u64 a0_3, .int .i64 a0_4, .bool a0_5, .bool a0_6, .slice A0_7 l0_7.length c0_7] 36 (0, 0)) (by (with_reducible repeat (first | refine blk_drewN ?_ _ | refine blk_drew ?_ | refine blk_alloc ?_ _)); exact BK259.out)) : gb259 ≠ gb260)); have n6_ := Aside0.mk ((by rw [hg]; exact Nat.ne_of_gt (blk_lt (g := gb259) (o := .cells #[.int .i64 a0_0, .int .u64 a0_1, .int .i64 a0_2, .int .u64 a0_3, .int .i64 a0_4, .bool a0_5, .bool a0_6, .slice A0_7 l0_7.length c0_7] 36 (0, 0)) (by (with_reducible repeat (first | refine blk_drewN ?_ _ | refine blk_drew ?_ | refine blk_alloc ?_ _)); exact BK259.out)) : gb260 ≠ gb259)); clear BK259; clear HB; have BK259 := n0_; have HB := n1_; have BK260 := n2_; have GW260 := n3_; have GE260 := n4_; have NB259_260 := n5_; have NB260_259 := n6_; clear n0_ n1_ n2_ n3_ n4_ n5_ n6_; clear hb hbox hg)))
  (try simp only [Act.put, List.setIfInBounds_toArray, List.set_cons_zero, List.set_cons_succ])
  go_cut [47] (fun v47 wc => ∃ (kq : Nat) (x47_2 : Bool), v47 = .bool x47_2 ∧ Aside0 (dormerref20_Same.j0 kq x47_2 a0_0 a0_1 a0_2 a0_3 a0_4 a0_5 a0_6 l0_7 a1_0 a1_1 a1_2 a1_3 a1_4 a1_5 a1_6 l1_7 = some r) ∧ Aside0 (kq ≤ k) ∧ Aside0 (wc.heap[gb259]? = some (.cells #[.int .i64 a0_0, .int .u64 a0_1, .int .i64 a0_2, .int .u64 a0_3, .int .i64 a0_4, .bool a0_5, .bool a0_6, (.slice A0_7 l0_7.length c0_7)] 36 (0, 0))) ∧ Aside0 (wc.heap[gb260]? = some (.cells #[.int .i64 a1_0, .int .u64 a1_1, .int .i64 a1_2, .int .u64 a1_3, .int .i64 a1_4, .bool a1_5, .bool a1_6, (.slice A1_7 l1_7.length c1_7)] 36 (0, 0))) ∧ Aside0 (Below w.heap.size w wc))
  case first =>
    have H := HC3.out
    clear HC3
    by_cases c6 : a0_0 = a1_0
    · rw [if_pos c6] at H
      have c6b0 : (a0_0 == a1_0) = true := beq_iff_eq.mpr c6
      have c6b1 : (a0_0 != a1_0) = false := bne_eq_false_iff_eq.mpr c6
      clear c6
      (first | rw [c6b0] | (simp only [i64_w, i32_w]; rw [c6b0]) | skip)
      by_cases c7 : a0_1 = a1_1
      · rw [if_pos c7] at H
        have c7b0 : (a0_1 == a1_1) = true := beq_iff_eq.mpr c7
        have c7b1 : (a0_1 != a1_1) = false := bne_eq_false_iff_eq.mpr c7
        clear c7
        by_cases c8 : a0_2 = a1_2
        · rw [if_pos c8] at H
          have c8b0 : (a0_2 == a1_2) = true := beq_iff_eq.mpr c8
          have c8b1 : (a0_2 != a1_2) = false := bne_eq_false_iff_eq.mpr c8
          clear c8
          by_cases c9 : a0_3 = a1_3
          · rw [if_pos c9] at H
            have c9b0 : (a0_3 == a1_3) = true := beq_iff_eq.mpr c9
            have c9b1 : (a0_3 != a1_3) = false := bne_eq_false_iff_eq.mpr c9
            clear c9
            by_cases c10 : (!(a0_4 == a1_4) || (!(a0_5 == a1_5) || (!(a0_6 == a1_6)))) = true
            · rw [if_pos c10] at H
              have c10b0 : (!(a0_4 == a1_4) || (!(a0_5 == a1_5) || (!(a0_6 == a1_6)))) = true := c10
              clear c10
              have H' := Aside0.mk H
              clear H
              have hnb11 := NB259_260.out
              have hnc11 := NB260_259.out
              have hcz12_0 : w5.cell? ⟨gb259, 0, none⟩ = some (.int .i64 a0_0) := (blk_cell BK259.out 0).trans rfl
              have hcz12_1 : w5.cell? ⟨gb259, 1, none⟩ = some (.int .u64 a0_1) := (blk_cell BK259.out 1).trans rfl
              have hcz12_2 : w5.cell? ⟨gb259, 2, none⟩ = some (.int .i64 a0_2) := (blk_cell BK259.out 2).trans rfl
              have hcz12_3 : w5.cell? ⟨gb259, 3, none⟩ = some (.int .u64 a0_3) := (blk_cell BK259.out 3).trans rfl
              have hcz12_4 : w5.cell? ⟨gb259, 4, none⟩ = some (.int .i64 a0_4) := (blk_cell BK259.out 4).trans rfl
              have hcz12_5 : w5.cell? ⟨gb259, 5, none⟩ = some (.bool a0_5) := (blk_cell BK259.out 5).trans rfl
              have hcz12_6 : w5.cell? ⟨gb259, 6, none⟩ = some (.bool a0_6) := (blk_cell BK259.out 6).trans rfl
              have hcz12_7 : w5.cell? ⟨gb259, 7, none⟩ = some (.slice A0_7 l0_7.length c0_7) := (blk_cell BK259.out 7).trans rfl
              have hfz12_0 := blk_frozen BK259.out 0
              have hfz12_1 := blk_frozen BK259.out 1
              have hfz12_2 := blk_frozen BK259.out 2
              have hfz12_3 := blk_frozen BK259.out 3
              have hfz12_4 := blk_frozen BK259.out 4
              have hfz12_5 := blk_frozen BK259.out 5
              have hfz12_6 := blk_frozen BK259.out 6
              have hfz12_7 := blk_frozen BK259.out 7
              have hcz13_0 : w5.cell? ⟨gb260, 0, none⟩ = some (.int .i64 a1_0) := (blk_cell BK260.out 0).trans rfl
              have hcz13_1 : w5.cell? ⟨gb260, 1, none⟩ = some (.int .u64 a1_1) := (blk_cell BK260.out 1).trans rfl
              have hcz13_2 : w5.cell? ⟨gb260, 2, none⟩ = some (.int .i64 a1_2) := (blk_cell BK260.out 2).trans rfl
              have hcz13_3 : w5.cell? ⟨gb260, 3, none⟩ = some (.int .u64 a1_3) := (blk_cell BK260.out 3).trans rfl
              have hcz13_4 : w5.cell? ⟨gb260, 4, none⟩ = some (.int .i64 a1_4) := (blk_cell BK260.out 4).trans rfl
              have hcz13_5 : w5.cell? ⟨gb260, 5, none⟩ = some (.bool a1_5) := (blk_cell BK260.out 5).trans rfl
              have hcz13_6 : w5.cell? ⟨gb260, 6, none⟩ = some (.bool a1_6) := (blk_cell BK260.out 6).trans rfl
              have hcz13_7 : w5.cell? ⟨gb260, 7, none⟩ = some (.slice A1_7 l1_7.length c1_7) := (blk_cell BK260.out 7).trans rfl
              have hfz13_0 := blk_frozen BK260.out 0
              have hfz13_1 := blk_frozen BK260.out 1
              have hfz13_2 := blk_frozen BK260.out 2
              have hfz13_3 := blk_frozen BK260.out 3
              have hfz13_4 := blk_frozen BK260.out 4
              have hfz13_5 := blk_frozen BK260.out 5
              have hfz13_6 := blk_frozen BK260.out 6
              have hfz13_7 := blk_frozen BK260.out 7
              go_wp2
              repeat (go_quiet (fail); try go_wp2)
              go_meet
              case rel => exact ⟨_, (true), (by first | rfl | (simp; done) | (simp [*]; done)), H', ⟨by first | omega | exact Nat.le_refl _⟩, ⟨by (with_reducible repeat (first | refine blk_drewN ?_ _ | refine blk_drew ?_ | refine blk_alloc ?_ _)); exact BK259.out⟩, ⟨by (with_reducible repeat (first | refine blk_drewN ?_ _ | refine blk_drew ?_ | refine blk_alloc ?_ _)); exact BK260.out⟩, ⟨by repeat (first | (with_reducible first | exact HB.out | apply below_alloc | apply pw_below_drewN | apply below_drew1 | refine below_set ?_ GE259.out | refine below_set ?_ GE260.out) | exact HB.out)⟩⟩
            · rw [if_neg c10] at H
              have c10b0 : (!(a0_4 == a1_4) || (!(a0_5 == a1_5) || (!(a0_6 == a1_6)))) = false := by simpa using c10
              clear c10
              have H' := Aside0.mk H
              clear H
              have hnb14 := NB259_260.out
              have hnc14 := NB260_259.out
              have hcz15_0 : w5.cell? ⟨gb259, 0, none⟩ = some (.int .i64 a0_0) := (blk_cell BK259.out 0).trans rfl
              have hcz15_1 : w5.cell? ⟨gb259, 1, none⟩ = some (.int .u64 a0_1) := (blk_cell BK259.out 1).trans rfl
              have hcz15_2 : w5.cell? ⟨gb259, 2, none⟩ = some (.int .i64 a0_2) := (blk_cell BK259.out 2).trans rfl
              have hcz15_3 : w5.cell? ⟨gb259, 3, none⟩ = some (.int .u64 a0_3) := (blk_cell BK259.out 3).trans rfl
              have hcz15_4 : w5.cell? ⟨gb259, 4, none⟩ = some (.int .i64 a0_4) := (blk_cell BK259.out 4).trans rfl
              have hcz15_5 : w5.cell? ⟨gb259, 5, none⟩ = some (.bool a0_5) := (blk_cell BK259.out 5).trans rfl
              have hcz15_6 : w5.cell? ⟨gb259, 6, none⟩ = some (.bool a0_6) := (blk_cell BK259.out 6).trans rfl
              have hcz15_7 : w5.cell? ⟨gb259, 7, none⟩ = some (.slice A0_7 l0_7.length c0_7) := (blk_cell BK259.out 7).trans rfl
              have hfz15_0 := blk_frozen BK259.out 0
              have hfz15_1 := blk_frozen BK259.out 1
              have hfz15_2 := blk_frozen BK259.out 2
              have hfz15_3 := blk_frozen BK259.out 3
              have hfz15_4 := blk_frozen BK259.out 4
              have hfz15_5 := blk_frozen BK259.out 5
              have hfz15_6 := blk_frozen BK259.out 6
              have hfz15_7 := blk_frozen BK259.out 7
              have hcz16_0 : w5.cell? ⟨gb260, 0, none⟩ = some (.int .i64 a1_0) := (blk_cell BK260.out 0).trans rfl
              have hcz16_1 : w5.cell? ⟨gb260, 1, none⟩ = some (.int .u64 a1_1) := (blk_cell BK260.out 1).trans rfl
              have hcz16_2 : w5.cell? ⟨gb260, 2, none⟩ = some (.int .i64 a1_2) := (blk_cell BK260.out 2).trans rfl
              have hcz16_3 : w5.cell? ⟨gb260, 3, none⟩ = some (.int .u64 a1_3) := (blk_cell BK260.out 3).trans rfl
              have hcz16_4 : w5.cell? ⟨gb260, 4, none⟩ = some (.int .i64 a1_4) := (blk_cell BK260.out 4).trans rfl
              have hcz16_5 : w5.cell? ⟨gb260, 5, none⟩ = some (.bool a1_5) := (blk_cell BK260.out 5).trans rfl
              have hcz16_6 : w5.cell? ⟨gb260, 6, none⟩ = some (.bool a1_6) := (blk_cell BK260.out 6).trans rfl
              have hcz16_7 : w5.cell? ⟨gb260, 7, none⟩ = some (.slice A1_7 l1_7.length c1_7) := (blk_cell BK260.out 7).trans rfl
              have hfz16_0 := blk_frozen BK260.out 0
              have hfz16_1 := blk_frozen BK260.out 1
              have hfz16_2 := blk_frozen BK260.out 2
              have hfz16_3 := blk_frozen BK260.out 3
              have hfz16_4 := blk_frozen BK260.out 4
              have hfz16_5 := blk_frozen BK260.out 5
              have hfz16_6 := blk_frozen BK260.out 6
              have hfz16_7 := blk_frozen BK260.out 7
              go_wp2
              repeat (go_quiet (fail); try go_wp2)
              go_meet
              case rel => exact ⟨_, (((l0_7.length : Int) != (l1_7.length : Int))), (by first | rfl | (simp; done) | (simp [*]; done)), H', ⟨by first | omega | exact Nat.le_refl _⟩, ⟨by (with_reducible repeat (first | refine blk_drewN ?_ _ | refine blk_drew ?_ | refine blk_alloc ?_ _)); exact BK259.out⟩, ⟨by (with_reducible repeat (first | refine blk_drewN ?_ _ | refine blk_drew ?_ | refine blk_alloc ?_ _)); exact BK260.out⟩, ⟨by repeat (first | (with_reducible first | exact HB.out | apply below_alloc | apply pw_below_drewN | apply below_drew1 | refine below_set ?_ GE259.out | refine below_set ?_ GE260.out) | exact HB.out)⟩⟩
          · rw [if_neg c9] at H
            have c9b0 : (a0_3 == a1_3) = false := beq_eq_false_iff_ne.mpr c9
            have c9b1 : (a0_3 != a1_3) = true := bne_iff_ne.mpr c9
            have H' := Aside0.mk H
            clear H
            have hnb17 := NB259_260.out
            have hnc17 := NB260_259.out
            have hcz18_0 : w5.cell? ⟨gb259, 0, none⟩ = some (.int .i64 a0_0) := (blk_cell BK259.out 0).trans rfl
            have hcz18_1 : w5.cell? ⟨gb259, 1, none⟩ = some (.int .u64 a0_1) := (blk_cell BK259.out 1).trans rfl
            have hcz18_2 : w5.cell? ⟨gb259, 2, none⟩ = some (.int .i64 a0_2) := (blk_cell BK259.out 2).trans rfl
            have hcz18_3 : w5.cell? ⟨gb259, 3, none⟩ = some (.int .u64 a0_3) := (blk_cell BK259.out 3).trans rfl
            have hcz18_4 : w5.cell? ⟨gb259, 4, none⟩ = some (.int .i64 a0_4) := (blk_cell BK259.out 4).trans rfl
            have hcz18_5 : w5.cell? ⟨gb259, 5, none⟩ = some (.bool a0_5) := (blk_cell BK259.out 5).trans rfl
            have hcz18_6 : w5.cell? ⟨gb259, 6, none⟩ = some (.bool a0_6) := (blk_cell BK259.out 6).trans rfl
            have hcz18_7 : w5.cell? ⟨gb259, 7, none⟩ = some (.slice A0_7 l0_7.length c0_7) := (blk_cell BK259.out 7).trans rfl
            have hfz18_0 := blk_frozen BK259.out 0
            have hfz18_1 := blk_frozen BK259.out 1
            have hfz18_2 := blk_frozen BK259.out 2
            have hfz18_3 := blk_frozen BK259.out 3
            have hfz18_4 := blk_frozen BK259.out 4
            have hfz18_5 := blk_frozen BK259.out 5
            have hfz18_6 := blk_frozen BK259.out 6
            have hfz18_7 := blk_frozen BK259.out 7
            have hcz19_0 : w5.cell? ⟨gb260, 0, none⟩ = some (.int .i64 a1_0) := (blk_cell BK260.out 0).trans rfl
            have hcz19_1 : w5.cell? ⟨gb260, 1, none⟩ = some (.int .u64 a1_1) := (blk_cell BK260.out 1).trans rfl
            have hcz19_2 : w5.cell? ⟨gb260, 2, none⟩ = some (.int .i64 a1_2) := (blk_cell BK260.out 2).trans rfl
            have hcz19_3 : w5.cell? ⟨gb260, 3, none⟩ = some (.int .u64 a1_3) := (blk_cell BK260.out 3).trans rfl
            have hcz19_4 : w5.cell? ⟨gb260, 4, none⟩ = some (.int .i64 a1_4) := (blk_cell BK260.out 4).trans rfl
            have hcz19_5 : w5.cell? ⟨gb260, 5, none⟩ = some (.bool a1_5) := (blk_cell BK260.out 5).trans rfl
            have hcz19_6 : w5.cell? ⟨gb260, 6, none⟩ = some (.bool a1_6) := (blk_cell BK260.out 6).trans rfl
            have hcz19_7 : w5.cell? ⟨gb260, 7, none⟩ = some (.slice A1_7 l1_7.length c1_7) := (blk_cell BK260.out 7).trans rfl
            have hfz19_0 := blk_frozen BK260.out 0
            have hfz19_1 := blk_frozen BK260.out 1
            have hfz19_2 := blk_frozen BK260.out 2
            have hfz19_3 := blk_frozen BK260.out 3
            have hfz19_4 := blk_frozen BK260.out 4
            have hfz19_5 := blk_frozen BK260.out 5
            have hfz19_6 := blk_frozen BK260.out 6
            have hfz19_7 := blk_frozen BK260.out 7
            go_wp2
            repeat (go_quiet (fail); try go_wp2)
            go_meet
            case rel => exact ⟨_, (true), (by first | rfl | (simp; done) | (simp [*]; done)), H', ⟨by first | omega | exact Nat.le_refl _⟩, ⟨by (with_reducible repeat (first | refine blk_drewN ?_ _ | refine blk_drew ?_ | refine blk_alloc ?_ _)); exact BK259.out⟩, ⟨by (with_reducible repeat (first | refine blk_drewN ?_ _ | refine blk_drew ?_ | refine blk_alloc ?_ _)); exact BK260.out⟩, ⟨by repeat (first | (with_reducible first | exact HB.out | apply below_alloc | apply pw_below_drewN | apply below_drew1 | refine below_set ?_ GE259.out | refine below_set ?_ GE260.out) | exact HB.out)⟩⟩
        · rw [if_neg c8] at H
          have c8b0 : (a0_2 == a1_2) = false := beq_eq_false_iff_ne.mpr c8
          have c8b1 : (a0_2 != a1_2) = true := bne_iff_ne.mpr c8
          have H' := Aside0.mk H
          clear H
          have hnb20 := NB259_260.out
          have hnc20 := NB260_259.out
          have hcz21_0 : w5.cell? ⟨gb259, 0, none⟩ = some (.int .i64 a0_0) := (blk_cell BK259.out 0).trans rfl
          have hcz21_1 : w5.cell? ⟨gb259, 1, none⟩ = some (.int .u64 a0_1) := (blk_cell BK259.out 1).trans rfl
          have hcz21_2 : w5.cell? ⟨gb259, 2, none⟩ = some (.int .i64 a0_2) := (blk_cell BK259.out 2).trans rfl
          have hcz21_3 : w5.cell? ⟨gb259, 3, none⟩ = some (.int .u64 a0_3) := (blk_cell BK259.out 3).trans rfl
          have hcz21_4 : w5.cell? ⟨gb259, 4, none⟩ = some (.int .i64 a0_4) := (blk_cell BK259.out 4).trans rfl
          have hcz21_5 : w5.cell? ⟨gb259, 5, none⟩ = some (.bool a0_5) := (blk_cell BK259.out 5).trans rfl
          have hcz21_6 : w5.cell? ⟨gb259, 6, none⟩ = some (.bool a0_6) := (blk_cell BK259.out 6).trans rfl
          have hcz21_7 : w5.cell? ⟨gb259, 7, none⟩ = some (.slice A0_7 l0_7.length c0_7) := (blk_cell BK259.out 7).trans rfl
          have hfz21_0 := blk_frozen BK259.out 0
          have hfz21_1 := blk_frozen BK259.out 1
          have hfz21_2 := blk_frozen BK259.out 2
          have hfz21_3 := blk_frozen BK259.out 3
          have hfz21_4 := blk_frozen BK259.out 4
          have hfz21_5 := blk_frozen BK259.out 5
          have hfz21_6 := blk_frozen BK259.out 6
          have hfz21_7 := blk_frozen BK259.out 7
          have hcz22_0 : w5.cell? ⟨gb260, 0, none⟩ = some (.int .i64 a1_0) := (blk_cell BK260.out 0).trans rfl
          have hcz22_1 : w5.cell? ⟨gb260, 1, none⟩ = some (.int .u64 a1_1) := (blk_cell BK260.out 1).trans rfl
          have hcz22_2 : w5.cell? ⟨gb260, 2, none⟩ = some (.int .i64 a1_2) := (blk_cell BK260.out 2).trans rfl
          have hcz22_3 : w5.cell? ⟨gb260, 3, none⟩ = some (.int .u64 a1_3) := (blk_cell BK260.out 3).trans rfl
          have hcz22_4 : w5.cell? ⟨gb260, 4, none⟩ = some (.int .i64 a1_4) := (blk_cell BK260.out 4).trans rfl
          have hcz22_5 : w5.cell? ⟨gb260, 5, none⟩ = some (.bool a1_5) := (blk_cell BK260.out 5).trans rfl
          have hcz22_6 : w5.cell? ⟨gb260, 6, none⟩ = some (.bool a1_6) := (blk_cell BK260.out 6).trans rfl
          have hcz22_7 : w5.cell? ⟨gb260, 7, none⟩ = some (.slice A1_7 l1_7.length c1_7) := (blk_cell BK260.out 7).trans rfl
          have hfz22_0 := blk_frozen BK260.out 0
          have hfz22_1 := blk_frozen BK260.out 1
          have hfz22_2 := blk_frozen BK260.out 2
          have hfz22_3 := blk_frozen BK260.out 3
          have hfz22_4 := blk_frozen BK260.out 4
          have hfz22_5 := blk_frozen BK260.out 5
          have hfz22_6 := blk_frozen BK260.out 6
          have hfz22_7 := blk_frozen BK260.out 7
          go_wp2
          repeat (go_quiet (fail); try go_wp2)
          go_meet
          case rel => exact ⟨_, (true), (by first | rfl | (simp; done) | (simp [*]; done)), H', ⟨by first | omega | exact Nat.le_refl _⟩, ⟨by (with_reducible repeat (first | refine blk_drewN ?_ _ | refine blk_drew ?_ | refine blk_alloc ?_ _)); exact BK259.out⟩, ⟨by (with_reducible repeat (first | refine blk_drewN ?_ _ | refine blk_drew ?_ | refine blk_alloc ?_ _)); exact BK260.out⟩, ⟨by repeat (first | (with_reducible first | exact HB.out | apply below_alloc | apply pw_below_drewN | apply below_drew1 | refine below_set ?_ GE259.out | refine below_set ?_ GE260.out) | exact HB.out)⟩⟩
      · rw [if_neg c7] at H
        have c7b0 : (a0_1 == a1_1) = false := beq_eq_false_iff_ne.mpr c7
        have c7b1 : (a0_1 != a1_1) = true := bne_iff_ne.mpr c7
        have H' := Aside0.mk H
        clear H
        have hnb23 := NB259_260.out
        have hnc23 := NB260_259.out
        have hcz24_0 : w5.cell? ⟨gb259, 0, none⟩ = some (.int .i64 a0_0) := (blk_cell BK259.out 0).trans rfl
        have hcz24_1 : w5.cell? ⟨gb259, 1, none⟩ = some (.int .u64 a0_1) := (blk_cell BK259.out 1).trans rfl
        have hcz24_2 : w5.cell? ⟨gb259, 2, none⟩ = some (.int .i64 a0_2) := (blk_cell BK259.out 2).trans rfl
        have hcz24_3 : w5.cell? ⟨gb259, 3, none⟩ = some (.int .u64 a0_3) := (blk_cell BK259.out 3).trans rfl
        have hcz24_4 : w5.cell? ⟨gb259, 4, none⟩ = some (.int .i64 a0_4) := (blk_cell BK259.out 4).trans rfl
        have hcz24_5 : w5.cell? ⟨gb259, 5, none⟩ = some (.bool a0_5) := (blk_cell BK259.out 5).trans rfl
        have hcz24_6 : w5.cell? ⟨gb259, 6, none⟩ = some (.bool a0_6) := (blk_cell BK259.out 6).trans rfl
        have hcz24_7 : w5.cell? ⟨gb259, 7, none⟩ = some (.slice A0_7 l0_7.length c0_7) := (blk_cell BK259.out 7).trans rfl
        have hfz24_0 := blk_frozen BK259.out 0
        have hfz24_1 := blk_frozen BK259.out 1
        have hfz24_2 := blk_frozen BK259.out 2
        have hfz24_3 := blk_frozen BK259.out 3
        have hfz24_4 := blk_frozen BK259.out 4
        have hfz24_5 := blk_frozen BK259.out 5
        have hfz24_6 := blk_frozen BK259.out 6
        have hfz24_7 := blk_frozen BK259.out 7
        have hcz25_0 : w5.cell? ⟨gb260, 0, none⟩ = some (.int .i64 a1_0) := (blk_cell BK260.out 0).trans rfl
        have hcz25_1 : w5.cell? ⟨gb260, 1, none⟩ = some (.int .u64 a1_1) := (blk_cell BK260.out 1).trans rfl
        have hcz25_2 : w5.cell? ⟨gb260, 2, none⟩ = some (.int .i64 a1_2) := (blk_cell BK260.out 2).trans rfl
        have hcz25_3 : w5.cell? ⟨gb260, 3, none⟩ = some (.int .u64 a1_3) := (blk_cell BK260.out 3).trans rfl
        have hcz25_4 : w5.cell? ⟨gb260, 4, none⟩ = some (.int .i64 a1_4) := (blk_cell BK260.out 4).trans rfl
        have hcz25_5 : w5.cell? ⟨gb260, 5, none⟩ = some (.bool a1_5) := (blk_cell BK260.out 5).trans rfl
        have hcz25_6 : w5.cell? ⟨gb260, 6, none⟩ = some (.bool a1_6) := (blk_cell BK260.out 6).trans rfl
        have hcz25_7 : w5.cell? ⟨gb260, 7, none⟩ = some (.slice A1_7 l1_7.length c1_7) := (blk_cell BK260.out 7).trans rfl
        have hfz25_0 := blk_frozen BK260.out 0
        have hfz25_1 := blk_frozen BK260.out 1
        have hfz25_2 := blk_frozen BK260.out 2
        have hfz25_3 := blk_frozen BK260.out 3
        have hfz25_4 := blk_frozen BK260.out 4
        have hfz25_5 := blk_frozen BK260.out 5
        have hfz25_6 := blk_frozen BK260.out 6
        have hfz25_7 := blk_frozen BK260.out 7
        go_wp2
        repeat (go_quiet (fail); try go_wp2)
        go_meet
        case rel => exact ⟨_, (true), (by first | rfl | (simp; done) | (simp [*]; done)), H', ⟨by first | omega | exact Nat.le_refl _⟩, ⟨by (with_reducible repeat (first | refine blk_drewN ?_ _ | refine blk_drew ?_ | refine blk_alloc ?_ _)); exact BK259.out⟩, ⟨by (with_reducible repeat (first | refine blk_drewN ?_ _ | refine blk_drew ?_ | refine blk_alloc ?_ _)); exact BK260.out⟩, ⟨by repeat (first | (with_reducible first | exact HB.out | apply below_alloc | apply pw_below_drewN | apply below_drew1 | refine below_set ?_ GE259.out | refine below_set ?_ GE260.out) | exact HB.out)⟩⟩
    · rw [if_neg c6] at H
      have c6b0 : (a0_0 == a1_0) = false := beq_eq_false_iff_ne.mpr c6
      have c6b1 : (a0_0 != a1_0) = true := bne_iff_ne.mpr c6
      (first | rw [c6b0] | (simp only [i64_w, i32_w]; rw [c6b0]) | skip)
      have H' := Aside0.mk H
      clear H
      have hnb26 := NB259_260.out
      have hnc26 := NB260_259.out
      have hcz27_0 : w5.cell? ⟨gb259, 0, none⟩ = some (.int .i64 a0_0) := (blk_cell BK259.out 0).trans rfl
      have hcz27_1 : w5.cell? ⟨gb259, 1, none⟩ = some (.int .u64 a0_1) := (blk_cell BK259.out 1).trans rfl
      have hcz27_2 : w5.cell? ⟨gb259, 2, none⟩ = some (.int .i64 a0_2) := (blk_cell BK259.out 2).trans rfl
      have hcz27_3 : w5.cell? ⟨gb259, 3, none⟩ = some (.int .u64 a0_3) := (blk_cell BK259.out 3).trans rfl
      have hcz27_4 : w5.cell? ⟨gb259, 4, none⟩ = some (.int .i64 a0_4) := (blk_cell BK259.out 4).trans rfl
      have hcz27_5 : w5.cell? ⟨gb259, 5, none⟩ = some (.bool a0_5) := (blk_cell BK259.out 5).trans rfl
      have hcz27_6 : w5.cell? ⟨gb259, 6, none⟩ = some (.bool a0_6) := (blk_cell BK259.out 6).trans rfl
      have hcz27_7 : w5.cell? ⟨gb259, 7, none⟩ = some (.slice A0_7 l0_7.length c0_7) := (blk_cell BK259.out 7).trans rfl
      have hfz27_0 := blk_frozen BK259.out 0
      have hfz27_1 := blk_frozen BK259.out 1
      have hfz27_2 := blk_frozen BK259.out 2
      have hfz27_3 := blk_frozen BK259.out 3
      have hfz27_4 := blk_frozen BK259.out 4
      have hfz27_5 := blk_frozen BK259.out 5
      have hfz27_6 := blk_frozen BK259.out 6
      have hfz27_7 := blk_frozen BK259.out 7
      have hcz28_0 : w5.cell? ⟨gb260, 0, none⟩ = some (.int .i64 a1_0) := (blk_cell BK260.out 0).trans rfl
      have hcz28_1 : w5.cell? ⟨gb260, 1, none⟩ = some (.int .u64 a1_1) := (blk_cell BK260.out 1).trans rfl
      have hcz28_2 : w5.cell? ⟨gb260, 2, none⟩ = some (.int .i64 a1_2) := (blk_cell BK260.out 2).trans rfl
      have hcz28_3 : w5.cell? ⟨gb260, 3, none⟩ = some (.int .u64 a1_3) := (blk_cell BK260.out 3).trans rfl
      have hcz28_4 : w5.cell? ⟨gb260, 4, none⟩ = some (.int .i64 a1_4) := (blk_cell BK260.out 4).trans rfl
      have hcz28_5 : w5.cell? ⟨gb260, 5, none⟩ = some (.bool a1_5) := (blk_cell BK260.out 5).trans rfl
      have hcz28_6 : w5.cell? ⟨gb260, 6, none⟩ = some (.bool a1_6) := (blk_cell BK260.out 6).trans rfl
      have hcz28_7 : w5.cell? ⟨gb260, 7, none⟩ = some (.slice A1_7 l1_7.length c1_7) := (blk_cell BK260.out 7).trans rfl
      have hfz28_0 := blk_frozen BK260.out 0
      have hfz28_1 := blk_frozen BK260.out 1
      have hfz28_2 := blk_frozen BK260.out 2
      have hfz28_3 := blk_frozen BK260.out 3
      have hfz28_4 := blk_frozen BK260.out 4
      have hfz28_5 := blk_frozen BK260.out 5
      have hfz28_6 := blk_frozen BK260.out 6
      have hfz28_7 := blk_frozen BK260.out 7
      go_wp2
      repeat (go_quiet (fail); try go_wp2)
      go_meet
      case rel => exact ⟨_, (true), (by first | rfl | (simp; done) | (simp [*]; done)), H', ⟨by first | omega | exact Nat.le_refl _⟩, ⟨by (with_reducible repeat (first | refine blk_drewN ?_ _ | refine blk_drew ?_ | refine blk_alloc ?_ _)); exact BK259.out⟩, ⟨by (with_reducible repeat (first | refine blk_drewN ?_ _ | refine blk_drew ?_ | refine blk_alloc ?_ _)); exact BK260.out⟩, ⟨by repeat (first | (with_reducible first | exact HB.out | apply below_alloc | apply pw_below_drewN | apply below_drew1 | refine below_set ?_ GE259.out | refine below_set ?_ GE260.out) | exact HB.out)⟩⟩
  case rest =>
    clear HC3
    try clear c1
    try clear c2
    try clear p2
    try clear c6
    try clear c6b0
    try clear c6b1
    try clear c7
    try clear c7b0
    try clear c7b1
    try clear c8
    try clear c8b0
    try clear c8b1
    try clear c9
    try clear c9b0
    try clear c9b1
    try clear c10
    try clear c10b0
    try clear c11
    try clear c14
    try clear c15
    try clear c17
    try clear c20
    try clear c23
    try clear c26
    try clear hcz12_0
    try clear hcz12_1
    try clear hcz12_2
    try clear hcz12_3
    try clear hcz12_4
    try clear hcz12_5
    try clear hcz12_6
    try clear hcz12_7
    try clear hcz13_0
    try clear hcz13_1
    try clear hcz13_2
    try clear hcz13_3
    try clear hcz13_4
    try clear hcz13_5
    try clear hcz13_6
    try clear hcz13_7
    try clear hcz15_0
    try clear hcz15_1
    try clear hcz15_2
    try clear hcz15_3
    try clear hcz15_4
    try clear hcz15_5
    try clear hcz15_6
    try clear hcz15_7
    try clear hcz16_0
    try clear hcz16_1
    try clear hcz16_2
    try clear hcz16_3
    try clear hcz16_4
    try clear hcz16_5
    try clear hcz16_6
    try clear hcz16_7
    try clear hcz18_0
    try clear hcz18_1
    try clear hcz18_2
    try clear hcz18_3
    try clear hcz18_4
    try clear hcz18_5
    try clear hcz18_6
    try clear hcz18_7
    try clear hcz19_0
    try clear hcz19_1
    try clear hcz19_2
    try clear hcz19_3
    try clear hcz19_4
    try clear hcz19_5
    try clear hcz19_6
    try clear hcz19_7
    try clear hcz21_0
    try clear hcz21_1
    try clear hcz21_2
    try clear hcz21_3
    try clear hcz21_4
    try clear hcz21_5
    try clear hcz21_6
    try clear hcz21_7
    try clear hcz22_0
    try clear hcz22_1
    try clear hcz22_2
    try clear hcz22_3
    try clear hcz22_4
    try clear hcz22_5
    try clear hcz22_6
    try clear hcz22_7
    try clear hcz24_0
    try clear hcz24_1
    try clear hcz24_2
    try clear hcz24_3
    try clear hcz24_4
    try clear hcz24_5
    try clear hcz24_6
    try clear hcz24_7
    try clear hcz25_0
    try clear hcz25_1
    try clear hcz25_2
    try clear hcz25_3
    try clear hcz25_4
    try clear hcz25_5
    try clear hcz25_6
    try clear hcz25_7
    try clear hcz27_0
    try clear hcz27_1
    try clear hcz27_2
    try clear hcz27_3
    try clear hcz27_4
    try clear hcz27_5
    try clear hcz27_6
    try clear hcz27_7
    try clear hcz28_0
    try clear hcz28_1
    try clear hcz28_2
    try clear hcz28_3
    try clear hcz28_4
    try clear hcz28_5
    try clear hcz28_6
    try clear hcz28_7
    try clear hfz12_0
    try clear hfz12_1
    try clear hfz12_2
    try clear hfz12_3
    try clear hfz12_4
    try clear hfz12_5
    try clear hfz12_6
    try clear hfz12_7
    try clear hfz13_0
    try clear hfz13_1
    try clear hfz13_2
    try clear hfz13_3
    try clear hfz13_4
    try clear hfz13_5
    try clear hfz13_6
    try clear hfz13_7
    try clear hfz15_0
    try clear hfz15_1
    try clear hfz15_2
    try clear hfz15_3
    try clear hfz15_4
    try clear hfz15_5
    try clear hfz15_6
    try clear hfz15_7
    try clear hfz16_0
    try clear hfz16_1
    try clear hfz16_2
    try clear hfz16_3
    try clear hfz16_4
    try clear hfz16_5
    try clear hfz16_6
    try clear hfz16_7
    try clear hfz18_0
    try clear hfz18_1
    try clear hfz18_2
    try clear hfz18_3
    try clear hfz18_4
    try clear hfz18_5
    try clear hfz18_6
    try clear hfz18_7
    try clear hfz19_0
    try clear hfz19_1
    try clear hfz19_2
    try clear hfz19_3
    try clear hfz19_4
    try clear hfz19_5
    try clear hfz19_6
    try clear hfz19_7
    try clear hfz21_0
    try clear hfz21_1
    try clear hfz21_2
    try clear hfz21_3
    try clear hfz21_4
    try clear hfz21_5
    try clear hfz21_6
    try clear hfz21_7
    try clear hfz22_0
    try clear hfz22_1
    try clear hfz22_2
    try clear hfz22_3
    try clear hfz22_4
    try clear hfz22_5
    try clear hfz22_6
    try clear hfz22_7
    try clear hfz24_0
    try clear hfz24_1
    try clear hfz24_2
    try clear hfz24_3
    try clear hfz24_4
    try clear hfz24_5
    try clear hfz24_6
    try clear hfz24_7
    try clear hfz25_0
    try clear hfz25_1
    try clear hfz25_2
    try clear hfz25_3
    try clear hfz25_4
    try clear hfz25_5
    try clear hfz25_6
    try clear hfz25_7
    try clear hfz27_0
    try clear hfz27_1
    try clear hfz27_2
    try clear hfz27_3
    try clear hfz27_4
    try clear hfz27_5
    try clear hfz27_6
    try clear hfz27_7
    try clear hfz28_0
    try clear hfz28_1
    try clear hfz28_2
    try clear hfz28_3
    try clear hfz28_4
    try clear hfz28_5
    try clear hfz28_6
    try clear hfz28_7
    obtain ⟨kq, x47_2, rfl, HA, HJ2, BK259, BK260, HB⟩ := hcut
    cases kq with
    | zero => exact absurd HA.out (by simp [dormerref20_Same.j0])
    | succ kj2 =>
      have H := HA.out
      clear HA
      simp only [dormerref20_Same.j0] at H
      by_cases c29 : x47_2 = true
      · subst c29
        have H1 : (some false) = some r := by rw [if_pos rfl] at H; exact H
        clear H
        have H := H1
        clear H1
        obtain rfl := Option.some.inj H
        go_wp2
        repeat (go_quiet (fail); try go_wp2)
        go_ret
        exact ⟨by first | rfl | (simp [errW_none, errW_some] <;> rfl) | (simp [*, errW_none, errW_some] <;> rfl), by repeat (first | (with_reducible first | exact HB.out | apply below_alloc | apply pw_below_drewN | apply below_drew1 | refine below_set ?_ GE259.out | refine below_set ?_ GE260.out) | exact HB.out)⟩
      · replace c29 := Bool.eq_false_iff.mpr c29
        subst c29
        have H1 : (dormerref20_Same.l0 kj2 0 a0_0 a0_1 a0_2 a0_3 a0_4 a0_5 a0_6 l0_7 a1_0 a1_1 a1_2 a1_3 a1_4 a1_5 a1_6 l1_7) = some r := by rw [if_neg (show ¬ (false = true) by decide)] at H; exact H
        clear H
        have H := H1
        clear H1
        have H' := Aside0.mk H
        clear H
        go_wp2
        repeat (go_quiet (fail); try go_wp2)
        go_loopg [5] kj2 (fun kq v5 w' => ∃ (x5_2 : Int), v5 = .int .i64 x5_2 ∧ Aside0 (dormerref20_Same.l0 kq x5_2 a0_0 a0_1 a0_2 a0_3 a0_4 a0_5 a0_6 l0_7 a1_0 a1_1 a1_2 a1_3 a1_4 a1_5 a1_6 l1_7 = some r) ∧ Aside0 (kq ≤ kj2) ∧ Aside0 (w'.heap[gb259]? = some (.cells #[.int .i64 a0_0, .int .u64 a0_1, .int .i64 a0_2, .int .u64 a0_3, .int .i64 a0_4, .bool a0_5, .bool a0_6, (.slice A0_7 l0_7.length c0_7)] 36 (0, 0))) ∧ Aside0 (w'.heap[gb260]? = some (.cells #[.int .i64 a1_0, .int .u64 a1_1, .int .i64 a1_2, .int .u64 a1_3, .int .i64 a1_4, .bool a1_5, .bool a1_6, (.slice A1_7 l1_7.length c1_7)] 36 (0, 0))) ∧ Aside0 (Below w.heap.size w w'))
        case atStart => exact ⟨(0), (by first | rfl | (simp; done) | (simp [*]; done)), H', ⟨Nat.le_refl _⟩, ⟨by (with_reducible repeat (first | refine blk_drewN ?_ _ | refine blk_drew ?_ | refine blk_alloc ?_ _)); exact BK259.out⟩, ⟨by (with_reducible repeat (first | refine blk_drewN ?_ _ | refine blk_drew ?_ | refine blk_alloc ?_ _)); exact BK260.out⟩, ⟨by repeat (first | (with_reducible first | exact HB.out | apply below_alloc | apply pw_below_drewN | apply below_drew1 | refine below_set ?_ GE259.out | refine below_set ?_ GE260.out) | exact HB.out)⟩⟩
        case round =>
          clear H'
          try clear c1
          try clear c2
          try clear p2
          try clear c6
          try clear c6b0
          try clear c6b1
          try clear c7
          try clear c7b0
          try clear c7b1
          try clear c8
          try clear c8b0
          try clear c8b1
          try clear c9
          try clear c9b0
          try clear c9b1
          try clear c10
          try clear c10b0
          try clear c11
          try clear c14
          try clear c15
          try clear c17
          try clear c20
          try clear c23
          try clear c26
          try clear c29
          try clear hcz12_0
          try clear hcz12_1
          try clear hcz12_2
          try clear hcz12_3
          try clear hcz12_4
          try clear hcz12_5
          try clear hcz12_6
          try clear hcz12_7
          try clear hcz13_0
          try clear hcz13_1
          try clear hcz13_2
          try clear hcz13_3
          try clear hcz13_4
          try clear hcz13_5
          try clear hcz13_6
          try clear hcz13_7
          try clear hcz15_0
          try clear hcz15_1
          try clear hcz15_2
          try clear hcz15_3
          try clear hcz15_4
          try clear hcz15_5
          try clear hcz15_6
          try clear hcz15_7
          try clear hcz16_0
          try clear hcz16_1
          try clear hcz16_2
          try clear hcz16_3
          try clear hcz16_4
          try clear hcz16_5
          try clear hcz16_6
          try clear hcz16_7
          try clear hcz18_0
          try clear hcz18_1
          try clear hcz18_2
          try clear hcz18_3
          try clear hcz18_4
          try clear hcz18_5
          try clear hcz18_6
          try clear hcz18_7
          try clear hcz19_0
          try clear hcz19_1
          try clear hcz19_2
          try clear hcz19_3
          try clear hcz19_4
          try clear hcz19_5
          try clear hcz19_6
          try clear hcz19_7
          try clear hcz21_0
          try clear hcz21_1
          try clear hcz21_2
          try clear hcz21_3
          try clear hcz21_4
          try clear hcz21_5
          try clear hcz21_6
          try clear hcz21_7
          try clear hcz22_0
          try clear hcz22_1
          try clear hcz22_2
          try clear hcz22_3
          try clear hcz22_4
          try clear hcz22_5
          try clear hcz22_6
          try clear hcz22_7
          try clear hcz24_0
          try clear hcz24_1
          try clear hcz24_2
          try clear hcz24_3
          try clear hcz24_4
          try clear hcz24_5
          try clear hcz24_6
          try clear hcz24_7
          try clear hcz25_0
          try clear hcz25_1
          try clear hcz25_2
          try clear hcz25_3
          try clear hcz25_4
          try clear hcz25_5
          try clear hcz25_6
          try clear hcz25_7
          try clear hcz27_0
          try clear hcz27_1
          try clear hcz27_2
          try clear hcz27_3
          try clear hcz27_4
          try clear hcz27_5
          try clear hcz27_6
          try clear hcz27_7
          try clear hcz28_0
          try clear hcz28_1
          try clear hcz28_2
          try clear hcz28_3
          try clear hcz28_4
          try clear hcz28_5
          try clear hcz28_6
          try clear hcz28_7
          try clear hfz12_0
          try clear hfz12_1
          try clear hfz12_2
          try clear hfz12_3
          try clear hfz12_4
          try clear hfz12_5
          try clear hfz12_6
          try clear hfz12_7
          try clear hfz13_0
          try clear hfz13_1
          try clear hfz13_2
          try clear hfz13_3
          try clear hfz13_4
          try clear hfz13_5
          try clear hfz13_6
          try clear hfz13_7
          try clear hfz15_0
          try clear hfz15_1
          try clear hfz15_2
          try clear hfz15_3
          try clear hfz15_4
          try clear hfz15_5
          try clear hfz15_6
          try clear hfz15_7
          try clear hfz16_0
          try clear hfz16_1
          try clear hfz16_2
          try clear hfz16_3
          try clear hfz16_4
          try clear hfz16_5
          try clear hfz16_6
          try clear hfz16_7
          try clear hfz18_0
          try clear hfz18_1
          try clear hfz18_2
          try clear hfz18_3
          try clear hfz18_4
          try clear hfz18_5
          try clear hfz18_6
          try clear hfz18_7
          try clear hfz19_0
          try clear hfz19_1
          try clear hfz19_2
          try clear hfz19_3
          try clear hfz19_4
          try clear hfz19_5
          try clear hfz19_6
          try clear hfz19_7
          try clear hfz21_0
          try clear hfz21_1
          try clear hfz21_2
          try clear hfz21_3
          try clear hfz21_4
          try clear hfz21_5
          try clear hfz21_6
          try clear hfz21_7
          try clear hfz22_0
          try clear hfz22_1
          try clear hfz22_2
          try clear hfz22_3
          try clear hfz22_4
          try clear hfz22_5
          try clear hfz22_6
          try clear hfz22_7
          try clear hfz24_0
          try clear hfz24_1
          try clear hfz24_2
          try clear hfz24_3
          try clear hfz24_4
          try clear hfz24_5
          try clear hfz24_6
          try clear hfz24_7
          try clear hfz25_0
          try clear hfz25_1
          try clear hfz25_2
          try clear hfz25_3
          try clear hfz25_4
          try clear hfz25_5
          try clear hfz25_6
          try clear hfz25_7
          try clear hfz27_0
          try clear hfz27_1
          try clear hfz27_2
          try clear hfz27_3
          try clear hfz27_4
          try clear hfz27_5
          try clear hfz27_6
          try clear hfz27_7
          try clear hfz28_0
          try clear hfz28_1
          try clear hfz28_2
          try clear hfz28_3
          try clear hfz28_4
          try clear hfz28_5
          try clear hfz28_6
          try clear hfz28_7
          try clear p2
          obtain ⟨x5_2, rfl, HA, HK2, BK259, BK260, HB⟩ := hrel
          cases gk with
          | zero => exact absurd HA.out (by simp [dormerref20_Same.l0])
          | succ k2 =>
            have H := HA.out
            clear HA
            simp only [dormerref20_Same.l0] at H
            by_cases c30 : x5_2 < (l0_7.length : Int)
            · rw [if_pos c30] at H
              have c30b0 : decide (x5_2 < (l0_7.length : Int)) = true := decide_eq_true c30
              clear c30
              by_cases c31 : 0 ≤ x5_2
              · rw [if_pos c31] at H
                have c31b0 : decide (0 ≤ x5_2) = true := decide_eq_true c31
                clear c31
                by_cases c32 : x5_2 < (l1_7.length : Int)
                · rw [if_pos c32] at H
                  have c32b0 : decide (x5_2 < (l1_7.length : Int)) = true := decide_eq_true c32
                  clear c32
                  by_cases c33 : (rd l0_7 x5_2) = (rd l1_7 x5_2)
                  · rw [if_pos c33] at H
                    have c33b0 : ((rd l0_7 x5_2) == (rd l1_7 x5_2)) = true := beq_iff_eq.mpr c33
                    have c33b1 : ((rd l0_7 x5_2) != (rd l1_7 x5_2)) = false := bne_eq_false_iff_eq.mpr c33
                    clear c33
                    have H' := Aside0.mk H
                    clear H
                    have hnb34 := NB259_260.out
                    have hnc34 := NB260_259.out
                    have hcz35_0 : wr.cell? ⟨gb259, 0, none⟩ = some (.int .i64 a0_0) := (blk_cell BK259.out 0).trans rfl
                    have hcz35_1 : wr.cell? ⟨gb259, 1, none⟩ = some (.int .u64 a0_1) := (blk_cell BK259.out 1).trans rfl
                    have hcz35_2 : wr.cell? ⟨gb259, 2, none⟩ = some (.int .i64 a0_2) := (blk_cell BK259.out 2).trans rfl
                    have hcz35_3 : wr.cell? ⟨gb259, 3, none⟩ = some (.int .u64 a0_3) := (blk_cell BK259.out 3).trans rfl
                    have hcz35_4 : wr.cell? ⟨gb259, 4, none⟩ = some (.int .i64 a0_4) := (blk_cell BK259.out 4).trans rfl
                    have hcz35_5 : wr.cell? ⟨gb259, 5, none⟩ = some (.bool a0_5) := (blk_cell BK259.out 5).trans rfl
                    have hcz35_6 : wr.cell? ⟨gb259, 6, none⟩ = some (.bool a0_6) := (blk_cell BK259.out 6).trans rfl
                    have hcz35_7 : wr.cell? ⟨gb259, 7, none⟩ = some (.slice A0_7 l0_7.length c0_7) := (blk_cell BK259.out 7).trans rfl
                    have hfz35_0 := blk_frozen BK259.out 0
                    have hfz35_1 := blk_frozen BK259.out 1
                    have hfz35_2 := blk_frozen BK259.out 2
                    have hfz35_3 := blk_frozen BK259.out 3
                    have hfz35_4 := blk_frozen BK259.out 4
                    have hfz35_5 := blk_frozen BK259.out 5
                    have hfz35_6 := blk_frozen BK259.out 6
                    have hfz35_7 := blk_frozen BK259.out 7
                    have p261 : 0 ≤ (x5_2 : Int) := of_decide_eq_true (by first | (with_reducible assumption) | assumption)
                    have q261 : x5_2 < (l0_7.length : Int) := of_decide_eq_true (by first | (with_reducible assumption) | assumption)
                    obtain ⟨ad261, e261, hx261_0⟩ := Kd.at_int HR0_7.out x5_2 p261 q261
                    cases e261
                    replace hx261_0 := (HB.out.cell (World.block_lt_of_cell? w _ hx261_0)).trans hx261_0
                    replace p261 := eq_true p261
                    replace q261 := eq_true q261
                    have hcz36_0 : wr.cell? ⟨gb260, 0, none⟩ = some (.int .i64 a1_0) := (blk_cell BK260.out 0).trans rfl
                    have hcz36_1 : wr.cell? ⟨gb260, 1, none⟩ = some (.int .u64 a1_1) := (blk_cell BK260.out 1).trans rfl
                    have hcz36_2 : wr.cell? ⟨gb260, 2, none⟩ = some (.int .i64 a1_2) := (blk_cell BK260.out 2).trans rfl
                    have hcz36_3 : wr.cell? ⟨gb260, 3, none⟩ = some (.int .u64 a1_3) := (blk_cell BK260.out 3).trans rfl
                    have hcz36_4 : wr.cell? ⟨gb260, 4, none⟩ = some (.int .i64 a1_4) := (blk_cell BK260.out 4).trans rfl
                    have hcz36_5 : wr.cell? ⟨gb260, 5, none⟩ = some (.bool a1_5) := (blk_cell BK260.out 5).trans rfl
                    have hcz36_6 : wr.cell? ⟨gb260, 6, none⟩ = some (.bool a1_6) := (blk_cell BK260.out 6).trans rfl
                    have hcz36_7 : wr.cell? ⟨gb260, 7, none⟩ = some (.slice A1_7 l1_7.length c1_7) := (blk_cell BK260.out 7).trans rfl
                    have hfz36_0 := blk_frozen BK260.out 0
                    have hfz36_1 := blk_frozen BK260.out 1
                    have hfz36_2 := blk_frozen BK260.out 2
                    have hfz36_3 := blk_frozen BK260.out 3
                    have hfz36_4 := blk_frozen BK260.out 4
                    have hfz36_5 := blk_frozen BK260.out 5
                    have hfz36_6 := blk_frozen BK260.out 6
                    have hfz36_7 := blk_frozen BK260.out 7
                    have p262 : 0 ≤ (x5_2 : Int) := of_decide_eq_true (by first | (with_reducible assumption) | assumption)
                    have q262 : x5_2 < (l1_7.length : Int) := of_decide_eq_true (by first | (with_reducible assumption) | assumption)
                    obtain ⟨ad262, e262, hx262_0⟩ := Kd.at_int HR1_7.out x5_2 p262 q262
                    cases e262
                    replace hx262_0 := (HB.out.cell (World.block_lt_of_cell? w _ hx262_0)).trans hx262_0
                    replace p262 := eq_true p262
                    replace q262 := eq_true q262
                    go_wp2
                    repeat (go_quiet (fail); try go_wp2)
                    go_roundg k2
                    case measure => have := HJ2.out; have := HK2.out; omega
                    case rel => exact ⟨(wrap64 (x5_2 + 1)), (by first | rfl | (simp; done) | (simp [*]; done)), H', ⟨by have := HJ2.out; have := HK2.out; omega⟩, ⟨by (with_reducible repeat (first | refine blk_drewN ?_ _ | refine blk_drew ?_ | refine blk_alloc ?_ _)); exact BK259.out⟩, ⟨by (with_reducible repeat (first | refine blk_drewN ?_ _ | refine blk_drew ?_ | refine blk_alloc ?_ _)); exact BK260.out⟩, ⟨by repeat (first | (with_reducible first | exact HB.out | apply below_alloc | apply pw_below_drewN | apply below_drew1 | refine below_set ?_ GE259.out | refine below_set ?_ GE260.out) | exact HB.out)⟩⟩
                  · rw [if_neg c33] at H
                    have c33b0 : ((rd l0_7 x5_2) == (rd l1_7 x5_2)) = false := beq_eq_false_iff_ne.mpr c33
                    have c33b1 : ((rd l0_7 x5_2) != (rd l1_7 x5_2)) = true := bne_iff_ne.mpr c33
                    obtain rfl := Option.some.inj H
                    have hnb37 := NB259_260.out
                    have hnc37 := NB260_259.out
                    have hcz38_0 : wr.cell? ⟨gb259, 0, none⟩ = some (.int .i64 a0_0) := (blk_cell BK259.out 0).trans rfl
                    have hcz38_1 : wr.cell? ⟨gb259, 1, none⟩ = some (.int .u64 a0_1) := (blk_cell BK259.out 1).trans rfl
                    have hcz38_2 : wr.cell? ⟨gb259, 2, none⟩ = some (.int .i64 a0_2) := (blk_cell BK259.out 2).trans rfl
                    have hcz38_3 : wr.cell? ⟨gb259, 3, none⟩ = some (.int .u64 a0_3) := (blk_cell BK259.out 3).trans rfl
                    have hcz38_4 : wr.cell? ⟨gb259, 4, none⟩ = some (.int .i64 a0_4) := (blk_cell BK259.out 4).trans rfl
                    have hcz38_5 : wr.cell? ⟨gb259, 5, none⟩ = some (.bool a0_5) := (blk_cell BK259.out 5).trans rfl
                    have hcz38_6 : wr.cell? ⟨gb259, 6, none⟩ = some (.bool a0_6) := (blk_cell BK259.out 6).trans rfl
                    have hcz38_7 : wr.cell? ⟨gb259, 7, none⟩ = some (.slice A0_7 l0_7.length c0_7) := (blk_cell BK259.out 7).trans rfl
                    have hfz38_0 := blk_frozen BK259.out 0
                    have hfz38_1 := blk_frozen BK259.out 1
                    have hfz38_2 := blk_frozen BK259.out 2
                    have hfz38_3 := blk_frozen BK259.out 3
                    have hfz38_4 := blk_frozen BK259.out 4
                    have hfz38_5 := blk_frozen BK259.out 5
                    have hfz38_6 := blk_frozen BK259.out 6
                    have hfz38_7 := blk_frozen BK259.out 7
                    have p261 : 0 ≤ (x5_2 : Int) := of_decide_eq_true (by first | (with_reducible assumption) | assumption)
                    have q261 : x5_2 < (l0_7.length : Int) := of_decide_eq_true (by first | (with_reducible assumption) | assumption)
                    obtain ⟨ad261, e261, hx261_0⟩ := Kd.at_int HR0_7.out x5_2 p261 q261
                    cases e261
                    replace hx261_0 := (HB.out.cell (World.block_lt_of_cell? w _ hx261_0)).trans hx261_0
                    replace p261 := eq_true p261
                    replace q261 := eq_true q261
                    have hcz39_0 : wr.cell? ⟨gb260, 0, none⟩ = some (.int .i64 a1_0) := (blk_cell BK260.out 0).trans rfl
                    have hcz39_1 : wr.cell? ⟨gb260, 1, none⟩ = some (.int .u64 a1_1) := (blk_cell BK260.out 1).trans rfl
                    have hcz39_2 : wr.cell? ⟨gb260, 2, none⟩ = some (.int .i64 a1_2) := (blk_cell BK260.out 2).trans rfl
                    have hcz39_3 : wr.cell? ⟨gb260, 3, none⟩ = some (.int .u64 a1_3) := (blk_cell BK260.out 3).trans rfl
                    have hcz39_4 : wr.cell? ⟨gb260, 4, none⟩ = some (.int .i64 a1_4) := (blk_cell BK260.out 4).trans rfl
                    have hcz39_5 : wr.cell? ⟨gb260, 5, none⟩ = some (.bool a1_5) := (blk_cell BK260.out 5).trans rfl
                    have hcz39_6 : wr.cell? ⟨gb260, 6, none⟩ = some (.bool a1_6) := (blk_cell BK260.out 6).trans rfl
                    have hcz39_7 : wr.cell? ⟨gb260, 7, none⟩ = some (.slice A1_7 l1_7.length c1_7) := (blk_cell BK260.out 7).trans rfl
                    have hfz39_0 := blk_frozen BK260.out 0
                    have hfz39_1 := blk_frozen BK260.out 1
                    have hfz39_2 := blk_frozen BK260.out 2
                    have hfz39_3 := blk_frozen BK260.out 3
                    have hfz39_4 := blk_frozen BK260.out 4
                    have hfz39_5 := blk_frozen BK260.out 5
                    have hfz39_6 := blk_frozen BK260.out 6
                    have hfz39_7 := blk_frozen BK260.out 7
                    have p262 : 0 ≤ (x5_2 : Int) := of_decide_eq_true (by first | (with_reducible assumption) | assumption)
                    have q262 : x5_2 < (l1_7.length : Int) := of_decide_eq_true (by first | (with_reducible assumption) | assumption)
                    obtain ⟨ad262, e262, hx262_0⟩ := Kd.at_int HR1_7.out x5_2 p262 q262
                    cases e262
                    replace hx262_0 := (HB.out.cell (World.block_lt_of_cell? w _ hx262_0)).trans hx262_0
                    replace p262 := eq_true p262
                    replace q262 := eq_true q262
                    go_wp2
                    repeat (go_quiet (fail); try go_wp2)
                    go_ret
                    exact ⟨by first | rfl | (simp [errW_none, errW_some] <;> rfl) | (simp [*, errW_none, errW_some] <;> rfl), by repeat (first | (with_reducible first | exact HB.out | apply below_alloc | apply pw_below_drewN | apply below_drew1 | refine below_set ?_ GE259.out | refine below_set ?_ GE260.out) | exact HB.out)⟩
                · rw [if_neg c32] at H
                  exact absurd H (by simp)
              · rw [if_neg c31] at H
                exact absurd H (by simp)
            · rw [if_neg c30] at H
              have c30b0 : decide (x5_2 < (l0_7.length : Int)) = false := decide_eq_false c30
              clear c30
              obtain rfl := Option.some.inj H
              have hnb40 := NB259_260.out
              have hnc40 := NB260_259.out
              have hcz41_0 : wr.cell? ⟨gb259, 0, none⟩ = some (.int .i64 a0_0) := (blk_cell BK259.out 0).trans rfl
              have hcz41_1 : wr.cell? ⟨gb259, 1, none⟩ = some (.int .u64 a0_1) := (blk_cell BK259.out 1).trans rfl
              have hcz41_2 : wr.cell? ⟨gb259, 2, none⟩ = some (.int .i64 a0_2) := (blk_cell BK259.out 2).trans rfl
              have hcz41_3 : wr.cell? ⟨gb259, 3, none⟩ = some (.int .u64 a0_3) := (blk_cell BK259.out 3).trans rfl
              have hcz41_4 : wr.cell? ⟨gb259, 4, none⟩ = some (.int .i64 a0_4) := (blk_cell BK259.out 4).trans rfl
              have hcz41_5 : wr.cell? ⟨gb259, 5, none⟩ = some (.bool a0_5) := (blk_cell BK259.out 5).trans rfl
              have hcz41_6 : wr.cell? ⟨gb259, 6, none⟩ = some (.bool a0_6) := (blk_cell BK259.out 6).trans rfl
              have hcz41_7 : wr.cell? ⟨gb259, 7, none⟩ = some (.slice A0_7 l0_7.length c0_7) := (blk_cell BK259.out 7).trans rfl
              have hfz41_0 := blk_frozen BK259.out 0
              have hfz41_1 := blk_frozen BK259.out 1
              have hfz41_2 := blk_frozen BK259.out 2
              have hfz41_3 := blk_frozen BK259.out 3
              have hfz41_4 := blk_frozen BK259.out 4
              have hfz41_5 := blk_frozen BK259.out 5
              have hfz41_6 := blk_frozen BK259.out 6
              have hfz41_7 := blk_frozen BK259.out 7
              go_wp2
              repeat (go_quiet (fail); try go_wp2)
              go_ret
              exact ⟨by first | rfl | (simp [errW_none, errW_some] <;> rfl) | (simp [*, errW_none, errW_some] <;> rfl), by repeat (first | (with_reducible first | exact HB.out | apply below_alloc | apply pw_below_drewN | apply below_drew1 | refine below_set ?_ GE259.out | refine below_set ?_ GE260.out) | exact HB.out)⟩

end Go.Proofs.Ytlccjklljlddhaa.Fn
