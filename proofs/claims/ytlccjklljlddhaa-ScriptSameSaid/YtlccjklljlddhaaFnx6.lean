-- PRINTED by print.py (a twelfth state) out of the translation. Not trusted: Lean checks it.
import Derived.Test.YtlccjklljlddhaaFnx0
namespace Go.Proofs.Ytlccjklljlddhaa.Fn
open Go.RowKit Go.Proofs.YtlccjklljlddhaaW.PrintWords Go.Proofs.YtlccjklljlddhaaW.PrintLast Go.Proofs.YtlccjklljlddhaaW.PrintMore
attribute [local go_sem] max2_int min2_int max_two min_two max_three min_three max_four min_four   -- for this text's walks alone
set_option linter.unusedVariables false
set_option linter.unusedSimpArgs false

/-! ### dormerref20_May: function 13 -/
mutual
def dormerref20_May.j0 : Nat → Bool → Int → Int → Int → Int → Int → Bool → Bool → List Int → Option (Bool)
  | 0, _, _, _, _, _, _, _, _, _ => none
  | k + 1, x39, x223000, x223001, x223002, x223003, x223004, x223005, x223006, x223007 => if x39 = true then (some false) else (dormerref20_May.l0 k 0 x223000 x223001 x223002 x223003 x223004 x223005 x223006 x223007)
def dormerref20_May.l0 : Nat → Int → Int → Int → Int → Int → Int → Bool → Bool → List Int → Option (Bool)
  | 0, _, _, _, _, _, _, _, _, _ => none
  | k + 1, x3, x223000, x223001, x223002, x223003, x223004, x223005, x223006, x223007 => if x3 < 4 then (if 0 ≤ x3 then (if x3 < (x223007.length : Int) then (if (rd x223007 x3) < 0 then (some false) else (if (rd x223007 x3) > 255 then (some false) else (dormerref20_May.l0 k (wrap64 (x3 + 1)) x223000 x223001 x223002 x223003 x223004 x223005 x223006 x223007))) else (none)) else (none)) else (some true)
end
def dormerref20_May.f (k : Nat) (a0_0 : Int) (a0_1 : Int) (a0_2 : Int) (a0_3 : Int) (a0_4 : Int) (a0_5 : Bool) (a0_6 : Bool) (l0_7 : List Int) : Option (Bool) := if a0_0 < 1 then (dormerref20_May.j0 k true a0_0 a0_1 a0_2 a0_3 a0_4 a0_5 a0_6 l0_7) else (if a0_0 > 8 then (dormerref20_May.j0 k true a0_0 a0_1 a0_2 a0_3 a0_4 a0_5 a0_6 l0_7) else (if a0_4 < 0 then (dormerref20_May.j0 k true a0_0 a0_1 a0_2 a0_3 a0_4 a0_5 a0_6 l0_7) else (if a0_4 > 63 then (dormerref20_May.j0 k true a0_0 a0_1 a0_2 a0_3 a0_4 a0_5 a0_6 l0_7) else (if a0_2 < 0 then (dormerref20_May.j0 k true a0_0 a0_1 a0_2 a0_3 a0_4 a0_5 a0_6 l0_7) else (if a0_2 > 255 then (dormerref20_May.j0 k true a0_0 a0_1 a0_2 a0_3 a0_4 a0_5 a0_6 l0_7) else (dormerref20_May.j0 k ((l0_7.length : Int) != 4) a0_0 a0_1 a0_2 a0_3 a0_4 a0_5 a0_6 l0_7))))))
theorem dormerref20_May.mono_l : ∀ k, (∀ y0 y1 y2 y3 y4 y5 y6 y7 y8, LeO (dormerref20_May.j0 k y0 y1 y2 y3 y4 y5 y6 y7 y8) (dormerref20_May.j0 (k + 1) y0 y1 y2 y3 y4 y5 y6 y7 y8)) ∧ (∀ y0 y1 y2 y3 y4 y5 y6 y7 y8, LeO (dormerref20_May.l0 k y0 y1 y2 y3 y4 y5 y6 y7 y8) (dormerref20_May.l0 (k + 1) y0 y1 y2 y3 y4 y5 y6 y7 y8))
  | 0 => ⟨fun _ _ _ _ _ _ _ _ _ r h => by simp [dormerref20_May.j0] at h, fun _ _ _ _ _ _ _ _ _ r h => by simp [dormerref20_May.l0] at h⟩
  | k + 1 => by
    obtain ⟨ih0, ih1⟩ := dormerref20_May.mono_l k
    refine ⟨?_, ?_⟩
    · intro y0 y1 y2 y3 y4 y5 y6 y7 y8
      unfold dormerref20_May.j0
      repeat' first
      | (with_reducible exact ih0 _ _ _ _ _ _ _ _ _)
      | (with_reducible exact ih1 _ _ _ _ _ _ _ _ _)
      | (with_reducible exact LeO.refl _)
      | (with_reducible exact LeO.none _)
      | (with_reducible refine LeO.ite ?_ ?_)
      | (with_reducible refine LeO.bind ?_ (fun _ => ?_))
      | exact ih0 _ _ _ _ _ _ _ _ _
      | exact ih1 _ _ _ _ _ _ _ _ _
      | exact LeO.none _
      | refine LeO.ite ?_ ?_
      | refine LeO.bind ?_ (fun _ => ?_)
    · intro y0 y1 y2 y3 y4 y5 y6 y7 y8
      unfold dormerref20_May.l0
      repeat' first
      | (with_reducible exact ih0 _ _ _ _ _ _ _ _ _)
      | (with_reducible exact ih1 _ _ _ _ _ _ _ _ _)
      | (with_reducible exact LeO.refl _)
      | (with_reducible exact LeO.none _)
      | (with_reducible refine LeO.ite ?_ ?_)
      | (with_reducible refine LeO.bind ?_ (fun _ => ?_))
      | exact ih0 _ _ _ _ _ _ _ _ _
      | exact ih1 _ _ _ _ _ _ _ _ _
      | exact LeO.none _
      | refine LeO.ite ?_ ?_
      | refine LeO.bind ?_ (fun _ => ?_)
theorem dormerref20_May.mono : ∀ a0 a1 a2 a3 a4 a5 a6 a7 k, LeO (dormerref20_May.f k a0 a1 a2 a3 a4 a5 a6 a7) (dormerref20_May.f (k + 1) a0 a1 a2 a3 a4 a5 a6 a7) := by
  intro a0 a1 a2 a3 a4 a5 a6 a7 k
  obtain ⟨ih0, ih1⟩ := dormerref20_May.mono_l k
  unfold dormerref20_May.f
  repeat' first
      | (with_reducible exact ih0 _ _ _ _ _ _ _ _ _)
      | (with_reducible exact ih1 _ _ _ _ _ _ _ _ _)
      | (with_reducible exact LeO.refl _)
      | (with_reducible exact LeO.none _)
      | (with_reducible refine LeO.ite ?_ ?_)
      | (with_reducible refine LeO.bind ?_ (fun _ => ?_))
      | exact ih0 _ _ _ _ _ _ _ _ _
      | exact ih1 _ _ _ _ _ _ _ _ _
      | exact LeO.none _
      | refine LeO.ite ?_ ?_
      | refine LeO.bind ?_ (fun _ => ?_)
set_option maxHeartbeats 8000000 in
set_option maxRecDepth 100000 in
theorem dormerref20_May.calls (k : Nat) (a0_0 : Int) (a0_1 : Int) (a0_2 : Int) (a0_3 : Int) (a0_4 : Int) (a0_5 : Bool) (a0_6 : Bool) (A0_7 : Option Addr) (c0_7 : Nat) (l0_7 : List Int) (r : Bool) (w : World) (hr0_7 : Kd.C (Kd.int .i64) w A0_7 l0_7.length l0_7) (hc0_7 : l0_7.length ≤ c0_7) (h : dormerref20_May.f k a0_0 a0_1 a0_2 a0_3 a0_4 a0_5 a0_6 l0_7 = some r) :
    Calls Try.prog 13 #[.agg #[.int .i64 a0_0, .int .u64 a0_1, .int .i64 a0_2, .int .u64 a0_3, .int .i64 a0_4, .bool a0_5, .bool a0_6, .slice A0_7 l0_7.length c0_7]] w fun e w' => e = .returned (.bool r) ∧ Below w.heap.size w w' := by
  have hu36 := Try.underlying36
  have HR0_7 := Aside0.mk hr0_7
  have HC0_7 := Aside0.mk hc0_7
  clear hr0_7 hc0_7
  have HB := Aside0.mk (Below.refl w.heap.size w)
  have H : (if a0_0 < 1 then (dormerref20_May.j0 k true a0_0 a0_1 a0_2 a0_3 a0_4 a0_5 a0_6 l0_7) else (if a0_0 > 8 then (dormerref20_May.j0 k true a0_0 a0_1 a0_2 a0_3 a0_4 a0_5 a0_6 l0_7) else (if a0_4 < 0 then (dormerref20_May.j0 k true a0_0 a0_1 a0_2 a0_3 a0_4 a0_5 a0_6 l0_7) else (if a0_4 > 63 then (dormerref20_May.j0 k true a0_0 a0_1 a0_2 a0_3 a0_4 a0_5 a0_6 l0_7) else (if a0_2 < 0 then (dormerref20_May.j0 k true a0_0 a0_1 a0_2 a0_3 a0_4 a0_5 a0_6 l0_7) else (if a0_2 > 255 then (dormerref20_May.j0 k true a0_0 a0_1 a0_2 a0_3 a0_4 a0_5 a0_6 l0_7) else (dormerref20_May.j0 k ((l0_7.length : Int) != 4) a0_0 a0_1 a0_2 a0_3 a0_4 a0_5 a0_6 l0_7))))))) = some r := h
  clear h
  have HC2 := Aside0.mk H
  clear H
  go_enter Try.func13, Try.ntmps13
  go_upto_region 1 with (first | ((with_reducible refine gate_dst (N := 1) rfl ?_); (try (refine gate_guard (by rfl) ?_; dsimp only)); refine box_event ?hg (N := 1) ?hd (cs := #[.int .i64 a0_0, .int .u64 a0_1, .int .i64 a0_2, .int .u64 a0_3, .int .i64 a0_4, .bool a0_5, .bool a0_6, .slice A0_7 l0_7.length c0_7]) (t := 36) ?hr ?_; (case hd => rfl); (case hg => rfl); (case hr => first | (go_simp; done) | (go_simp; rfl)); intro gb222 hg w3 hbox hb; have n0_ := Aside0.mk (below_step (by repeat (first | (with_reducible first | exact HB.out | apply below_alloc | apply pw_below_drewN | apply below_drew1) | exact HB.out)) hb); have n1_ := Aside0.mk (hbox); have n2_ := Aside0.mk ((by rw [hg]; exact (below_size (by repeat (first | (with_reducible first | exact HB.out | apply below_alloc | apply pw_below_drewN | apply below_drew1) | exact HB.out))) : w.heap.size ≤ gb222)); have n3_ := Aside0.mk ((by rw [hg]; exact (below_size (by repeat (first | (with_reducible first | exact HB.out | apply below_alloc | apply pw_below_drewN | apply below_drew1) | exact HB.out))) : w.heap.size ≤ gb222)); clear HB; have HB := n0_; have BK222 := n1_; have GW222 := n2_; have GE222 := n3_; clear n0_ n1_ n2_ n3_; clear hb hbox hg))
  (try simp only [Act.put, List.setIfInBounds_toArray, List.set_cons_zero, List.set_cons_succ])
  go_cut [39] (fun v39 wc => ∃ (kq : Nat) (x39_1 : Bool), v39 = .bool x39_1 ∧ Aside0 (dormerref20_May.j0 kq x39_1 a0_0 a0_1 a0_2 a0_3 a0_4 a0_5 a0_6 l0_7 = some r) ∧ Aside0 (kq ≤ k) ∧ Aside0 (wc.heap[gb222]? = some (.cells #[.int .i64 a0_0, .int .u64 a0_1, .int .i64 a0_2, .int .u64 a0_3, .int .i64 a0_4, .bool a0_5, .bool a0_6, (.slice A0_7 l0_7.length c0_7)] 36 (0, 0))) ∧ Aside0 (Below w.heap.size w wc))
  case first =>
    have H := HC2.out
    clear HC2
    by_cases c4 : a0_0 < 1
    · rw [if_pos c4] at H
      have c4b0 : decide (a0_0 < 1) = true := decide_eq_true c4
      clear c4
      (first | rw [c4b0] | (simp only [i64_w, i32_w]; rw [c4b0]) | skip)
      have H' := Aside0.mk H
      clear H
      have hcz5_0 : w3.cell? ⟨gb222, 0, none⟩ = some (.int .i64 a0_0) := (blk_cell BK222.out 0).trans rfl
      have hcz5_1 : w3.cell? ⟨gb222, 1, none⟩ = some (.int .u64 a0_1) := (blk_cell BK222.out 1).trans rfl
      have hcz5_2 : w3.cell? ⟨gb222, 2, none⟩ = some (.int .i64 a0_2) := (blk_cell BK222.out 2).trans rfl
      have hcz5_3 : w3.cell? ⟨gb222, 3, none⟩ = some (.int .u64 a0_3) := (blk_cell BK222.out 3).trans rfl
      have hcz5_4 : w3.cell? ⟨gb222, 4, none⟩ = some (.int .i64 a0_4) := (blk_cell BK222.out 4).trans rfl
      have hcz5_5 : w3.cell? ⟨gb222, 5, none⟩ = some (.bool a0_5) := (blk_cell BK222.out 5).trans rfl
      have hcz5_6 : w3.cell? ⟨gb222, 6, none⟩ = some (.bool a0_6) := (blk_cell BK222.out 6).trans rfl
      have hcz5_7 : w3.cell? ⟨gb222, 7, none⟩ = some (.slice A0_7 l0_7.length c0_7) := (blk_cell BK222.out 7).trans rfl
      have hfz5_0 := blk_frozen BK222.out 0
      have hfz5_1 := blk_frozen BK222.out 1
      have hfz5_2 := blk_frozen BK222.out 2
      have hfz5_3 := blk_frozen BK222.out 3
      have hfz5_4 := blk_frozen BK222.out 4
      have hfz5_5 := blk_frozen BK222.out 5
      have hfz5_6 := blk_frozen BK222.out 6
      have hfz5_7 := blk_frozen BK222.out 7
      go_wp2
      go_meet
      case rel => exact ⟨_, (true), (by first | rfl | (simp; done) | (simp [*]; done)), H', ⟨by first | omega | exact Nat.le_refl _⟩, ⟨by (with_reducible repeat (first | refine blk_drewN ?_ _ | refine blk_drew ?_ | refine blk_alloc ?_ _)); exact BK222.out⟩, ⟨by repeat (first | (with_reducible first | exact HB.out | apply below_alloc | apply pw_below_drewN | apply below_drew1 | refine below_set ?_ GE222.out) | exact HB.out)⟩⟩
    · rw [if_neg c4] at H
      have c4b0 : decide (a0_0 < 1) = false := decide_eq_false c4
      clear c4
      (first | rw [c4b0] | (simp only [i64_w, i32_w]; rw [c4b0]) | skip)
      by_cases c6 : a0_0 > 8
      · rw [if_pos c6] at H
        have c6b0 : decide (8 < a0_0) = true := decide_eq_true c6
        clear c6
        have H' := Aside0.mk H
        clear H
        have hcz7_0 : w3.cell? ⟨gb222, 0, none⟩ = some (.int .i64 a0_0) := (blk_cell BK222.out 0).trans rfl
        have hcz7_1 : w3.cell? ⟨gb222, 1, none⟩ = some (.int .u64 a0_1) := (blk_cell BK222.out 1).trans rfl
        have hcz7_2 : w3.cell? ⟨gb222, 2, none⟩ = some (.int .i64 a0_2) := (blk_cell BK222.out 2).trans rfl
        have hcz7_3 : w3.cell? ⟨gb222, 3, none⟩ = some (.int .u64 a0_3) := (blk_cell BK222.out 3).trans rfl
        have hcz7_4 : w3.cell? ⟨gb222, 4, none⟩ = some (.int .i64 a0_4) := (blk_cell BK222.out 4).trans rfl
        have hcz7_5 : w3.cell? ⟨gb222, 5, none⟩ = some (.bool a0_5) := (blk_cell BK222.out 5).trans rfl
        have hcz7_6 : w3.cell? ⟨gb222, 6, none⟩ = some (.bool a0_6) := (blk_cell BK222.out 6).trans rfl
        have hcz7_7 : w3.cell? ⟨gb222, 7, none⟩ = some (.slice A0_7 l0_7.length c0_7) := (blk_cell BK222.out 7).trans rfl
        have hfz7_0 := blk_frozen BK222.out 0
        have hfz7_1 := blk_frozen BK222.out 1
        have hfz7_2 := blk_frozen BK222.out 2
        have hfz7_3 := blk_frozen BK222.out 3
        have hfz7_4 := blk_frozen BK222.out 4
        have hfz7_5 := blk_frozen BK222.out 5
        have hfz7_6 := blk_frozen BK222.out 6
        have hfz7_7 := blk_frozen BK222.out 7
        go_wp2
        go_meet
        case rel => exact ⟨_, (true), (by first | rfl | (simp; done) | (simp [*]; done)), H', ⟨by first | omega | exact Nat.le_refl _⟩, ⟨by (with_reducible repeat (first | refine blk_drewN ?_ _ | refine blk_drew ?_ | refine blk_alloc ?_ _)); exact BK222.out⟩, ⟨by repeat (first | (with_reducible first | exact HB.out | apply below_alloc | apply pw_below_drewN | apply below_drew1 | refine below_set ?_ GE222.out) | exact HB.out)⟩⟩
      · rw [if_neg c6] at H
        have c6b0 : decide (8 < a0_0) = false := decide_eq_false c6
        clear c6
        by_cases c8 : a0_4 < 0
        · rw [if_pos c8] at H
          have c8b0 : decide (a0_4 < 0) = true := decide_eq_true c8
          clear c8
          have H' := Aside0.mk H
          clear H
          have hcz9_0 : w3.cell? ⟨gb222, 0, none⟩ = some (.int .i64 a0_0) := (blk_cell BK222.out 0).trans rfl
          have hcz9_1 : w3.cell? ⟨gb222, 1, none⟩ = some (.int .u64 a0_1) := (blk_cell BK222.out 1).trans rfl
          have hcz9_2 : w3.cell? ⟨gb222, 2, none⟩ = some (.int .i64 a0_2) := (blk_cell BK222.out 2).trans rfl
          have hcz9_3 : w3.cell? ⟨gb222, 3, none⟩ = some (.int .u64 a0_3) := (blk_cell BK222.out 3).trans rfl
          have hcz9_4 : w3.cell? ⟨gb222, 4, none⟩ = some (.int .i64 a0_4) := (blk_cell BK222.out 4).trans rfl
          have hcz9_5 : w3.cell? ⟨gb222, 5, none⟩ = some (.bool a0_5) := (blk_cell BK222.out 5).trans rfl
          have hcz9_6 : w3.cell? ⟨gb222, 6, none⟩ = some (.bool a0_6) := (blk_cell BK222.out 6).trans rfl
          have hcz9_7 : w3.cell? ⟨gb222, 7, none⟩ = some (.slice A0_7 l0_7.length c0_7) := (blk_cell BK222.out 7).trans rfl
          have hfz9_0 := blk_frozen BK222.out 0
          have hfz9_1 := blk_frozen BK222.out 1
          have hfz9_2 := blk_frozen BK222.out 2
          have hfz9_3 := blk_frozen BK222.out 3
          have hfz9_4 := blk_frozen BK222.out 4
          have hfz9_5 := blk_frozen BK222.out 5
          have hfz9_6 := blk_frozen BK222.out 6
          have hfz9_7 := blk_frozen BK222.out 7
          go_wp2
          go_meet
          case rel => exact ⟨_, (true), (by first | rfl | (simp; done) | (simp [*]; done)), H', ⟨by first | omega | exact Nat.le_refl _⟩, ⟨by (with_reducible repeat (first | refine blk_drewN ?_ _ | refine blk_drew ?_ | refine blk_alloc ?_ _)); exact BK222.out⟩, ⟨by repeat (first | (with_reducible first | exact HB.out | apply below_alloc | apply pw_below_drewN | apply below_drew1 | refine below_set ?_ GE222.out) | exact HB.out)⟩⟩
        · rw [if_neg c8] at H
          have c8b0 : decide (a0_4 < 0) = false := decide_eq_false c8
          clear c8
          by_cases c10 : a0_4 > 63
          · rw [if_pos c10] at H
            have c10b0 : decide (63 < a0_4) = true := decide_eq_true c10
            clear c10
            have H' := Aside0.mk H
            clear H
            have hcz11_0 : w3.cell? ⟨gb222, 0, none⟩ = some (.int .i64 a0_0) := (blk_cell BK222.out 0).trans rfl
            have hcz11_1 : w3.cell? ⟨gb222, 1, none⟩ = some (.int .u64 a0_1) := (blk_cell BK222.out 1).trans rfl
            have hcz11_2 : w3.cell? ⟨gb222, 2, none⟩ = some (.int .i64 a0_2) := (blk_cell BK222.out 2).trans rfl
            have hcz11_3 : w3.cell? ⟨gb222, 3, none⟩ = some (.int .u64 a0_3) := (blk_cell BK222.out 3).trans rfl
            have hcz11_4 : w3.cell? ⟨gb222, 4, none⟩ = some (.int .i64 a0_4) := (blk_cell BK222.out 4).trans rfl
            have hcz11_5 : w3.cell? ⟨gb222, 5, none⟩ = some (.bool a0_5) := (blk_cell BK222.out 5).trans rfl
            have hcz11_6 : w3.cell? ⟨gb222, 6, none⟩ = some (.bool a0_6) := (blk_cell BK222.out 6).trans rfl
            have hcz11_7 : w3.cell? ⟨gb222, 7, none⟩ = some (.slice A0_7 l0_7.length c0_7) := (blk_cell BK222.out 7).trans rfl
            have hfz11_0 := blk_frozen BK222.out 0
            have hfz11_1 := blk_frozen BK222.out 1
            have hfz11_2 := blk_frozen BK222.out 2
            have hfz11_3 := blk_frozen BK222.out 3
            have hfz11_4 := blk_frozen BK222.out 4
            have hfz11_5 := blk_frozen BK222.out 5
            have hfz11_6 := blk_frozen BK222.out 6
            have hfz11_7 := blk_frozen BK222.out 7
            go_wp2
            go_meet
            case rel => exact ⟨_, (true), (by first | rfl | (simp; done) | (simp [*]; done)), H', ⟨by first | omega | exact Nat.le_refl _⟩, ⟨by (with_reducible repeat (first | refine blk_drewN ?_ _ | refine blk_drew ?_ | refine blk_alloc ?_ _)); exact BK222.out⟩, ⟨by repeat (first | (with_reducible first | exact HB.out | apply below_alloc | apply pw_below_drewN | apply below_drew1 | refine below_set ?_ GE222.out) | exact HB.out)⟩⟩
          · rw [if_neg c10] at H
            have c10b0 : decide (63 < a0_4) = false := decide_eq_false c10
            clear c10
            by_cases c12 : a0_2 < 0
            · rw [if_pos c12] at H
              have c12b0 : decide (a0_2 < 0) = true := decide_eq_true c12
              clear c12
              have H' := Aside0.mk H
              clear H
              have hcz13_0 : w3.cell? ⟨gb222, 0, none⟩ = some (.int .i64 a0_0) := (blk_cell BK222.out 0).trans rfl
              have hcz13_1 : w3.cell? ⟨gb222, 1, none⟩ = some (.int .u64 a0_1) := (blk_cell BK222.out 1).trans rfl
              have hcz13_2 : w3.cell? ⟨gb222, 2, none⟩ = some (.int .i64 a0_2) := (blk_cell BK222.out 2).trans rfl
              have hcz13_3 : w3.cell? ⟨gb222, 3, none⟩ = some (.int .u64 a0_3) := (blk_cell BK222.out 3).trans rfl
              have hcz13_4 : w3.cell? ⟨gb222, 4, none⟩ = some (.int .i64 a0_4) := (blk_cell BK222.out 4).trans rfl
              have hcz13_5 : w3.cell? ⟨gb222, 5, none⟩ = some (.bool a0_5) := (blk_cell BK222.out 5).trans rfl
              have hcz13_6 : w3.cell? ⟨gb222, 6, none⟩ = some (.bool a0_6) := (blk_cell BK222.out 6).trans rfl
              have hcz13_7 : w3.cell? ⟨gb222, 7, none⟩ = some (.slice A0_7 l0_7.length c0_7) := (blk_cell BK222.out 7).trans rfl
              have hfz13_0 := blk_frozen BK222.out 0
              have hfz13_1 := blk_frozen BK222.out 1
              have hfz13_2 := blk_frozen BK222.out 2
              have hfz13_3 := blk_frozen BK222.out 3
              have hfz13_4 := blk_frozen BK222.out 4
              have hfz13_5 := blk_frozen BK222.out 5
              have hfz13_6 := blk_frozen BK222.out 6
              have hfz13_7 := blk_frozen BK222.out 7
              go_wp2
              go_meet
              case rel => exact ⟨_, (true), (by first | rfl | (simp; done) | (simp [*]; done)), H', ⟨by first | omega | exact Nat.le_refl _⟩, ⟨by (with_reducible repeat (first | refine blk_drewN ?_ _ | refine blk_drew ?_ | refine blk_alloc ?_ _)); exact BK222.out⟩, ⟨by repeat (first | (with_reducible first | exact HB.out | apply below_alloc | apply pw_below_drewN | apply below_drew1 | refine below_set ?_ GE222.out) | exact HB.out)⟩⟩
            · rw [if_neg c12] at H
              have c12b0 : decide (a0_2 < 0) = false := decide_eq_false c12
              clear c12
              by_cases c14 : a0_2 > 255
              · rw [if_pos c14] at H
                have c14b0 : decide (255 < a0_2) = true := decide_eq_true c14
                clear c14
                have H' := Aside0.mk H
                clear H
                have hcz15_0 : w3.cell? ⟨gb222, 0, none⟩ = some (.int .i64 a0_0) := (blk_cell BK222.out 0).trans rfl
                have hcz15_1 : w3.cell? ⟨gb222, 1, none⟩ = some (.int .u64 a0_1) := (blk_cell BK222.out 1).trans rfl
                have hcz15_2 : w3.cell? ⟨gb222, 2, none⟩ = some (.int .i64 a0_2) := (blk_cell BK222.out 2).trans rfl
                have hcz15_3 : w3.cell? ⟨gb222, 3, none⟩ = some (.int .u64 a0_3) := (blk_cell BK222.out 3).trans rfl
                have hcz15_4 : w3.cell? ⟨gb222, 4, none⟩ = some (.int .i64 a0_4) := (blk_cell BK222.out 4).trans rfl
                have hcz15_5 : w3.cell? ⟨gb222, 5, none⟩ = some (.bool a0_5) := (blk_cell BK222.out 5).trans rfl
                have hcz15_6 : w3.cell? ⟨gb222, 6, none⟩ = some (.bool a0_6) := (blk_cell BK222.out 6).trans rfl
                have hcz15_7 : w3.cell? ⟨gb222, 7, none⟩ = some (.slice A0_7 l0_7.length c0_7) := (blk_cell BK222.out 7).trans rfl
                have hfz15_0 := blk_frozen BK222.out 0
                have hfz15_1 := blk_frozen BK222.out 1
                have hfz15_2 := blk_frozen BK222.out 2
                have hfz15_3 := blk_frozen BK222.out 3
                have hfz15_4 := blk_frozen BK222.out 4
                have hfz15_5 := blk_frozen BK222.out 5
                have hfz15_6 := blk_frozen BK222.out 6
                have hfz15_7 := blk_frozen BK222.out 7
                go_wp2
                go_meet
                case rel => exact ⟨_, (true), (by first | rfl | (simp; done) | (simp [*]; done)), H', ⟨by first | omega | exact Nat.le_refl _⟩, ⟨by (with_reducible repeat (first | refine blk_drewN ?_ _ | refine blk_drew ?_ | refine blk_alloc ?_ _)); exact BK222.out⟩, ⟨by repeat (first | (with_reducible first | exact HB.out | apply below_alloc | apply pw_below_drewN | apply below_drew1 | refine below_set ?_ GE222.out) | exact HB.out)⟩⟩
              · rw [if_neg c14] at H
                have c14b0 : decide (255 < a0_2) = false := decide_eq_false c14
                clear c14
                have H' := Aside0.mk H
                clear H
                have hcz16_0 : w3.cell? ⟨gb222, 0, none⟩ = some (.int .i64 a0_0) := (blk_cell BK222.out 0).trans rfl
                have hcz16_1 : w3.cell? ⟨gb222, 1, none⟩ = some (.int .u64 a0_1) := (blk_cell BK222.out 1).trans rfl
                have hcz16_2 : w3.cell? ⟨gb222, 2, none⟩ = some (.int .i64 a0_2) := (blk_cell BK222.out 2).trans rfl
                have hcz16_3 : w3.cell? ⟨gb222, 3, none⟩ = some (.int .u64 a0_3) := (blk_cell BK222.out 3).trans rfl
                have hcz16_4 : w3.cell? ⟨gb222, 4, none⟩ = some (.int .i64 a0_4) := (blk_cell BK222.out 4).trans rfl
                have hcz16_5 : w3.cell? ⟨gb222, 5, none⟩ = some (.bool a0_5) := (blk_cell BK222.out 5).trans rfl
                have hcz16_6 : w3.cell? ⟨gb222, 6, none⟩ = some (.bool a0_6) := (blk_cell BK222.out 6).trans rfl
                have hcz16_7 : w3.cell? ⟨gb222, 7, none⟩ = some (.slice A0_7 l0_7.length c0_7) := (blk_cell BK222.out 7).trans rfl
                have hfz16_0 := blk_frozen BK222.out 0
                have hfz16_1 := blk_frozen BK222.out 1
                have hfz16_2 := blk_frozen BK222.out 2
                have hfz16_3 := blk_frozen BK222.out 3
                have hfz16_4 := blk_frozen BK222.out 4
                have hfz16_5 := blk_frozen BK222.out 5
                have hfz16_6 := blk_frozen BK222.out 6
                have hfz16_7 := blk_frozen BK222.out 7
                go_wp2
                go_meet
                case rel => exact ⟨_, (((l0_7.length : Int) != 4)), (by first | rfl | (simp; done) | (simp [*]; done)), H', ⟨by first | omega | exact Nat.le_refl _⟩, ⟨by (with_reducible repeat (first | refine blk_drewN ?_ _ | refine blk_drew ?_ | refine blk_alloc ?_ _)); exact BK222.out⟩, ⟨by repeat (first | (with_reducible first | exact HB.out | apply below_alloc | apply pw_below_drewN | apply below_drew1 | refine below_set ?_ GE222.out) | exact HB.out)⟩⟩
  case rest =>
    clear HC2
    try clear c1
    try clear p2
    try clear c4
    try clear c4b0
    try clear c6
    try clear c6b0
    try clear c8
    try clear c8b0
    try clear c10
    try clear c10b0
    try clear c12
    try clear c12b0
    try clear c13
    try clear c14
    try clear c14b0
    try clear hcz11_0
    try clear hcz11_1
    try clear hcz11_2
    try clear hcz11_3
    try clear hcz11_4
    try clear hcz11_5
    try clear hcz11_6
    try clear hcz11_7
    try clear hcz13_0
    try clear hcz13_1
    try clear hcz13_2
    try clear hcz13_3
    try clear hcz13_4
    try clear hcz13_5
    try clear hcz13_6
    try clear hcz13_7
    try clear hcz15_0
    try clear hcz15_1
    try clear hcz15_2
    try clear hcz15_3
    try clear hcz15_4
    try clear hcz15_5
    try clear hcz15_6
    try clear hcz15_7
    try clear hcz16_0
    try clear hcz16_1
    try clear hcz16_2
    try clear hcz16_3
    try clear hcz16_4
    try clear hcz16_5
    try clear hcz16_6
    try clear hcz16_7
    try clear hcz5_0
    try clear hcz5_1
    try clear hcz5_2
    try clear hcz5_3
    try clear hcz5_4
    try clear hcz5_5
    try clear hcz5_6
    try clear hcz5_7
    try clear hcz7_0
    try clear hcz7_1
    try clear hcz7_2
    try clear hcz7_3
    try clear hcz7_4
    try clear hcz7_5
    try clear hcz7_6
    try clear hcz7_7
    try clear hcz9_0
    try clear hcz9_1
    try clear hcz9_2
    try clear hcz9_3
    try clear hcz9_4
    try clear hcz9_5
    try clear hcz9_6
    try clear hcz9_7
    try clear hfz11_0
    try clear hfz11_1
    try clear hfz11_2
    try clear hfz11_3
    try clear hfz11_4
    try clear hfz11_5
    try clear hfz11_6
    try clear hfz11_7
    try clear hfz13_0
    try clear hfz13_1
    try clear hfz13_2
    try clear hfz13_3
    try clear hfz13_4
    try clear hfz13_5
    try clear hfz13_6
    try clear hfz13_7
    try clear hfz15_0
    try clear hfz15_1
    try clear hfz15_2
    try clear hfz15_3
    try clear hfz15_4
    try clear hfz15_5
    try clear hfz15_6
    try clear hfz15_7
    try clear hfz16_0
    try clear hfz16_1
    try clear hfz16_2
    try clear hfz16_3
    try clear hfz16_4
    try clear hfz16_5
    try clear hfz16_6
    try clear hfz16_7
    try clear hfz5_0
    try clear hfz5_1
    try clear hfz5_2
    try clear hfz5_3
    try clear hfz5_4
    try clear hfz5_5
    try clear hfz5_6
    try clear hfz5_7
    try clear hfz7_0
    try clear hfz7_1
    try clear hfz7_2
    try clear hfz7_3
    try clear hfz7_4
    try clear hfz7_5
    try clear hfz7_6
    try clear hfz7_7
    try clear hfz9_0
    try clear hfz9_1
    try clear hfz9_2
    try clear hfz9_3
    try clear hfz9_4
    try clear hfz9_5
    try clear hfz9_6
    try clear hfz9_7
    obtain ⟨kq, x39_1, rfl, HA, HJ1, BK222, HB⟩ := hcut
    cases kq with
    | zero => exact absurd HA.out (by simp [dormerref20_May.j0])
    | succ kj1 =>
      have H := HA.out
      clear HA
      simp only [dormerref20_May.j0] at H
      by_cases c17 : x39_1 = true
      · subst c17
        have H1 : (some false) = some r := by rw [if_pos rfl] at H; exact H
        clear H
        have H := H1
        clear H1
        obtain rfl := Option.some.inj H
        go_wp2
        go_ret
        exact ⟨by first | rfl | (simp [errW_none, errW_some] <;> rfl) | (simp [*, errW_none, errW_some] <;> rfl), by repeat (first | (with_reducible first | exact HB.out | apply below_alloc | apply pw_below_drewN | apply below_drew1 | refine below_set ?_ GE222.out) | exact HB.out)⟩
      · replace c17 := Bool.eq_false_iff.mpr c17
        subst c17
        have H1 : (dormerref20_May.l0 kj1 0 a0_0 a0_1 a0_2 a0_3 a0_4 a0_5 a0_6 l0_7) = some r := by rw [if_neg (show ¬ (false = true) by decide)] at H; exact H
        clear H
        have H := H1
        clear H1
        have H' := Aside0.mk H
        clear H
        go_wp2
        go_loopg [3] kj1 (fun kq v3 w' => ∃ (x3_2 : Int), v3 = .int .i64 x3_2 ∧ Aside0 (dormerref20_May.l0 kq x3_2 a0_0 a0_1 a0_2 a0_3 a0_4 a0_5 a0_6 l0_7 = some r) ∧ Aside0 (kq ≤ kj1) ∧ Aside0 (w'.heap[gb222]? = some (.cells #[.int .i64 a0_0, .int .u64 a0_1, .int .i64 a0_2, .int .u64 a0_3, .int .i64 a0_4, .bool a0_5, .bool a0_6, (.slice A0_7 l0_7.length c0_7)] 36 (0, 0))) ∧ Aside0 (Below w.heap.size w w'))
        case atStart => exact ⟨(0), (by first | rfl | (simp; done) | (simp [*]; done)), H', ⟨Nat.le_refl _⟩, ⟨by (with_reducible repeat (first | refine blk_drewN ?_ _ | refine blk_drew ?_ | refine blk_alloc ?_ _)); exact BK222.out⟩, ⟨by repeat (first | (with_reducible first | exact HB.out | apply below_alloc | apply pw_below_drewN | apply below_drew1 | refine below_set ?_ GE222.out) | exact HB.out)⟩⟩
        case round =>
          clear H'
          try clear c1
          try clear p2
          try clear c4
          try clear c4b0
          try clear c6
          try clear c6b0
          try clear c8
          try clear c8b0
          try clear c10
          try clear c10b0
          try clear c12
          try clear c12b0
          try clear c13
          try clear c14
          try clear c14b0
          try clear c17
          try clear hcz11_0
          try clear hcz11_1
          try clear hcz11_2
          try clear hcz11_3
          try clear hcz11_4
          try clear hcz11_5
          try clear hcz11_6
          try clear hcz11_7
          try clear hcz13_0
          try clear hcz13_1
          try clear hcz13_2
          try clear hcz13_3
          try clear hcz13_4
          try clear hcz13_5
          try clear hcz13_6
          try clear hcz13_7
          try clear hcz15_0
          try clear hcz15_1
          try clear hcz15_2
          try clear hcz15_3
          try clear hcz15_4
          try clear hcz15_5
          try clear hcz15_6
          try clear hcz15_7
          try clear hcz16_0
          try clear hcz16_1
          try clear hcz16_2
          try clear hcz16_3
          try clear hcz16_4
          try clear hcz16_5
          try clear hcz16_6
          try clear hcz16_7
          try clear hcz5_0
          try clear hcz5_1
          try clear hcz5_2
          try clear hcz5_3
          try clear hcz5_4
          try clear hcz5_5
          try clear hcz5_6
          try clear hcz5_7
          try clear hcz7_0
          try clear hcz7_1
          try clear hcz7_2
          try clear hcz7_3
          try clear hcz7_4
          try clear hcz7_5
          try clear hcz7_6
          try clear hcz7_7
          try clear hcz9_0
          try clear hcz9_1
          try clear hcz9_2
          try clear hcz9_3
          try clear hcz9_4
          try clear hcz9_5
          try clear hcz9_6
          try clear hcz9_7
          try clear hfz11_0
          try clear hfz11_1
          try clear hfz11_2
          try clear hfz11_3
          try clear hfz11_4
          try clear hfz11_5
          try clear hfz11_6
          try clear hfz11_7
          try clear hfz13_0
          try clear hfz13_1
          try clear hfz13_2
          try clear hfz13_3
          try clear hfz13_4
          try clear hfz13_5
          try clear hfz13_6
          try clear hfz13_7
          try clear hfz15_0
          try clear hfz15_1
          try clear hfz15_2
          try clear hfz15_3
          try clear hfz15_4
          try clear hfz15_5
          try clear hfz15_6
          try clear hfz15_7
          try clear hfz16_0
          try clear hfz16_1
          try clear hfz16_2
          try clear hfz16_3
          try clear hfz16_4
          try clear hfz16_5
          try clear hfz16_6
          try clear hfz16_7
          try clear hfz5_0
          try clear hfz5_1
          try clear hfz5_2
          try clear hfz5_3
          try clear hfz5_4
          try clear hfz5_5
          try clear hfz5_6
          try clear hfz5_7
          try clear hfz7_0
          try clear hfz7_1
          try clear hfz7_2
          try clear hfz7_3
          try clear hfz7_4
          try clear hfz7_5
          try clear hfz7_6
          try clear hfz7_7
          try clear hfz9_0
          try clear hfz9_1
          try clear hfz9_2
          try clear hfz9_3
          try clear hfz9_4
          try clear hfz9_5
          try clear hfz9_6
          try clear hfz9_7
          try clear p2
          obtain ⟨x3_2, rfl, HA, HK2, BK222, HB⟩ := hrel
          cases gk with
          | zero => exact absurd HA.out (by simp [dormerref20_May.l0])
          | succ k2 =>
            have H := HA.out
            clear HA
            simp only [dormerref20_May.l0] at H
            by_cases c18 : x3_2 < 4
            · rw [if_pos c18] at H
              have c18b0 : decide (x3_2 < 4) = true := decide_eq_true c18
              clear c18
              by_cases c19 : 0 ≤ x3_2
              · rw [if_pos c19] at H
                have c19b0 : decide (0 ≤ x3_2) = true := decide_eq_true c19
                clear c19
                by_cases c20 : x3_2 < (l0_7.length : Int)
                · rw [if_pos c20] at H
                  have c20b0 : decide (x3_2 < (l0_7.length : Int)) = true := decide_eq_true c20
                  clear c20
                  by_cases c21 : (rd l0_7 x3_2) < 0
                  · rw [if_pos c21] at H
                    have c21b0 : decide ((rd l0_7 x3_2) < 0) = true := decide_eq_true c21
                    clear c21
                    obtain rfl := Option.some.inj H
                    have hcz22_0 : wr.cell? ⟨gb222, 0, none⟩ = some (.int .i64 a0_0) := (blk_cell BK222.out 0).trans rfl
                    have hcz22_1 : wr.cell? ⟨gb222, 1, none⟩ = some (.int .u64 a0_1) := (blk_cell BK222.out 1).trans rfl
                    have hcz22_2 : wr.cell? ⟨gb222, 2, none⟩ = some (.int .i64 a0_2) := (blk_cell BK222.out 2).trans rfl
                    have hcz22_3 : wr.cell? ⟨gb222, 3, none⟩ = some (.int .u64 a0_3) := (blk_cell BK222.out 3).trans rfl
                    have hcz22_4 : wr.cell? ⟨gb222, 4, none⟩ = some (.int .i64 a0_4) := (blk_cell BK222.out 4).trans rfl
                    have hcz22_5 : wr.cell? ⟨gb222, 5, none⟩ = some (.bool a0_5) := (blk_cell BK222.out 5).trans rfl
                    have hcz22_6 : wr.cell? ⟨gb222, 6, none⟩ = some (.bool a0_6) := (blk_cell BK222.out 6).trans rfl
                    have hcz22_7 : wr.cell? ⟨gb222, 7, none⟩ = some (.slice A0_7 l0_7.length c0_7) := (blk_cell BK222.out 7).trans rfl
                    have hfz22_0 := blk_frozen BK222.out 0
                    have hfz22_1 := blk_frozen BK222.out 1
                    have hfz22_2 := blk_frozen BK222.out 2
                    have hfz22_3 := blk_frozen BK222.out 3
                    have hfz22_4 := blk_frozen BK222.out 4
                    have hfz22_5 := blk_frozen BK222.out 5
                    have hfz22_6 := blk_frozen BK222.out 6
                    have hfz22_7 := blk_frozen BK222.out 7
                    have p223 : 0 ≤ (x3_2 : Int) := of_decide_eq_true (by first | (with_reducible assumption) | assumption)
                    have q223 : x3_2 < (l0_7.length : Int) := of_decide_eq_true (by first | (with_reducible assumption) | assumption)
                    obtain ⟨ad223, e223, hx223_0⟩ := Kd.at_int HR0_7.out x3_2 p223 q223
                    cases e223
                    replace hx223_0 := (HB.out.cell (World.block_lt_of_cell? w _ hx223_0)).trans hx223_0
                    replace p223 := eq_true p223
                    replace q223 := eq_true q223
                    go_wp2
                    go_ret
                    exact ⟨by first | rfl | (simp [errW_none, errW_some] <;> rfl) | (simp [*, errW_none, errW_some] <;> rfl), by repeat (first | (with_reducible first | exact HB.out | apply below_alloc | apply pw_below_drewN | apply below_drew1 | refine below_set ?_ GE222.out) | exact HB.out)⟩
                  · rw [if_neg c21] at H
                    have c21b0 : decide ((rd l0_7 x3_2) < 0) = false := decide_eq_false c21
                    clear c21
                    by_cases c23 : (rd l0_7 x3_2) > 255
                    · rw [if_pos c23] at H
                      have c23b0 : decide (255 < (rd l0_7 x3_2)) = true := decide_eq_true c23
                      clear c23
                      obtain rfl := Option.some.inj H
                      have hcz24_0 : wr.cell? ⟨gb222, 0, none⟩ = some (.int .i64 a0_0) := (blk_cell BK222.out 0).trans rfl
                      have hcz24_1 : wr.cell? ⟨gb222, 1, none⟩ = some (.int .u64 a0_1) := (blk_cell BK222.out 1).trans rfl
                      have hcz24_2 : wr.cell? ⟨gb222, 2, none⟩ = some (.int .i64 a0_2) := (blk_cell BK222.out 2).trans rfl
                      have hcz24_3 : wr.cell? ⟨gb222, 3, none⟩ = some (.int .u64 a0_3) := (blk_cell BK222.out 3).trans rfl
                      have hcz24_4 : wr.cell? ⟨gb222, 4, none⟩ = some (.int .i64 a0_4) := (blk_cell BK222.out 4).trans rfl
                      have hcz24_5 : wr.cell? ⟨gb222, 5, none⟩ = some (.bool a0_5) := (blk_cell BK222.out 5).trans rfl
                      have hcz24_6 : wr.cell? ⟨gb222, 6, none⟩ = some (.bool a0_6) := (blk_cell BK222.out 6).trans rfl
                      have hcz24_7 : wr.cell? ⟨gb222, 7, none⟩ = some (.slice A0_7 l0_7.length c0_7) := (blk_cell BK222.out 7).trans rfl
                      have hfz24_0 := blk_frozen BK222.out 0
                      have hfz24_1 := blk_frozen BK222.out 1
                      have hfz24_2 := blk_frozen BK222.out 2
                      have hfz24_3 := blk_frozen BK222.out 3
                      have hfz24_4 := blk_frozen BK222.out 4
                      have hfz24_5 := blk_frozen BK222.out 5
                      have hfz24_6 := blk_frozen BK222.out 6
                      have hfz24_7 := blk_frozen BK222.out 7
                      have p223 : 0 ≤ (x3_2 : Int) := of_decide_eq_true (by first | (with_reducible assumption) | assumption)
                      have q223 : x3_2 < (l0_7.length : Int) := of_decide_eq_true (by first | (with_reducible assumption) | assumption)
                      obtain ⟨ad223, e223, hx223_0⟩ := Kd.at_int HR0_7.out x3_2 p223 q223
                      cases e223
                      replace hx223_0 := (HB.out.cell (World.block_lt_of_cell? w _ hx223_0)).trans hx223_0
                      replace p223 := eq_true p223
                      replace q223 := eq_true q223
                      have p224 : 0 ≤ (x3_2 : Int) := of_decide_eq_true (by first | (with_reducible assumption) | assumption)
                      have q224 : x3_2 < (l0_7.length : Int) := of_decide_eq_true (by first | (with_reducible assumption) | assumption)
                      obtain ⟨ad224, e224, hx224_0⟩ := Kd.at_int HR0_7.out x3_2 p224 q224
                      obtain rfl : ad223 = ad224 := (by injection e224)
                      replace hx224_0 := (HB.out.cell (World.block_lt_of_cell? w _ hx224_0)).trans hx224_0
                      replace p224 := eq_true p224
                      replace q224 := eq_true q224
                      go_wp2
                      go_ret
                      exact ⟨by first | rfl | (simp [errW_none, errW_some] <;> rfl) | (simp [*, errW_none, errW_some] <;> rfl), by repeat (first | (with_reducible first | exact HB.out | apply below_alloc | apply pw_below_drewN | apply below_drew1 | refine below_set ?_ GE222.out) | exact HB.out)⟩
                    · rw [if_neg c23] at H
                      have c23b0 : decide (255 < (rd l0_7 x3_2)) = false := decide_eq_false c23
                      clear c23
                      have H' := Aside0.mk H
                      clear H
                      have hcz25_0 : wr.cell? ⟨gb222, 0, none⟩ = some (.int .i64 a0_0) := (blk_cell BK222.out 0).trans rfl
                      have hcz25_1 : wr.cell? ⟨gb222, 1, none⟩ = some (.int .u64 a0_1) := (blk_cell BK222.out 1).trans rfl
                      have hcz25_2 : wr.cell? ⟨gb222, 2, none⟩ = some (.int .i64 a0_2) := (blk_cell BK222.out 2).trans rfl
                      have hcz25_3 : wr.cell? ⟨gb222, 3, none⟩ = some (.int .u64 a0_3) := (blk_cell BK222.out 3).trans rfl
                      have hcz25_4 : wr.cell? ⟨gb222, 4, none⟩ = some (.int .i64 a0_4) := (blk_cell BK222.out 4).trans rfl
                      have hcz25_5 : wr.cell? ⟨gb222, 5, none⟩ = some (.bool a0_5) := (blk_cell BK222.out 5).trans rfl
                      have hcz25_6 : wr.cell? ⟨gb222, 6, none⟩ = some (.bool a0_6) := (blk_cell BK222.out 6).trans rfl
                      have hcz25_7 : wr.cell? ⟨gb222, 7, none⟩ = some (.slice A0_7 l0_7.length c0_7) := (blk_cell BK222.out 7).trans rfl
                      have hfz25_0 := blk_frozen BK222.out 0
                      have hfz25_1 := blk_frozen BK222.out 1
                      have hfz25_2 := blk_frozen BK222.out 2
                      have hfz25_3 := blk_frozen BK222.out 3
                      have hfz25_4 := blk_frozen BK222.out 4
                      have hfz25_5 := blk_frozen BK222.out 5
                      have hfz25_6 := blk_frozen BK222.out 6
                      have hfz25_7 := blk_frozen BK222.out 7
                      have p223 : 0 ≤ (x3_2 : Int) := of_decide_eq_true (by first | (with_reducible assumption) | assumption)
                      have q223 : x3_2 < (l0_7.length : Int) := of_decide_eq_true (by first | (with_reducible assumption) | assumption)
                      obtain ⟨ad223, e223, hx223_0⟩ := Kd.at_int HR0_7.out x3_2 p223 q223
                      cases e223
                      replace hx223_0 := (HB.out.cell (World.block_lt_of_cell? w _ hx223_0)).trans hx223_0
                      replace p223 := eq_true p223
                      replace q223 := eq_true q223
                      have p224 : 0 ≤ (x3_2 : Int) := of_decide_eq_true (by first | (with_reducible assumption) | assumption)
                      have q224 : x3_2 < (l0_7.length : Int) := of_decide_eq_true (by first | (with_reducible assumption) | assumption)
                      obtain ⟨ad224, e224, hx224_0⟩ := Kd.at_int HR0_7.out x3_2 p224 q224
                      obtain rfl : ad223 = ad224 := (by injection e224)
                      replace hx224_0 := (HB.out.cell (World.block_lt_of_cell? w _ hx224_0)).trans hx224_0
                      replace p224 := eq_true p224
                      replace q224 := eq_true q224
                      go_wp2
                      go_roundg k2
                      case measure => have := HJ1.out; have := HK2.out; omega
                      case rel => exact ⟨(wrap64 (x3_2 + 1)), (by first | rfl | (simp; done) | (simp [*]; done)), H', ⟨by have := HJ1.out; have := HK2.out; omega⟩, ⟨by (with_reducible repeat (first | refine blk_drewN ?_ _ | refine blk_drew ?_ | refine blk_alloc ?_ _)); exact BK222.out⟩, ⟨by repeat (first | (with_reducible first | exact HB.out | apply below_alloc | apply pw_below_drewN | apply below_drew1 | refine below_set ?_ GE222.out) | exact HB.out)⟩⟩
                · rw [if_neg c20] at H
                  exact absurd H (by simp)
              · rw [if_neg c19] at H
                exact absurd H (by simp)
            · rw [if_neg c18] at H
              have c18b0 : decide (x3_2 < 4) = false := decide_eq_false c18
              clear c18
              obtain rfl := Option.some.inj H
              go_wp2
              go_ret
              exact ⟨by first | rfl | (simp [errW_none, errW_some] <;> rfl) | (simp [*, errW_none, errW_some] <;> rfl), by repeat (first | (with_reducible first | exact HB.out | apply below_alloc | apply pw_below_drewN | apply below_drew1 | refine below_set ?_ GE222.out) | exact HB.out)⟩

/-! ### dormerref01_Power: function 38 -/
def dormerref01_Power.l0 : Nat → Int → Int → Int → Option (Int)
  | 0, _, _, _ => none
  | k + 1, x0, x3, x4 => if x4 < x0 then (dormerref01_Power.l0 k x0 (IntKind.u64.wrap (2 * x3)) (wrap64 (x4 + 1))) else (some x3)
def dormerref01_Power.f (k : Nat) (a0 : Int) : Option (Int) := dormerref01_Power.l0 k a0 1 0
theorem dormerref01_Power.mono_l : ∀ k, (∀ y0 y1 y2, LeO (dormerref01_Power.l0 k y0 y1 y2) (dormerref01_Power.l0 (k + 1) y0 y1 y2))
  | 0 => fun _ _ _ r h => by simp [dormerref01_Power.l0] at h
  | k + 1 => by
    have ih0 := dormerref01_Power.mono_l k
    · intro y0 y1 y2
      unfold dormerref01_Power.l0
      repeat' first
      | (with_reducible exact ih0 _ _ _)
      | (with_reducible exact LeO.refl _)
      | (with_reducible exact LeO.none _)
      | (with_reducible refine LeO.ite ?_ ?_)
      | (with_reducible refine LeO.bind ?_ (fun _ => ?_))
      | exact ih0 _ _ _
      | exact LeO.none _
      | refine LeO.ite ?_ ?_
      | refine LeO.bind ?_ (fun _ => ?_)
theorem dormerref01_Power.mono : ∀ a0 k, LeO (dormerref01_Power.f k a0) (dormerref01_Power.f (k + 1) a0) := by
  intro a0 k
  have ih0 := dormerref01_Power.mono_l k
  unfold dormerref01_Power.f
  repeat' first
      | (with_reducible exact ih0 _ _ _)
      | (with_reducible exact LeO.refl _)
      | (with_reducible exact LeO.none _)
      | (with_reducible refine LeO.ite ?_ ?_)
      | (with_reducible refine LeO.bind ?_ (fun _ => ?_))
      | exact ih0 _ _ _
      | exact LeO.none _
      | refine LeO.ite ?_ ?_
      | refine LeO.bind ?_ (fun _ => ?_)
set_option maxHeartbeats 8000000 in
set_option maxRecDepth 100000 in
theorem dormerref01_Power.calls (k : Nat) (a0 : Int) (r : Int) (w : World) (h : dormerref01_Power.f k a0 = some r) :
    Calls Try.prog 38 #[.int .i64 a0] w fun e w' => e = .returned (.int .u64 r) ∧ Drawn0 w w' := by
  have H : (dormerref01_Power.l0 k a0 1 0) = some r := h
  clear h
  have H' := Aside0.mk H
  clear H
  go_enter Try.func38, Try.ntmps38
  go_wp2
  go_loopg [3, 4] k (fun kq v3 v4 w' => ∃ (x3_1 : Int) (x4_1 : Int), v3 = .int .u64 x3_1 ∧ v4 = .int .i64 x4_1 ∧ Aside0 (dormerref01_Power.l0 kq a0 x3_1 x4_1 = some r) ∧ Aside0 (kq ≤ k) ∧ Drawn0 w w')
  case atStart => exact ⟨(1), (0), (by first | rfl | (simp; done) | (simp [*]; done)), (by first | rfl | (simp; done) | (simp [*]; done)), H', ⟨Nat.le_refl _⟩, by repeat (first | exact Drawn0.refl _ | apply Drawn0.step)⟩
  case round =>
    clear H'
    obtain ⟨x3_1, x4_1, rfl, rfl, HA, HK1, ⟨m1, rfl⟩⟩ := hrel
    cases gk with
    | zero => exact absurd HA.out (by simp [dormerref01_Power.l0])
    | succ k1 =>
      have H := HA.out
      clear HA
      simp only [dormerref01_Power.l0] at H
      by_cases c2 : x4_1 < a0
      · rw [if_pos c2] at H
        have c2b0 : decide (x4_1 < a0) = true := decide_eq_true c2
        clear c2
        have H' := Aside0.mk H
        clear H
        go_wp2
        go_roundg k1
        case measure => have := HK1.out; omega
        case rel => exact ⟨(IntKind.u64.wrap (2 * x3_1)), (wrap64 (x4_1 + 1)), (by first | rfl | (simp; done) | (simp [*]; done)), (by first | rfl | (simp; done) | (simp [*]; done)), H', ⟨by have := HK1.out; omega⟩, by repeat (first | exact Drawn0.refl _ | apply Drawn0.step)⟩
      · rw [if_neg c2] at H
        have c2b0 : decide (x4_1 < a0) = false := decide_eq_false c2
        clear c2
        obtain rfl := Option.some.inj H
        go_wp2
        go_ret
        exact ⟨by first | rfl | (simp; done) | (simp [*]; done), by repeat (first | exact Drawn0.refl _ | apply Drawn0.step)⟩

/-! ### dormerref02_Byte: function 35 -/
def dormerref02_Byte.f (k : Nat) (a0 : Int) (a1 : Int) : Option (Int) := if a1 < 0 then (some 0) else (if a1 > 7 then (some 0) else ((dormerref01_Power.f k (wrap64 (8 * a1))).bind fun t225 => (if t225 = 0 then (none) else (some ((Int.tmod (IntKind.u64.wrap (Int.tdiv a0 t225)) 256) % 256)))))
theorem dormerref02_Byte.mono : ∀ a0 a1 k, LeO (dormerref02_Byte.f k a0 a1) (dormerref02_Byte.f (k + 1) a0 a1) := by
  intro a0 a1 k
  unfold dormerref02_Byte.f
  repeat' first
      | (with_reducible exact dormerref01_Power.mono _ _)
      | (with_reducible exact LeO.refl _)
      | (with_reducible exact LeO.none _)
      | (with_reducible refine LeO.ite ?_ ?_)
      | (with_reducible refine LeO.bind ?_ (fun _ => ?_))
      | exact dormerref01_Power.mono _ _
      | exact LeO.none _
      | refine LeO.ite ?_ ?_
      | refine LeO.bind ?_ (fun _ => ?_)
set_option maxHeartbeats 8000000 in
set_option maxRecDepth 100000 in
theorem dormerref02_Byte.calls (k : Nat) (a0 : Int) (a1 : Int) (r : Int) (w : World) (h : dormerref02_Byte.f k a0 a1 = some r) :
    Calls Try.prog 35 #[.int .u64 a0, .int .i64 a1] w fun e w' => e = .returned (.int .u8 r) ∧ Drawn0 w w' := by
  have H : (if a1 < 0 then (some 0) else (if a1 > 7 then (some 0) else ((dormerref01_Power.f k (wrap64 (8 * a1))).bind fun t225 => (if t225 = 0 then (none) else (some ((Int.tmod (IntKind.u64.wrap (Int.tdiv a0 t225)) 256) % 256)))))) = some r := h
  clear h
  by_cases c3 : a1 < 0
  · rw [if_pos c3] at H
    have c3b0 : decide (a1 < 0) = true := decide_eq_true c3
    clear c3
    obtain rfl := Option.some.inj H
    go_enter Try.func35, Try.ntmps35
    go_wp2
    go_ret
    exact ⟨by first | rfl | (simp; done) | (simp [*]; done), by repeat (first | exact Drawn0.refl _ | apply Drawn0.step)⟩
  · rw [if_neg c3] at H
    have c3b0 : decide (a1 < 0) = false := decide_eq_false c3
    clear c3
    by_cases c4 : a1 > 7
    · rw [if_pos c4] at H
      have c4b0 : decide (7 < a1) = true := decide_eq_true c4
      clear c4
      obtain rfl := Option.some.inj H
      go_enter Try.func35, Try.ntmps35
      go_wp2
      go_ret
      exact ⟨by first | rfl | (simp; done) | (simp [*]; done), by repeat (first | exact Drawn0.refl _ | apply Drawn0.step)⟩
    · rw [if_neg c4] at H
      have c4b0 : decide (7 < a1) = false := decide_eq_false c4
      clear c4
      replace H := Option.bind_eq_some_iff.mp H
      obtain ⟨t225, A50, H⟩ := H
      replace H : (if t225 = 0 then (none) else (some ((Int.tmod (IntKind.u64.wrap (Int.tdiv a0 t225)) 256) % 256))) = some r := H
      have A5 := Aside0.mk A50
      clear A50
      by_cases c6 : t225 = 0
      · rw [if_pos c6] at H
        exact absurd H (by simp)
      · rw [if_neg c6] at H
        have c6b0 : (t225 == 0) = false := beq_eq_false_iff_ne.mpr c6
        have c6b1 : (t225 != 0) = true := bne_iff_ne.mpr c6
        obtain rfl := Option.some.inj H
        go_enter Try.func35, Try.ntmps35
        go_wp2_with (first | ((with_reducible refine gate_callee (f := 38) rfl ?_); refine goesL_ (some 14) rfl rfl Try.func38 (by kernel_rfl) rfl #[.int .i64 (wrap64 (8 * a1))] rfl (by (try simp only [List.map_toArray, List.map_cons, List.map_nil]); first | done | rfl | (simp only [List.length_drop, List.length_take]; rfl)) ?_; (with_reducible refine (dormerref01_Power.calls k (wrap64 (8 * a1)) t225 _ A5.out).mono ?_); rintro e w' ⟨rfl, ⟨nd, rfl⟩⟩; refine ⟨_, rfl, ?_⟩))
        go_ret
        exact ⟨by first | rfl | (simp; done) | (simp [*]; done), by repeat (first | exact Drawn0.refl _ | apply Drawn0.step)⟩

end Go.Proofs.Ytlccjklljlddhaa.Fn
