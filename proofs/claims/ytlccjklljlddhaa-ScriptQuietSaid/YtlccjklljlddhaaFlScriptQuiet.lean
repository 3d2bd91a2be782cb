-- PRINTED by print.py (a twelfth state) out of the translation. Not trusted: Lean checks it.
import Derived.Test.YtlccjklljlddhaaFnx0
import Derived.Test.YtlccjklljlddhaaFnB
import Derived.Test.YtlccjklljlddhaaFnx4
import Derived.Test.YtlccjklljlddhaaFnx9
namespace Go.Proofs.Ytlccjklljlddhaa.Fn
open Go.RowKit Go.Proofs.YtlccjklljlddhaaW.PrintWords Go.Proofs.YtlccjklljlddhaaW.PrintLast Go.Proofs.YtlccjklljlddhaaW.PrintMore
attribute [local go_sem] max2_int min2_int max_two min_two max_three min_three max_four min_four   -- for this text's walks alone
set_option linter.unusedVariables false
set_option linter.unusedSimpArgs false

/-! ### dormerlaw20_ScriptQuiet: function 7 -/
mutual
def dormerlaw20_ScriptQuiet.l0 : Nat → List (S36) → Bool → List (S36) → Int → Int → Option (Bool)
  | 0, _, _, _, _, _ => none
  | k + 1, x0, x3, x4, x5, x6 => if x6 < (x0.length : Int) then (if 0 ≤ x6 then (if ((rd_T36 x0 x6).f0) = 6 then (dormerlaw20_ScriptQuiet.j1 k x0 x3 x4 x5 x6 true) else (dormerlaw20_ScriptQuiet.j1 k x0 x3 x4 x5 x6 (((rd_T36 x0 x6).f0) == 7))) else (none)) else (if x3 = true then (if x5 = (x4.length : Int) then ((script_Quiet.f k x4).bind fun t377 => ((dormerref20_List.f k t377 x4).bind fun t380 => (some t380))) else (some false)) else (some false))
def dormerlaw20_ScriptQuiet.j1 : Nat → List (S36) → Bool → List (S36) → Int → Int → Bool → Option (Bool)
  | 0, _, _, _, _, _, _ => none
  | k + 1, x0, x3, x4, x5, x6, x34 => if x34 = true then (dormerlaw20_ScriptQuiet.l0 k x0 x3 x4 x5 (wrap64 (x6 + 1))) else (if 0 ≤ x6 then (if x6 < (x0.length : Int) then (if x5 ≥ (x4.length : Int) then (some false) else (if 0 ≤ x5 then (if x5 < (x4.length : Int) then ((script_Same.f k ((rd_T36 x4 x5).f0) ((rd_T36 x4 x5).f1) ((rd_T36 x4 x5).f2) ((rd_T36 x4 x5).f3) ((rd_T36 x4 x5).f4.f0) ((rd_T36 x4 x5).f4.f1) ((rd_T36 x4 x5).f4.f2) ((rd_T36 x4 x5).f5) ((rd_T36 x0 x6).f0) ((rd_T36 x0 x6).f1) ((rd_T36 x0 x6).f2) ((rd_T36 x0 x6).f3) ((rd_T36 x0 x6).f4.f0) ((rd_T36 x0 x6).f4.f1) ((rd_T36 x0 x6).f4.f2) ([] : List Int)).bind fun t386 => (if t386 = true then (dormerlaw20_ScriptQuiet.l0 k x0 x3 x4 (wrap64 (x5 + 1)) (wrap64 (x6 + 1))) else (some false))) else (none)) else (none))) else (none)) else (none))
end
def dormerlaw20_ScriptQuiet.f (k : Nat) (l0 : List (S36)) : Option (Bool) := (dormerlaw20_awake.f).bind fun t373 => (if (l0.length : Int) > 100 then (some t373) else ((script_Quiet.f k l0).bind fun t374 => (dormerlaw20_ScriptQuiet.l0 k l0 t373 t374 0 0)))
theorem dormerlaw20_ScriptQuiet.mono_l : ∀ k, (∀ y0 y1 y2 y3 y4, LeO (dormerlaw20_ScriptQuiet.l0 k y0 y1 y2 y3 y4) (dormerlaw20_ScriptQuiet.l0 (k + 1) y0 y1 y2 y3 y4)) ∧ (∀ y0 y1 y2 y3 y4 y5, LeO (dormerlaw20_ScriptQuiet.j1 k y0 y1 y2 y3 y4 y5) (dormerlaw20_ScriptQuiet.j1 (k + 1) y0 y1 y2 y3 y4 y5))
  | 0 => ⟨fun _ _ _ _ _ r h => by simp [dormerlaw20_ScriptQuiet.l0] at h, fun _ _ _ _ _ _ r h => by simp [dormerlaw20_ScriptQuiet.j1] at h⟩
  | k + 1 => by
    obtain ⟨ih0, ih1⟩ := dormerlaw20_ScriptQuiet.mono_l k
    refine ⟨?_, ?_⟩
    · intro y0 y1 y2 y3 y4
      unfold dormerlaw20_ScriptQuiet.l0
      repeat' first
      | (with_reducible exact ih0 _ _ _ _ _)
      | (with_reducible exact ih1 _ _ _ _ _ _)
      | (with_reducible exact dormerref20_List.mono _ _ _)
      | (with_reducible exact script_Quiet.mono _ _)
      | (with_reducible exact script_Same.mono _ _ _ _ _ _ _ _ _ _ _ _ _ _ _ _ _)
      | (with_reducible exact LeO.refl _)
      | (with_reducible exact LeO.none _)
      | (with_reducible refine LeO.ite ?_ ?_)
      | (with_reducible refine LeO.bind ?_ (fun _ => ?_))
      | exact ih0 _ _ _ _ _
      | exact ih1 _ _ _ _ _ _
      | exact dormerref20_List.mono _ _ _
      | exact script_Quiet.mono _ _
      | exact script_Same.mono _ _ _ _ _ _ _ _ _ _ _ _ _ _ _ _ _
      | exact LeO.none _
      | refine LeO.ite ?_ ?_
      | refine LeO.bind ?_ (fun _ => ?_)
    · intro y0 y1 y2 y3 y4 y5
      unfold dormerlaw20_ScriptQuiet.j1
      repeat' first
      | (with_reducible exact ih0 _ _ _ _ _)
      | (with_reducible exact ih1 _ _ _ _ _ _)
      | (with_reducible exact dormerref20_List.mono _ _ _)
      | (with_reducible exact script_Quiet.mono _ _)
      | (with_reducible exact script_Same.mono _ _ _ _ _ _ _ _ _ _ _ _ _ _ _ _ _)
      | (with_reducible exact LeO.refl _)
      | (with_reducible exact LeO.none _)
      | (with_reducible refine LeO.ite ?_ ?_)
      | (with_reducible refine LeO.bind ?_ (fun _ => ?_))
      | exact ih0 _ _ _ _ _
      | exact ih1 _ _ _ _ _ _
      | exact dormerref20_List.mono _ _ _
      | exact script_Quiet.mono _ _
      | exact script_Same.mono _ _ _ _ _ _ _ _ _ _ _ _ _ _ _ _ _
      | exact LeO.none _
      | refine LeO.ite ?_ ?_
      | refine LeO.bind ?_ (fun _ => ?_)
theorem dormerlaw20_ScriptQuiet.mono : ∀ a0 k, LeO (dormerlaw20_ScriptQuiet.f k a0) (dormerlaw20_ScriptQuiet.f (k + 1) a0) := by
  intro a0 k
  obtain ⟨ih0, ih1⟩ := dormerlaw20_ScriptQuiet.mono_l k
  unfold dormerlaw20_ScriptQuiet.f
  repeat' first
      | (with_reducible exact ih0 _ _ _ _ _)
      | (with_reducible exact ih1 _ _ _ _ _ _)
      | (with_reducible exact dormerref20_List.mono _ _ _)
      | (with_reducible exact script_Quiet.mono _ _)
      | (with_reducible exact script_Same.mono _ _ _ _ _ _ _ _ _ _ _ _ _ _ _ _ _)
      | (with_reducible exact LeO.refl _)
      | (with_reducible exact LeO.none _)
      | (with_reducible refine LeO.ite ?_ ?_)
      | (with_reducible refine LeO.bind ?_ (fun _ => ?_))
      | exact ih0 _ _ _ _ _
      | exact ih1 _ _ _ _ _ _
      | exact dormerref20_List.mono _ _ _
      | exact script_Quiet.mono _ _
      | exact script_Same.mono _ _ _ _ _ _ _ _ _ _ _ _ _ _ _ _ _
      | exact LeO.none _
      | refine LeO.ite ?_ ?_
      | refine LeO.bind ?_ (fun _ => ?_)
def dormerlaw20_ScriptQuiet.T12 : Bool × List (List Nat × List Nat) := (true, [([], []), ([], []), ([1], [1]), ([0, 2], [0, 2]), ([3], [3]), ([4], [4]), ([4], [4]), ([5, 6, 4], [4, 5, 6]), ([7, 4], [4, 7]), ([4], [4]), ([8, 9, 4, 4], [4, 8, 9]), ([10, 4], [4, 10]), ([4, 11], [4, 11])])
def dormerlaw20_ScriptQuiet.B12 : List Nat := [0, 0, 2, 7, 15, 31, 31, 127, 255, 31, 1023, 2047, 4095]
theorem dormerlaw20_ScriptQuiet.tab12 : rtab .any (opsOf Try.f7 12) = dormerlaw20_ScriptQuiet.T12 := by kernel_rfl
theorem dormerlaw20_ScriptQuiet.bits12 : waitsOk dormerlaw20_ScriptQuiet.T12.2 dormerlaw20_ScriptQuiet.B12 = true := by kernel_rfl
set_option maxHeartbeats 8000000 in
set_option maxRecDepth 100000 in
theorem dormerlaw20_ScriptQuiet.calls (k : Nat) (A0 : Option Addr) (c0 : Nat) (l0 : List (S36)) (r : Bool) (w : World) (hr0 : Kd.C k36 w A0 l0.length l0) (hc0 : l0.length ≤ c0) (h : dormerlaw20_ScriptQuiet.f k l0 = some r) :
    Calls Try.prog 7 #[.slice A0 l0.length c0] w fun e w' => e = .returned (.bool r) ∧ Below w.heap.size w w' := by
  have hu36 := Try.underlying36
  have HR0 := Aside0.mk hr0
  have HC0 := Aside0.mk hc0
  clear hr0 hc0
  have HB := Aside0.mk (Below.refl w.heap.size w)
  have H : ((dormerlaw20_awake.f).bind fun t373 => (if (l0.length : Int) > 100 then (some t373) else ((script_Quiet.f k l0).bind fun t374 => (dormerlaw20_ScriptQuiet.l0 k l0 t373 t374 0 0)))) = some r := h
  clear h
  replace H := Option.bind_eq_some_iff.mp H
  obtain ⟨t373, A20, H⟩ := H
  replace H : (if (l0.length : Int) > 100 then (some t373) else ((script_Quiet.f k l0).bind fun t374 => (dormerlaw20_ScriptQuiet.l0 k l0 t373 t374 0 0))) = some r := H
  have A2 := Aside0.mk A20
  clear A20
  by_cases c3 : (l0.length : Int) > 100
  · rw [if_pos c3] at H
    have c3b0 : decide (100 < (l0.length : Int)) = true := decide_eq_true c3
    have c3b1 : decide (100 < l0.length) = true := decide_eq_true (by omega)
    clear c3
    obtain rfl := Option.some.inj H
    go_enter Try.func7, Try.ntmps7
    go_wp2_with (first | ((with_reducible refine gate_callee (f := 9) rfl ?_); refine goesL_ (some 8) rfl rfl Try.func9 (by kernel_rfl) rfl #[] rfl (by (try simp only [List.map_toArray, List.map_cons, List.map_nil]); first | done | rfl | (simp only [List.length_drop, List.length_take]; rfl)) ?_; (with_reducible refine (dormerlaw20_awake.calls  t373 _ A2.out).mono ?_); rintro e w4 ⟨rfl, hb⟩; refine ⟨_, rfl, ?_⟩; have n0_ := Aside0.mk (below_step (by repeat (first | (with_reducible first | exact HB.out | apply below_alloc | apply pw_below_drewN | apply below_drew1) | exact HB.out)) hb); clear HB; have HB := n0_; clear n0_; (try clear hb); (try clear hb2); (try clear hk); (try clear hi)))
    go_ret
    exact ⟨by first | rfl | (simp [errW_none, errW_some] <;> rfl) | (simp [*, errW_none, errW_some] <;> rfl), by repeat (first | (with_reducible first | exact HB.out | apply below_alloc | apply pw_below_drewN | apply below_drew1) | exact HB.out)⟩
  · rw [if_neg c3] at H
    have c3b0 : decide (100 < (l0.length : Int)) = false := decide_eq_false c3
    have c3b1 : decide (100 < l0.length) = false := decide_eq_false (by omega)
    clear c3
    replace H := Option.bind_eq_some_iff.mp H
    obtain ⟨t374, A50, H⟩ := H
    replace H : (dormerlaw20_ScriptQuiet.l0 k l0 t373 t374 0 0) = some r := H
    have A5 := Aside0.mk A50
    clear A50
    have H' := Aside0.mk H
    clear H
    go_enter Try.func7, Try.ntmps7
    go_wp2_with (first | ((with_reducible refine gate_callee (f := 9) rfl ?_); refine goesL_ (some 8) rfl rfl Try.func9 (by kernel_rfl) rfl #[] rfl (by (try simp only [List.map_toArray, List.map_cons, List.map_nil]); first | done | rfl | (simp only [List.length_drop, List.length_take]; rfl)) ?_; (with_reducible refine (dormerlaw20_awake.calls  t373 _ A2.out).mono ?_); rintro e w6 ⟨rfl, hb⟩; refine ⟨_, rfl, ?_⟩; have n0_ := Aside0.mk (below_step (by repeat (first | (with_reducible first | exact HB.out | apply below_alloc | apply pw_below_drewN | apply below_drew1) | exact HB.out)) hb); clear HB; have HB := n0_; clear n0_; (try clear hb); (try clear hb2); (try clear hk); (try clear hi)) | ((with_reducible refine gate_callee (f := 19) rfl ?_); refine goesL_ (some 14) rfl rfl Try.func19 (by kernel_rfl) rfl #[.slice A0 l0.length c0] rfl (by (try simp only [List.map_toArray, List.map_cons, List.map_nil]); first | done | rfl | (simp only [List.length_drop, List.length_take]; rfl)) ?_; (with_reducible refine (script_Quiet.calls k _ _ l0 t374 _ ?side1 ?side2 A5.out).mono ?_); (case side1 => repeat (first | exact (Kd.C_below HR0.out HB.out) | (with_reducible refine Kd.C_alloc ?_ _) | (with_reducible refine Kd.C_drewN ?_ _) | (with_reducible refine Kd.C_drew ?_))); (case side2 => exact HC0.out); rintro e w7 ⟨v375, rfl, ho0, hb⟩; refine ⟨_, rfl, ?_⟩; have n0_ := Aside0.mk (Kd.S_lower ho0 (below_size (by repeat (first | (with_reducible first | exact HB.out | apply below_alloc | apply pw_below_drewN | apply below_drew1) | exact HB.out)))); have n1_ := Aside0.mk (below_step (by repeat (first | (with_reducible first | exact HB.out | apply below_alloc | apply pw_below_drewN | apply below_drew1) | exact HB.out)) hb); clear HB; have HO376 := n0_; have HB := n1_; clear n0_ n1_; (try clear hb); (try clear hb2); (try clear hk); (try clear hi); (try clear ho0)))
    go_loopg [5, 6] k (fun kq v5 v6 w' => ∃ (x5_1 : Int) (x6_1 : Int), v5 = .int .i64 x5_1 ∧ v6 = .int .i64 x6_1 ∧ Aside0 (dormerlaw20_ScriptQuiet.l0 kq l0 t373 t374 x5_1 x6_1 = some r) ∧ Aside0 (kq ≤ k) ∧ Aside0 (Kd.S k36 36 w' w.heap.size (fun _ => True) v375 t374) ∧ Aside0 (Below w.heap.size w w'))
    case atStart => exact ⟨(0), (0), (by first | rfl | (simp; done) | (simp [*]; done)), (by first | rfl | (simp; done) | (simp [*]; done)), H', ⟨Nat.le_refl _⟩, ⟨by (with_reducible repeat (first | apply Kd.S_alloc | apply Kd.S_drewN | apply Kd.S_drew)); exact HO376.out⟩, ⟨by repeat (first | (with_reducible first | exact HB.out | apply below_alloc | apply pw_below_drewN | apply below_drew1) | exact HB.out)⟩⟩
    case round =>
      clear H'
      try clear c1
      try clear p2
      try clear c3
      try clear c3b0
      try clear c3b1
      try clear c7
      obtain ⟨x5_1, x6_1, rfl, rfl, HA, HK1, HO_4, HB⟩ := hrel
      cases gk with
      | zero => exact absurd HA.out (by simp [dormerlaw20_ScriptQuiet.l0])
      | succ k1 =>
        have H := HA.out
        clear HA
        simp only [dormerlaw20_ScriptQuiet.l0] at H
        by_cases c8 : x6_1 < (l0.length : Int)
        · rw [if_pos c8] at H
          have c8b0 : decide (x6_1 < (l0.length : Int)) = true := decide_eq_true c8
          clear c8
          have HC9 := Aside0.mk H
          clear H
          go_upto_region 9 with (fail)
          go_cut [34] (fun v34 wc => ∃ (kq : Nat) (x34_8 : Bool), v34 = .bool x34_8 ∧ Aside0 (dormerlaw20_ScriptQuiet.j1 kq l0 t373 t374 x5_1 x6_1 x34_8 = some r) ∧ Aside0 (kq ≤ k1) ∧ Aside0 (Kd.S k36 36 wc w.heap.size (fun _ => True) v375 t374) ∧ Aside0 (Below w.heap.size w wc))
          case first =>
            have H := HC9.out
            clear HC9
            by_cases c10 : 0 ≤ x6_1
            · rw [if_pos c10] at H
              have c10b0 : decide (0 ≤ x6_1) = true := decide_eq_true c10
              clear c10
              (first | rw [c10b0] | (simp only [i64_w, i32_w]; rw [c10b0]) | skip)
              by_cases c11 : ((rd_T36 l0 x6_1).f0) = 6
              · rw [if_pos c11] at H
                have c11b0 : (((rd_T36 l0 x6_1).f0) == 6) = true := beq_iff_eq.mpr c11
                have c11b1 : (((rd_T36 l0 x6_1).f0) != 6) = false := bne_eq_false_iff_eq.mpr c11
                clear c11
                have H' := Aside0.mk H
                clear H
                have p381 : 0 ≤ (x6_1 : Int) := of_decide_eq_true (by first | (with_reducible assumption) | assumption)
                have q381 : x6_1 < (l0.length : Int) := of_decide_eq_true (by first | (with_reducible assumption) | assumption)
                obtain ⟨ad381, A381_7, c381_7, e381, hx381_0, hx381_1, hx381_2, hx381_3, hx381_4, hx381_5, hx381_6, hx381_7, hl381_7, hi381_7⟩ := at_T36 HR0.out x6_1 p381 q381
                cases e381
                replace hx381_0 := (HB.out.cell (World.block_lt_of_cell? w _ hx381_0)).trans hx381_0
                replace hx381_1 := (HB.out.cell (World.block_lt_of_cell? w _ hx381_1)).trans hx381_1
                replace hx381_2 := (HB.out.cell (World.block_lt_of_cell? w _ hx381_2)).trans hx381_2
                replace hx381_3 := (HB.out.cell (World.block_lt_of_cell? w _ hx381_3)).trans hx381_3
                replace hx381_4 := (HB.out.cell (World.block_lt_of_cell? w _ hx381_4)).trans hx381_4
                replace hx381_5 := (HB.out.cell (World.block_lt_of_cell? w _ hx381_5)).trans hx381_5
                replace hx381_6 := (HB.out.cell (World.block_lt_of_cell? w _ hx381_6)).trans hx381_6
                replace hx381_7 := (HB.out.cell (World.block_lt_of_cell? w _ hx381_7)).trans hx381_7
                have HR381_7 := Aside0.mk hi381_7
                have HC381_7 := Aside0.mk hl381_7
                clear hi381_7 hl381_7
                replace p381 := eq_true p381
                replace q381 := eq_true q381
                go_wp2
                go_meet
                case rel => exact ⟨_, (true), (by first | rfl | (simp; done) | (simp [*]; done)), H', ⟨by have := HK1.out; first | omega | exact Nat.le_refl _⟩, ⟨by (with_reducible repeat (first | apply Kd.S_alloc | apply Kd.S_drewN | apply Kd.S_drew)); exact HO_4.out⟩, ⟨by repeat (first | (with_reducible first | exact HB.out | apply below_alloc | apply pw_below_drewN | apply below_drew1) | exact HB.out)⟩⟩
              · rw [if_neg c11] at H
                have c11b0 : (((rd_T36 l0 x6_1).f0) == 6) = false := beq_eq_false_iff_ne.mpr c11
                have c11b1 : (((rd_T36 l0 x6_1).f0) != 6) = true := bne_iff_ne.mpr c11
                have H' := Aside0.mk H
                clear H
                have p381 : 0 ≤ (x6_1 : Int) := of_decide_eq_true (by first | (with_reducible assumption) | assumption)
                have q381 : x6_1 < (l0.length : Int) := of_decide_eq_true (by first | (with_reducible assumption) | assumption)
                obtain ⟨ad381, A381_7, c381_7, e381, hx381_0, hx381_1, hx381_2, hx381_3, hx381_4, hx381_5, hx381_6, hx381_7, hl381_7, hi381_7⟩ := at_T36 HR0.out x6_1 p381 q381
                cases e381
                replace hx381_0 := (HB.out.cell (World.block_lt_of_cell? w _ hx381_0)).trans hx381_0
                replace hx381_1 := (HB.out.cell (World.block_lt_of_cell? w _ hx381_1)).trans hx381_1
                replace hx381_2 := (HB.out.cell (World.block_lt_of_cell? w _ hx381_2)).trans hx381_2
                replace hx381_3 := (HB.out.cell (World.block_lt_of_cell? w _ hx381_3)).trans hx381_3
                replace hx381_4 := (HB.out.cell (World.block_lt_of_cell? w _ hx381_4)).trans hx381_4
                replace hx381_5 := (HB.out.cell (World.block_lt_of_cell? w _ hx381_5)).trans hx381_5
                replace hx381_6 := (HB.out.cell (World.block_lt_of_cell? w _ hx381_6)).trans hx381_6
                replace hx381_7 := (HB.out.cell (World.block_lt_of_cell? w _ hx381_7)).trans hx381_7
                have HR381_7 := Aside0.mk hi381_7
                have HC381_7 := Aside0.mk hl381_7
                clear hi381_7 hl381_7
                replace p381 := eq_true p381
                replace q381 := eq_true q381
                have p382 : 0 ≤ (x6_1 : Int) := of_decide_eq_true (by first | (with_reducible assumption) | assumption)
                have q382 : x6_1 < (l0.length : Int) := of_decide_eq_true (by first | (with_reducible assumption) | assumption)
                obtain ⟨ad382, A382_7, c382_7, e382, hx382_0, hx382_1, hx382_2, hx382_3, hx382_4, hx382_5, hx382_6, hx382_7, hl382_7, hi382_7⟩ := at_T36 HR0.out x6_1 p382 q382
                obtain rfl : ad381 = ad382 := (by injection e382)
                replace hx382_0 := (HB.out.cell (World.block_lt_of_cell? w _ hx382_0)).trans hx382_0
                replace hx382_1 := (HB.out.cell (World.block_lt_of_cell? w _ hx382_1)).trans hx382_1
                replace hx382_2 := (HB.out.cell (World.block_lt_of_cell? w _ hx382_2)).trans hx382_2
                replace hx382_3 := (HB.out.cell (World.block_lt_of_cell? w _ hx382_3)).trans hx382_3
                replace hx382_4 := (HB.out.cell (World.block_lt_of_cell? w _ hx382_4)).trans hx382_4
                replace hx382_5 := (HB.out.cell (World.block_lt_of_cell? w _ hx382_5)).trans hx382_5
                replace hx382_6 := (HB.out.cell (World.block_lt_of_cell? w _ hx382_6)).trans hx382_6
                replace hx382_7 := (HB.out.cell (World.block_lt_of_cell? w _ hx382_7)).trans hx382_7
                have HR382_7 := Aside0.mk hi382_7
                have HC382_7 := Aside0.mk hl382_7
                clear hi382_7 hl382_7
                replace p382 := eq_true p382
                replace q382 := eq_true q382
                have ea_ := Option.some.inj (hx381_7.symm.trans hx382_7)
                injection ea_ with ea_ en_ ec_
                subst ea_
                subst ec_
                clear en_
                go_wp2
                go_meet
                case rel => exact ⟨_, ((((rd_T36 l0 x6_1).f0) == 7)), (by first | rfl | (simp; done) | (simp [*]; done)), H', ⟨by have := HK1.out; first | omega | exact Nat.le_refl _⟩, ⟨by (with_reducible repeat (first | apply Kd.S_alloc | apply Kd.S_drewN | apply Kd.S_drew)); exact HO_4.out⟩, ⟨by repeat (first | (with_reducible first | exact HB.out | apply below_alloc | apply pw_below_drewN | apply below_drew1) | exact HB.out)⟩⟩
            · rw [if_neg c10] at H
              exact absurd H (by simp)
          case rest =>
            clear HC9
            try clear c1
            try clear p2
            try clear c3
            try clear c3b0
            try clear c3b1
            try clear p3
            try clear q3
            try clear hx3
            try clear c7
            try clear c8
            try clear c8b0
            try clear c9
            try clear c10
            try clear c10b0
            try clear c11
            try clear c11b0
            try clear c11b1
            try clear hx381_0
            try clear hx381_1
            try clear hx381_2
            try clear hx381_3
            try clear hx381_4
            try clear hx381_5
            try clear hx381_6
            try clear hx381_7
            try clear hx382_0
            try clear hx382_1
            try clear hx382_2
            try clear hx382_3
            try clear hx382_4
            try clear hx382_5
            try clear hx382_6
            try clear hx382_7
            try clear p2
            try clear p381
            try clear p382
            try clear q381
            try clear q382
            obtain ⟨kq, x34_8, rfl, HA, HJ8, HO_4, HB⟩ := hcut
            cases kq with
            | zero => exact absurd HA.out (by simp [dormerlaw20_ScriptQuiet.j1])
            | succ kj8 =>
              have H := HA.out
              clear HA
              simp only [dormerlaw20_ScriptQuiet.j1] at H
              by_cases c12 : x34_8 = true
              · subst c12
                have H1 : (dormerlaw20_ScriptQuiet.l0 kj8 l0 t373 t374 x5_1 (wrap64 (x6_1 + 1))) = some r := by rw [if_pos rfl] at H; exact H
                clear H
                have H := H1
                clear H1
                have H' := Aside0.mk H
                clear H
                go_wp2
                go_roundg kj8
                case measure => have := HK1.out; have := HJ8.out; omega
                case rel => exact ⟨(x5_1), (wrap64 (x6_1 + 1)), (by first | rfl | (simp; done) | (simp [*]; done)), (by first | rfl | (simp; done) | (simp [*]; done)), H', ⟨by have := HK1.out; have := HJ8.out; omega⟩, ⟨by (with_reducible repeat (first | apply Kd.S_alloc | apply Kd.S_drewN | apply Kd.S_drew)); exact HO_4.out⟩, ⟨by repeat (first | (with_reducible first | exact HB.out | apply below_alloc | apply pw_below_drewN | apply below_drew1) | exact HB.out)⟩⟩
              · replace c12 := Bool.eq_false_iff.mpr c12
                subst c12
                have H1 : (if 0 ≤ x6_1 then (if x6_1 < (l0.length : Int) then (if x5_1 ≥ (t374.length : Int) then (some false) else (if 0 ≤ x5_1 then (if x5_1 < (t374.length : Int) then ((script_Same.f kj8 ((rd_T36 t374 x5_1).f0) ((rd_T36 t374 x5_1).f1) ((rd_T36 t374 x5_1).f2) ((rd_T36 t374 x5_1).f3) ((rd_T36 t374 x5_1).f4.f0) ((rd_T36 t374 x5_1).f4.f1) ((rd_T36 t374 x5_1).f4.f2) ((rd_T36 t374 x5_1).f5) ((rd_T36 l0 x6_1).f0) ((rd_T36 l0 x6_1).f1) ((rd_T36 l0 x6_1).f2) ((rd_T36 l0 x6_1).f3) ((rd_T36 l0 x6_1).f4.f0) ((rd_T36 l0 x6_1).f4.f1) ((rd_T36 l0 x6_1).f4.f2) ([] : List Int)).bind fun t386 => (if t386 = true then (dormerlaw20_ScriptQuiet.l0 kj8 l0 t373 t374 (wrap64 (x5_1 + 1)) (wrap64 (x6_1 + 1))) else (some false))) else (none)) else (none))) else (none)) else (none)) = some r := by rw [if_neg (show ¬ (false = true) by decide)] at H; exact H
                clear H
                have H := H1
                clear H1
                by_cases c13 : 0 ≤ x6_1
                · rw [if_pos c13] at H
                  have c13b0 : decide (0 ≤ x6_1) = true := decide_eq_true c13
                  clear c13
                  by_cases c14 : x6_1 < (l0.length : Int)
                  · rw [if_pos c14] at H
                    have c14b0 : decide (x6_1 < (l0.length : Int)) = true := decide_eq_true c14
                    clear c14
                    by_cases c15 : x5_1 ≥ (t374.length : Int)
                    · rw [if_pos c15] at H
                      have c15b0 : decide ((t374.length : Int) ≤ x5_1) = true := decide_eq_true c15
                      clear c15
                      obtain rfl := Option.some.inj H
                      have p383 : 0 ≤ (x6_1 : Int) := of_decide_eq_true (by first | (with_reducible assumption) | assumption)
                      have q383 : x6_1 < (l0.length : Int) := of_decide_eq_true (by first | (with_reducible assumption) | assumption)
                      obtain ⟨ad383, A383_7, c383_7, e383, hx383_0, hx383_1, hx383_2, hx383_3, hx383_4, hx383_5, hx383_6, hx383_7, hl383_7, hi383_7⟩ := at_T36 HR0.out x6_1 p383 q383
                      cases e383
                      replace hx383_0 := (HB.out.cell (World.block_lt_of_cell? w _ hx383_0)).trans hx383_0
                      replace hx383_1 := (HB.out.cell (World.block_lt_of_cell? w _ hx383_1)).trans hx383_1
                      replace hx383_2 := (HB.out.cell (World.block_lt_of_cell? w _ hx383_2)).trans hx383_2
                      replace hx383_3 := (HB.out.cell (World.block_lt_of_cell? w _ hx383_3)).trans hx383_3
                      replace hx383_4 := (HB.out.cell (World.block_lt_of_cell? w _ hx383_4)).trans hx383_4
                      replace hx383_5 := (HB.out.cell (World.block_lt_of_cell? w _ hx383_5)).trans hx383_5
                      replace hx383_6 := (HB.out.cell (World.block_lt_of_cell? w _ hx383_6)).trans hx383_6
                      replace hx383_7 := (HB.out.cell (World.block_lt_of_cell? w _ hx383_7)).trans hx383_7
                      have HR383_7 := Aside0.mk hi383_7
                      have HC383_7 := Aside0.mk hl383_7
                      clear hi383_7 hl383_7
                      replace p383 := eq_true p383
                      replace q383 := eq_true q383
                      try go_wp2_with (first | ((with_reducible refine gate_dst (N := 7) rfl ?_); (try (refine gate_guard (by rfl) ?_; dsimp only)); refine box_event ?hg (N := 7) ?hd (cs := #[.int .i64 0, .int .u64 0, .int .i64 0, .int .u64 0, .int .i64 0, .bool false, .bool false, .slice none 0 0]) (t := 36) ?hr ?_; (case hd => rfl); (case hg => rfl); (case hr => first | (go_simp; done) | (go_simp; rfl)); intro gb384 hg w16 hbox hb; have n0_ := Aside0.mk (Kd.S_below (Kd.S_elderB (by (with_reducible repeat (first | apply Kd.S_alloc | apply Kd.S_drewN | apply Kd.S_drew)); exact HO_4.out) gb384 (Nat.le_of_eq hg.symm)) hb); have n1_ := Aside0.mk (below_step (by repeat (first | (with_reducible first | exact HB.out | apply below_alloc | apply pw_below_drewN | apply below_drew1) | exact HB.out)) hb); have n2_ := Aside0.mk (hbox); have n3_ := Aside0.mk ((by rw [hg]; exact (below_size (by repeat (first | (with_reducible first | exact HB.out | apply below_alloc | apply pw_below_drewN | apply below_drew1) | exact HB.out))) : w.heap.size ≤ gb384)); have n4_ := Aside0.mk ((by rw [hg]; exact (below_size (by repeat (first | (with_reducible first | exact HB.out | apply below_alloc | apply pw_below_drewN | apply below_drew1) | exact HB.out))) : w.heap.size ≤ gb384)); clear HO_4; clear HB; have HO_4 := n0_; have HB := n1_; have BK384 := n2_; have GW384 := n3_; have GE384 := n4_; clear n0_ n1_ n2_ n3_ n4_; clear hb hbox hg; have hcz17_0 : w16.cell? ⟨gb384, 0, none⟩ = some (.int .i64 0) := (blk_cell BK384.out 0).trans rfl; have hcz17_1 : w16.cell? ⟨gb384, 1, none⟩ = some (.int .u64 0) := (blk_cell BK384.out 1).trans rfl; have hcz17_2 : w16.cell? ⟨gb384, 2, none⟩ = some (.int .i64 0) := (blk_cell BK384.out 2).trans rfl; have hcz17_3 : w16.cell? ⟨gb384, 3, none⟩ = some (.int .u64 0) := (blk_cell BK384.out 3).trans rfl; have hcz17_4 : w16.cell? ⟨gb384, 4, none⟩ = some (.int .i64 0) := (blk_cell BK384.out 4).trans rfl; have hcz17_5 : w16.cell? ⟨gb384, 5, none⟩ = some (.bool false) := (blk_cell BK384.out 5).trans rfl; have hcz17_6 : w16.cell? ⟨gb384, 6, none⟩ = some (.bool false) := (blk_cell BK384.out 6).trans rfl; have hcz17_7 : w16.cell? ⟨gb384, 7, none⟩ = some (.slice none 0 0) := (blk_cell BK384.out 7).trans rfl; have hfz17_0 := blk_frozen BK384.out 0; have hfz17_1 := blk_frozen BK384.out 1; have hfz17_2 := blk_frozen BK384.out 2; have hfz17_3 := blk_frozen BK384.out 3; have hfz17_4 := blk_frozen BK384.out 4; have hfz17_5 := blk_frozen BK384.out 5; have hfz17_6 := blk_frozen BK384.out 6; have hfz17_7 := blk_frozen BK384.out 7))
                      have n0_ : Aside0 (Kd.S k36 36 (((((((((w16.setCell ⟨gb384, 0, none⟩ (.int .i64 ((rd_T36 l0 x6_1).f0))).setCell ⟨gb384, 1, none⟩ (.int .u64 ((rd_T36 l0 x6_1).f1))).setCell ⟨gb384, 2, none⟩ (.int .i64 ((rd_T36 l0 x6_1).f2))).setCell ⟨gb384, 3, none⟩ (.int .u64 ((rd_T36 l0 x6_1).f3))).setCell ⟨gb384, 4, none⟩ (.int .i64 ((rd_T36 l0 x6_1).f4.f0))).setCell ⟨gb384, 5, none⟩ (.bool ((rd_T36 l0 x6_1).f4.f1))).setCell ⟨gb384, 6, none⟩ (.bool ((rd_T36 l0 x6_1).f4.f2))).setCell ⟨gb384, 7, none⟩ (.slice A383_7 ((rd_T36 l0 x6_1).f5).length c383_7)).setCell ⟨gb384, 7, none⟩ (.slice none 0 0)) w.heap.size (fun k_ => k_ ≠ gb384) v375 t374) := ⟨by (with_reducible repeat (first | apply Kd.S_alloc | apply Kd.S_drewN | apply Kd.S_drew)); exact Kd.S_mono (Kd.S_far (p := ⟨gb384, 7, none⟩) (Kd.S_far (p := ⟨gb384, 7, none⟩) (Kd.S_far (p := ⟨gb384, 6, none⟩) (Kd.S_far (p := ⟨gb384, 5, none⟩) (Kd.S_far (p := ⟨gb384, 4, none⟩) (Kd.S_far (p := ⟨gb384, 3, none⟩) (Kd.S_far (p := ⟨gb384, 2, none⟩) (Kd.S_far (p := ⟨gb384, 1, none⟩) (Kd.S_far (p := ⟨gb384, 0, none⟩) (Kd.S_mono HO_4.out (fun k_ hk => (⟨hk, hk.2⟩ : _ ∧ k_ ≠ gb384))) (fun _ hk => hk.2) (.int .i64 ((rd_T36 l0 x6_1).f0))) (fun _ hk => hk.2) (.int .u64 ((rd_T36 l0 x6_1).f1))) (fun _ hk => hk.2) (.int .i64 ((rd_T36 l0 x6_1).f2))) (fun _ hk => hk.2) (.int .u64 ((rd_T36 l0 x6_1).f3))) (fun _ hk => hk.2) (.int .i64 ((rd_T36 l0 x6_1).f4.f0))) (fun _ hk => hk.2) (.bool ((rd_T36 l0 x6_1).f4.f1))) (fun _ hk => hk.2) (.bool ((rd_T36 l0 x6_1).f4.f2))) (fun _ hk => hk.2) (.slice A383_7 ((rd_T36 l0 x6_1).f5).length c383_7)) (fun _ hk => hk.2) (.slice none 0 0)) (fun _ hk => hk.1.2)⟩
                      have n1_ : Aside0 ((((((((((w16.setCell ⟨gb384, 0, none⟩ (.int .i64 ((rd_T36 l0 x6_1).f0))).setCell ⟨gb384, 1, none⟩ (.int .u64 ((rd_T36 l0 x6_1).f1))).setCell ⟨gb384, 2, none⟩ (.int .i64 ((rd_T36 l0 x6_1).f2))).setCell ⟨gb384, 3, none⟩ (.int .u64 ((rd_T36 l0 x6_1).f3))).setCell ⟨gb384, 4, none⟩ (.int .i64 ((rd_T36 l0 x6_1).f4.f0))).setCell ⟨gb384, 5, none⟩ (.bool ((rd_T36 l0 x6_1).f4.f1))).setCell ⟨gb384, 6, none⟩ (.bool ((rd_T36 l0 x6_1).f4.f2))).setCell ⟨gb384, 7, none⟩ (.slice A383_7 ((rd_T36 l0 x6_1).f5).length c383_7)).setCell ⟨gb384, 7, none⟩ (.slice none 0 0)).heap[gb384]? = some (.cells #[.int .i64 ((rd_T36 l0 x6_1).f0), .int .u64 ((rd_T36 l0 x6_1).f1), .int .i64 ((rd_T36 l0 x6_1).f2), .int .u64 ((rd_T36 l0 x6_1).f3), .int .i64 ((rd_T36 l0 x6_1).f4.f0), .bool ((rd_T36 l0 x6_1).f4.f1), .bool ((rd_T36 l0 x6_1).f4.f2), .slice none 0 0] 36 (0, 0))) := ⟨by (with_reducible repeat (first | refine blk_drewN ?_ _ | refine blk_drew ?_ | refine blk_alloc ?_ _)); refine blk_put (cs := #[.int .i64 ((rd_T36 l0 x6_1).f0), .int .u64 ((rd_T36 l0 x6_1).f1), .int .i64 ((rd_T36 l0 x6_1).f2), .int .u64 ((rd_T36 l0 x6_1).f3), .int .i64 ((rd_T36 l0 x6_1).f4.f0), .bool ((rd_T36 l0 x6_1).f4.f1), .bool ((rd_T36 l0 x6_1).f4.f2), .slice A383_7 ((rd_T36 l0 x6_1).f5).length c383_7]) ?_ 7 _ rfl; (with_reducible repeat (first | refine blk_drewN ?_ _ | refine blk_drew ?_ | refine blk_alloc ?_ _)); refine blk_put (cs := #[.int .i64 ((rd_T36 l0 x6_1).f0), .int .u64 ((rd_T36 l0 x6_1).f1), .int .i64 ((rd_T36 l0 x6_1).f2), .int .u64 ((rd_T36 l0 x6_1).f3), .int .i64 ((rd_T36 l0 x6_1).f4.f0), .bool ((rd_T36 l0 x6_1).f4.f1), .bool ((rd_T36 l0 x6_1).f4.f2), .slice none 0 0]) ?_ 7 _ rfl; (with_reducible repeat (first | refine blk_drewN ?_ _ | refine blk_drew ?_ | refine blk_alloc ?_ _)); refine blk_put (cs := #[.int .i64 ((rd_T36 l0 x6_1).f0), .int .u64 ((rd_T36 l0 x6_1).f1), .int .i64 ((rd_T36 l0 x6_1).f2), .int .u64 ((rd_T36 l0 x6_1).f3), .int .i64 ((rd_T36 l0 x6_1).f4.f0), .bool ((rd_T36 l0 x6_1).f4.f1), .bool false, .slice none 0 0]) ?_ 6 _ rfl; (with_reducible repeat (first | refine blk_drewN ?_ _ | refine blk_drew ?_ | refine blk_alloc ?_ _)); refine blk_put (cs := #[.int .i64 ((rd_T36 l0 x6_1).f0), .int .u64 ((rd_T36 l0 x6_1).f1), .int .i64 ((rd_T36 l0 x6_1).f2), .int .u64 ((rd_T36 l0 x6_1).f3), .int .i64 ((rd_T36 l0 x6_1).f4.f0), .bool false, .bool false, .slice none 0 0]) ?_ 5 _ rfl; (with_reducible repeat (first | refine blk_drewN ?_ _ | refine blk_drew ?_ | refine blk_alloc ?_ _)); refine blk_put (cs := #[.int .i64 ((rd_T36 l0 x6_1).f0), .int .u64 ((rd_T36 l0 x6_1).f1), .int .i64 ((rd_T36 l0 x6_1).f2), .int .u64 ((rd_T36 l0 x6_1).f3), .int .i64 0, .bool false, .bool false, .slice none 0 0]) ?_ 4 _ rfl; (with_reducible repeat (first | refine blk_drewN ?_ _ | refine blk_drew ?_ | refine blk_alloc ?_ _)); refine blk_put (cs := #[.int .i64 ((rd_T36 l0 x6_1).f0), .int .u64 ((rd_T36 l0 x6_1).f1), .int .i64 ((rd_T36 l0 x6_1).f2), .int .u64 0, .int .i64 0, .bool false, .bool false, .slice none 0 0]) ?_ 3 _ rfl; (with_reducible repeat (first | refine blk_drewN ?_ _ | refine blk_drew ?_ | refine blk_alloc ?_ _)); refine blk_put (cs := #[.int .i64 ((rd_T36 l0 x6_1).f0), .int .u64 ((rd_T36 l0 x6_1).f1), .int .i64 0, .int .u64 0, .int .i64 0, .bool false, .bool false, .slice none 0 0]) ?_ 2 _ rfl; (with_reducible repeat (first | refine blk_drewN ?_ _ | refine blk_drew ?_ | refine blk_alloc ?_ _)); refine blk_put (cs := #[.int .i64 ((rd_T36 l0 x6_1).f0), .int .u64 0, .int .i64 0, .int .u64 0, .int .i64 0, .bool false, .bool false, .slice none 0 0]) ?_ 1 _ rfl; (with_reducible repeat (first | refine blk_drewN ?_ _ | refine blk_drew ?_ | refine blk_alloc ?_ _)); refine blk_put (cs := #[.int .i64 0, .int .u64 0, .int .i64 0, .int .u64 0, .int .i64 0, .bool false, .bool false, .slice none 0 0]) ?_ 0 _ rfl; (with_reducible repeat (first | refine blk_drewN ?_ _ | refine blk_drew ?_ | refine blk_alloc ?_ _)); exact BK384.out⟩
                      have n2_ : Aside0 (Below w.heap.size w (((((((((w16.setCell ⟨gb384, 0, none⟩ (.int .i64 ((rd_T36 l0 x6_1).f0))).setCell ⟨gb384, 1, none⟩ (.int .u64 ((rd_T36 l0 x6_1).f1))).setCell ⟨gb384, 2, none⟩ (.int .i64 ((rd_T36 l0 x6_1).f2))).setCell ⟨gb384, 3, none⟩ (.int .u64 ((rd_T36 l0 x6_1).f3))).setCell ⟨gb384, 4, none⟩ (.int .i64 ((rd_T36 l0 x6_1).f4.f0))).setCell ⟨gb384, 5, none⟩ (.bool ((rd_T36 l0 x6_1).f4.f1))).setCell ⟨gb384, 6, none⟩ (.bool ((rd_T36 l0 x6_1).f4.f2))).setCell ⟨gb384, 7, none⟩ (.slice A383_7 ((rd_T36 l0 x6_1).f5).length c383_7)).setCell ⟨gb384, 7, none⟩ (.slice none 0 0))) := ⟨by repeat (first | (with_reducible first | exact HB.out | apply below_alloc | apply pw_below_drewN | apply below_drew1 | refine below_set ?_ GE384.out) | exact HB.out)⟩
                      (try clear HO_4)
                      (try clear BK384)
                      (try clear HB)
                      generalize (((((((((w16.setCell ⟨gb384, 0, none⟩ (.int .i64 ((rd_T36 l0 x6_1).f0))).setCell ⟨gb384, 1, none⟩ (.int .u64 ((rd_T36 l0 x6_1).f1))).setCell ⟨gb384, 2, none⟩ (.int .i64 ((rd_T36 l0 x6_1).f2))).setCell ⟨gb384, 3, none⟩ (.int .u64 ((rd_T36 l0 x6_1).f3))).setCell ⟨gb384, 4, none⟩ (.int .i64 ((rd_T36 l0 x6_1).f4.f0))).setCell ⟨gb384, 5, none⟩ (.bool ((rd_T36 l0 x6_1).f4.f1))).setCell ⟨gb384, 6, none⟩ (.bool ((rd_T36 l0 x6_1).f4.f2))).setCell ⟨gb384, 7, none⟩ (.slice A383_7 ((rd_T36 l0 x6_1).f5).length c383_7)).setCell ⟨gb384, 7, none⟩ (.slice none 0 0)) = w18 at n0_ n1_ n2_ ⊢
                      have HO_4 := n0_
                      have BK384 := n1_
                      have HB := n2_
                      clear n0_ n1_ n2_
                      have n0_ := Aside0.mk (Kd.S_drew HO_4.out)
                      have n1_ := Aside0.mk (blk_drew BK384.out)
                      have n2_ := Aside0.mk (below_drew1 HB.out)
                      clear HO_4
                      clear BK384
                      clear HB
                      have HO_4 := n0_
                      have BK384 := n1_
                      have HB := n2_
                      clear n0_ n1_ n2_
                      obtain ⟨Ao20, co20, eo20⟩ := Kd.S_slice HO_4.out
                      (first | subst eo20 | (injection eo20 with f1_ f2_ f3_; have f4_ := f1_.symm; have f5_ := f3_.symm; clear f1_ f2_ f3_; subst f4_; subst f5_))
                      refine start_ (n := 13) (S := fun w' => True) (ds := []) #[false, false, false, false, false, false, false, false, false, false, false, false, false] (by kernel_rfl) rfl rfl trivial (fun hHeld => ?_); refine with_tabW dormerlaw20_ScriptQuiet.tab12 dormerlaw20_ScriptQuiet.bits12 (fun HT_ HW_ => ?_)
                      generalize w18.drew = w19 at HO_4 BK384 HB hHeld ⊢
                      refine pure_ (i := 0) (N := some 40) (v := ?_) (a' := ?_) #[true, false, false, false, false, false, false, false, false, false, false, false, false] rfl rfl (any_of HT_.out (by kernel_rfl)) (fun _ _ _ h => h) (Or.inl ⟨by rfl, ?_⟩) ?_ ?_
                      rotate_left
                      · intro w'
                        go_simp
                        with_reducible rfl
                      rotate_left
                      · simp only [Act.put, List.setIfInBounds_toArray, List.set_cons_zero, List.set_cons_succ, i64_w, i32_w]
                        rfl
                      refine pure_ (i := 1) (N := some 41) (v := ?_) (a' := ?_) #[true, true, false, false, false, false, false, false, false, false, false, false, false] rfl rfl (any_of HT_.out (by kernel_rfl)) (fun _ _ _ h => h) (Or.inl ⟨by rfl, ?_⟩) ?_ ?_
                      rotate_left
                      · intro w'
                        go_simp
                        with_reducible rfl
                      rotate_left
                      · simp only [Act.put, List.setIfInBounds_toArray, List.set_cons_zero, List.set_cons_succ, i64_w, i32_w]
                        rfl
                      refine pure_ (i := 2) (N := some 42) (v := ?_) (a' := ?_) #[true, true, true, false, false, false, false, false, false, false, false, false, false] rfl rfl (any_of HT_.out (by kernel_rfl)) (fun _ _ _ h => h) (Or.inl ⟨by rfl, ?_⟩) ?_ ?_
                      rotate_left
                      · intro w'
                        go_simp
                        with_reducible rfl
                      rotate_left
                      · simp only [Act.put, List.setIfInBounds_toArray, List.set_cons_zero, List.set_cons_succ, i64_w, i32_w]
                        rfl
                      refine pure_ (i := 3) (N := some 43) (v := ?_) (a' := ?_) #[true, true, true, true, false, false, false, false, false, false, false, false, false] rfl rfl (any_of HT_.out (by kernel_rfl)) (fun _ _ _ h => h) (Or.inl ⟨by rfl, ?_⟩) ?_ ?_
                      rotate_left
                      · intro w'
                        go_simp
                        with_reducible rfl
                      rotate_left
                      · simp only [Act.put, List.setIfInBounds_toArray, List.set_cons_zero, List.set_cons_succ, i64_w, i32_w]
                        rfl
                      refine pure_ (i := 4) (N := some 44) (v := ?_) (a' := ?_) #[true, true, true, true, true, false, false, false, false, false, false, false, false] rfl rfl (any_of HT_.out (by kernel_rfl)) (fun _ _ _ h => h) (Or.inl ⟨by rfl, ?_⟩) ?_ ?_
                      rotate_left
                      · intro w'
                        go_simp
                        with_reducible rfl
                      rotate_left
                      · simp only [Act.put, List.setIfInBounds_toArray, List.set_cons_zero, List.set_cons_succ, i64_w, i32_w]
                        rfl
                      refine pure_ (i := 5) (N := some 45) (v := undef) (a' := ?_) #[true, true, true, true, true, true, false, false, false, false, false, false, false] rfl rfl (any_of HT_.out (by kernel_rfl)) (fun _ _ _ h => h) (Or.inr ⟨by rfl, rfl⟩) ?_ ?_
                      rotate_left
                      · simp only [Act.put, List.setIfInBounds_toArray, List.set_cons_zero, List.set_cons_succ, i64_w, i32_w]
                        rfl
                      refine pure_ (i := 6) (N := some 46) (v := undef) (a' := ?_) #[true, true, true, true, true, true, true, false, false, false, false, false, false] rfl rfl (any_of HT_.out (by kernel_rfl)) (fun _ _ _ h => h) (Or.inr ⟨by rfl, rfl⟩) ?_ ?_
                      rotate_left
                      · simp only [Act.put, List.setIfInBounds_toArray, List.set_cons_zero, List.set_cons_succ, i64_w, i32_w]
                        rfl
                      refine pure_ (i := 7) (N := some 47) (v := undef) (a' := ?_) #[true, true, true, true, true, true, true, true, false, false, false, false, false] rfl rfl (any_of HT_.out (by kernel_rfl)) (fun _ _ _ h => h) (Or.inr ⟨by rfl, rfl⟩) ?_ ?_
                      rotate_left
                      · simp only [Act.put, List.setIfInBounds_toArray, List.set_cons_zero, List.set_cons_succ, i64_w, i32_w]
                        rfl
                      refine pure_ (i := 8) (N := some 48) (v := undef) (a' := ?_) #[true, true, true, true, true, true, true, true, true, false, false, false, false] rfl rfl (any_of HT_.out (by kernel_rfl)) (fun _ _ _ h => h) (Or.inr ⟨by rfl, rfl⟩) ?_ ?_
                      rotate_left
                      · simp only [Act.put, List.setIfInBounds_toArray, List.set_cons_zero, List.set_cons_succ, i64_w, i32_w]
                        rfl
                      refine pure_ (i := 9) (N := some 49) (v := undef) (a' := ?_) #[true, true, true, true, true, true, true, true, true, true, false, false, false] rfl rfl (any_of HT_.out (by kernel_rfl)) (fun _ _ _ h => h) (Or.inr ⟨by rfl, rfl⟩) ?_ ?_
                      rotate_left
                      · simp only [Act.put, List.setIfInBounds_toArray, List.set_cons_zero, List.set_cons_succ, i64_w, i32_w]
                        rfl
                      refine pure_ (i := 10) (N := some 50) (v := undef) (a' := ?_) #[true, true, true, true, true, true, true, true, true, true, true, false, false] rfl rfl (any_of HT_.out (by kernel_rfl)) (fun _ _ _ h => h) (Or.inr ⟨by rfl, rfl⟩) ?_ ?_
                      rotate_left
                      · simp only [Act.put, List.setIfInBounds_toArray, List.set_cons_zero, List.set_cons_succ, i64_w, i32_w]
                        rfl
                      refine pure_ (i := 11) (N := some 51) (v := undef) (a' := ?_) #[true, true, true, true, true, true, true, true, true, true, true, true, false] rfl rfl (any_of HT_.out (by kernel_rfl)) (fun _ _ _ h => h) (Or.inr ⟨by rfl, rfl⟩) ?_ ?_
                      rotate_left
                      · simp only [Act.put, List.setIfInBounds_toArray, List.set_cons_zero, List.set_cons_succ, i64_w, i32_w]
                        rfl
                      refine pure_ (i := 12) (N := some 52) (v := ?_) (a' := ?_) #[true, true, true, true, true, true, true, true, true, true, true, true, true] rfl rfl (any_of HT_.out (by kernel_rfl)) (fun _ _ _ h => h) (Or.inl ⟨by rfl, ?_⟩) ?_ ?_
                      rotate_left
                      · intro w'
                        go_simp
                        with_reducible rfl
                      rotate_left
                      · simp only [Act.put, List.setIfInBounds_toArray, List.set_cons_zero, List.set_cons_succ, i64_w, i32_w]
                        rfl
                      refine done_ (done_of HT_.out (by kernel_rfl)) ?_
                      try go_wp2
                      go_ret
                      exact ⟨by first | rfl | (simp [errW_none, errW_some] <;> rfl) | (simp [*, errW_none, errW_some] <;> rfl), by repeat (first | (with_reducible first | exact HB.out | apply below_alloc | apply pw_below_drewN | apply below_drew1 | refine below_set ?_ GE384.out) | exact HB.out)⟩
                    · rw [if_neg c15] at H
                      have c15b0 : decide ((t374.length : Int) ≤ x5_1) = false := decide_eq_false c15
                      clear c15
                      by_cases c21 : 0 ≤ x5_1
                      · rw [if_pos c21] at H
                        have c21b0 : decide (0 ≤ x5_1) = true := decide_eq_true c21
                        clear c21
                        by_cases c22 : x5_1 < (t374.length : Int)
                        · rw [if_pos c22] at H
                          have c22b0 : decide (x5_1 < (t374.length : Int)) = true := decide_eq_true c22
                          clear c22
                          replace H := Option.bind_eq_some_iff.mp H
                          obtain ⟨t386, A230, H⟩ := H
                          replace H : (if t386 = true then (dormerlaw20_ScriptQuiet.l0 kj8 l0 t373 t374 (wrap64 (x5_1 + 1)) (wrap64 (x6_1 + 1))) else (some false)) = some r := H
                          have A23 := Aside0.mk A230
                          clear A230
                          by_cases c24 : t386 = true
                          · subst c24
                            have H1 : (dormerlaw20_ScriptQuiet.l0 kj8 l0 t373 t374 (wrap64 (x5_1 + 1)) (wrap64 (x6_1 + 1))) = some r := by rw [if_pos rfl] at H; exact H
                            clear H
                            have H := H1
                            clear H1
                            have H' := Aside0.mk H
                            clear H
                            have p383 : 0 ≤ (x6_1 : Int) := of_decide_eq_true (by first | (with_reducible assumption) | assumption)
                            have q383 : x6_1 < (l0.length : Int) := of_decide_eq_true (by first | (with_reducible assumption) | assumption)
                            obtain ⟨ad383, A383_7, c383_7, e383, hx383_0, hx383_1, hx383_2, hx383_3, hx383_4, hx383_5, hx383_6, hx383_7, hl383_7, hi383_7⟩ := at_T36 HR0.out x6_1 p383 q383
                            cases e383
                            replace hx383_0 := (HB.out.cell (World.block_lt_of_cell? w _ hx383_0)).trans hx383_0
                            replace hx383_1 := (HB.out.cell (World.block_lt_of_cell? w _ hx383_1)).trans hx383_1
                            replace hx383_2 := (HB.out.cell (World.block_lt_of_cell? w _ hx383_2)).trans hx383_2
                            replace hx383_3 := (HB.out.cell (World.block_lt_of_cell? w _ hx383_3)).trans hx383_3
                            replace hx383_4 := (HB.out.cell (World.block_lt_of_cell? w _ hx383_4)).trans hx383_4
                            replace hx383_5 := (HB.out.cell (World.block_lt_of_cell? w _ hx383_5)).trans hx383_5
                            replace hx383_6 := (HB.out.cell (World.block_lt_of_cell? w _ hx383_6)).trans hx383_6
                            replace hx383_7 := (HB.out.cell (World.block_lt_of_cell? w _ hx383_7)).trans hx383_7
                            have HR383_7 := Aside0.mk hi383_7
                            have HC383_7 := Aside0.mk hl383_7
                            clear hi383_7 hl383_7
                            replace p383 := eq_true p383
                            replace q383 := eq_true q383
                            try go_wp2_with (first | ((with_reducible refine gate_dst (N := 7) rfl ?_); (try (refine gate_guard (by rfl) ?_; dsimp only)); refine box_event ?hg (N := 7) ?hd (cs := #[.int .i64 0, .int .u64 0, .int .i64 0, .int .u64 0, .int .i64 0, .bool false, .bool false, .slice none 0 0]) (t := 36) ?hr ?_; (case hd => rfl); (case hg => rfl); (case hr => first | (go_simp; done) | (go_simp; rfl)); intro gb384 hg w25 hbox hb; have n0_ := Aside0.mk (Kd.S_below (Kd.S_elderB (by (with_reducible repeat (first | apply Kd.S_alloc | apply Kd.S_drewN | apply Kd.S_drew)); exact HO_4.out) gb384 (Nat.le_of_eq hg.symm)) hb); have n1_ := Aside0.mk (below_step (by repeat (first | (with_reducible first | exact HB.out | apply below_alloc | apply pw_below_drewN | apply below_drew1) | exact HB.out)) hb); have n2_ := Aside0.mk (hbox); have n3_ := Aside0.mk ((by rw [hg]; exact (below_size (by repeat (first | (with_reducible first | exact HB.out | apply below_alloc | apply pw_below_drewN | apply below_drew1) | exact HB.out))) : w.heap.size ≤ gb384)); have n4_ := Aside0.mk ((by rw [hg]; exact (below_size (by repeat (first | (with_reducible first | exact HB.out | apply below_alloc | apply pw_below_drewN | apply below_drew1) | exact HB.out))) : w.heap.size ≤ gb384)); clear HO_4; clear HB; have HO_4 := n0_; have HB := n1_; have BK384 := n2_; have GW384 := n3_; have GE384 := n4_; clear n0_ n1_ n2_ n3_ n4_; clear hb hbox hg; have hcz26_0 : w25.cell? ⟨gb384, 0, none⟩ = some (.int .i64 0) := (blk_cell BK384.out 0).trans rfl; have hcz26_1 : w25.cell? ⟨gb384, 1, none⟩ = some (.int .u64 0) := (blk_cell BK384.out 1).trans rfl; have hcz26_2 : w25.cell? ⟨gb384, 2, none⟩ = some (.int .i64 0) := (blk_cell BK384.out 2).trans rfl; have hcz26_3 : w25.cell? ⟨gb384, 3, none⟩ = some (.int .u64 0) := (blk_cell BK384.out 3).trans rfl; have hcz26_4 : w25.cell? ⟨gb384, 4, none⟩ = some (.int .i64 0) := (blk_cell BK384.out 4).trans rfl; have hcz26_5 : w25.cell? ⟨gb384, 5, none⟩ = some (.bool false) := (blk_cell BK384.out 5).trans rfl; have hcz26_6 : w25.cell? ⟨gb384, 6, none⟩ = some (.bool false) := (blk_cell BK384.out 6).trans rfl; have hcz26_7 : w25.cell? ⟨gb384, 7, none⟩ = some (.slice none 0 0) := (blk_cell BK384.out 7).trans rfl; have hfz26_0 := blk_frozen BK384.out 0; have hfz26_1 := blk_frozen BK384.out 1; have hfz26_2 := blk_frozen BK384.out 2; have hfz26_3 := blk_frozen BK384.out 3; have hfz26_4 := blk_frozen BK384.out 4; have hfz26_5 := blk_frozen BK384.out 5; have hfz26_6 := blk_frozen BK384.out 6; have hfz26_7 := blk_frozen BK384.out 7))
                            have n0_ : Aside0 (Kd.S k36 36 (((((((((w25.setCell ⟨gb384, 0, none⟩ (.int .i64 ((rd_T36 l0 x6_1).f0))).setCell ⟨gb384, 1, none⟩ (.int .u64 ((rd_T36 l0 x6_1).f1))).setCell ⟨gb384, 2, none⟩ (.int .i64 ((rd_T36 l0 x6_1).f2))).setCell ⟨gb384, 3, none⟩ (.int .u64 ((rd_T36 l0 x6_1).f3))).setCell ⟨gb384, 4, none⟩ (.int .i64 ((rd_T36 l0 x6_1).f4.f0))).setCell ⟨gb384, 5, none⟩ (.bool ((rd_T36 l0 x6_1).f4.f1))).setCell ⟨gb384, 6, none⟩ (.bool ((rd_T36 l0 x6_1).f4.f2))).setCell ⟨gb384, 7, none⟩ (.slice A383_7 ((rd_T36 l0 x6_1).f5).length c383_7)).setCell ⟨gb384, 7, none⟩ (.slice none 0 0)) w.heap.size (fun k_ => k_ ≠ gb384) v375 t374) := ⟨by (with_reducible repeat (first | apply Kd.S_alloc | apply Kd.S_drewN | apply Kd.S_drew)); exact Kd.S_mono (Kd.S_far (p := ⟨gb384, 7, none⟩) (Kd.S_far (p := ⟨gb384, 7, none⟩) (Kd.S_far (p := ⟨gb384, 6, none⟩) (Kd.S_far (p := ⟨gb384, 5, none⟩) (Kd.S_far (p := ⟨gb384, 4, none⟩) (Kd.S_far (p := ⟨gb384, 3, none⟩) (Kd.S_far (p := ⟨gb384, 2, none⟩) (Kd.S_far (p := ⟨gb384, 1, none⟩) (Kd.S_far (p := ⟨gb384, 0, none⟩) (Kd.S_mono HO_4.out (fun k_ hk => (⟨hk, hk.2⟩ : _ ∧ k_ ≠ gb384))) (fun _ hk => hk.2) (.int .i64 ((rd_T36 l0 x6_1).f0))) (fun _ hk => hk.2) (.int .u64 ((rd_T36 l0 x6_1).f1))) (fun _ hk => hk.2) (.int .i64 ((rd_T36 l0 x6_1).f2))) (fun _ hk => hk.2) (.int .u64 ((rd_T36 l0 x6_1).f3))) (fun _ hk => hk.2) (.int .i64 ((rd_T36 l0 x6_1).f4.f0))) (fun _ hk => hk.2) (.bool ((rd_T36 l0 x6_1).f4.f1))) (fun _ hk => hk.2) (.bool ((rd_T36 l0 x6_1).f4.f2))) (fun _ hk => hk.2) (.slice A383_7 ((rd_T36 l0 x6_1).f5).length c383_7)) (fun _ hk => hk.2) (.slice none 0 0)) (fun _ hk => hk.1.2)⟩
                            have n1_ : Aside0 ((((((((((w25.setCell ⟨gb384, 0, none⟩ (.int .i64 ((rd_T36 l0 x6_1).f0))).setCell ⟨gb384, 1, none⟩ (.int .u64 ((rd_T36 l0 x6_1).f1))).setCell ⟨gb384, 2, none⟩ (.int .i64 ((rd_T36 l0 x6_1).f2))).setCell ⟨gb384, 3, none⟩ (.int .u64 ((rd_T36 l0 x6_1).f3))).setCell ⟨gb384, 4, none⟩ (.int .i64 ((rd_T36 l0 x6_1).f4.f0))).setCell ⟨gb384, 5, none⟩ (.bool ((rd_T36 l0 x6_1).f4.f1))).setCell ⟨gb384, 6, none⟩ (.bool ((rd_T36 l0 x6_1).f4.f2))).setCell ⟨gb384, 7, none⟩ (.slice A383_7 ((rd_T36 l0 x6_1).f5).length c383_7)).setCell ⟨gb384, 7, none⟩ (.slice none 0 0)).heap[gb384]? = some (.cells #[.int .i64 ((rd_T36 l0 x6_1).f0), .int .u64 ((rd_T36 l0 x6_1).f1), .int .i64 ((rd_T36 l0 x6_1).f2), .int .u64 ((rd_T36 l0 x6_1).f3), .int .i64 ((rd_T36 l0 x6_1).f4.f0), .bool ((rd_T36 l0 x6_1).f4.f1), .bool ((rd_T36 l0 x6_1).f4.f2), .slice none 0 0] 36 (0, 0))) := ⟨by (with_reducible repeat (first | refine blk_drewN ?_ _ | refine blk_drew ?_ | refine blk_alloc ?_ _)); refine blk_put (cs := #[.int .i64 ((rd_T36 l0 x6_1).f0), .int .u64 ((rd_T36 l0 x6_1).f1), .int .i64 ((rd_T36 l0 x6_1).f2), .int .u64 ((rd_T36 l0 x6_1).f3), .int .i64 ((rd_T36 l0 x6_1).f4.f0), .bool ((rd_T36 l0 x6_1).f4.f1), .bool ((rd_T36 l0 x6_1).f4.f2), .slice A383_7 ((rd_T36 l0 x6_1).f5).length c383_7]) ?_ 7 _ rfl; (with_reducible repeat (first | refine blk_drewN ?_ _ | refine blk_drew ?_ | refine blk_alloc ?_ _)); refine blk_put (cs := #[.int .i64 ((rd_T36 l0 x6_1).f0), .int .u64 ((rd_T36 l0 x6_1).f1), .int .i64 ((rd_T36 l0 x6_1).f2), .int .u64 ((rd_T36 l0 x6_1).f3), .int .i64 ((rd_T36 l0 x6_1).f4.f0), .bool ((rd_T36 l0 x6_1).f4.f1), .bool ((rd_T36 l0 x6_1).f4.f2), .slice none 0 0]) ?_ 7 _ rfl; (with_reducible repeat (first | refine blk_drewN ?_ _ | refine blk_drew ?_ | refine blk_alloc ?_ _)); refine blk_put (cs := #[.int .i64 ((rd_T36 l0 x6_1).f0), .int .u64 ((rd_T36 l0 x6_1).f1), .int .i64 ((rd_T36 l0 x6_1).f2), .int .u64 ((rd_T36 l0 x6_1).f3), .int .i64 ((rd_T36 l0 x6_1).f4.f0), .bool ((rd_T36 l0 x6_1).f4.f1), .bool false, .slice none 0 0]) ?_ 6 _ rfl; (with_reducible repeat (first | refine blk_drewN ?_ _ | refine blk_drew ?_ | refine blk_alloc ?_ _)); refine blk_put (cs := #[.int .i64 ((rd_T36 l0 x6_1).f0), .int .u64 ((rd_T36 l0 x6_1).f1), .int .i64 ((rd_T36 l0 x6_1).f2), .int .u64 ((rd_T36 l0 x6_1).f3), .int .i64 ((rd_T36 l0 x6_1).f4.f0), .bool false, .bool false, .slice none 0 0]) ?_ 5 _ rfl; (with_reducible repeat (first | refine blk_drewN ?_ _ | refine blk_drew ?_ | refine blk_alloc ?_ _)); refine blk_put (cs := #[.int .i64 ((rd_T36 l0 x6_1).f0), .int .u64 ((rd_T36 l0 x6_1).f1), .int .i64 ((rd_T36 l0 x6_1).f2), .int .u64 ((rd_T36 l0 x6_1).f3), .int .i64 0, .bool false, .bool false, .slice none 0 0]) ?_ 4 _ rfl; (with_reducible repeat (first | refine blk_drewN ?_ _ | refine blk_drew ?_ | refine blk_alloc ?_ _)); refine blk_put (cs := #[.int .i64 ((rd_T36 l0 x6_1).f0), .int .u64 ((rd_T36 l0 x6_1).f1), .int .i64 ((rd_T36 l0 x6_1).f2), .int .u64 0, .int .i64 0, .bool false, .bool false, .slice none 0 0]) ?_ 3 _ rfl; (with_reducible repeat (first | refine blk_drewN ?_ _ | refine blk_drew ?_ | refine blk_alloc ?_ _)); refine blk_put (cs := #[.int .i64 ((rd_T36 l0 x6_1).f0), .int .u64 ((rd_T36 l0 x6_1).f1), .int .i64 0, .int .u64 0, .int .i64 0, .bool false, .bool false, .slice none 0 0]) ?_ 2 _ rfl; (with_reducible repeat (first | refine blk_drewN ?_ _ | refine blk_drew ?_ | refine blk_alloc ?_ _)); refine blk_put (cs := #[.int .i64 ((rd_T36 l0 x6_1).f0), .int .u64 0, .int .i64 0, .int .u64 0, .int .i64 0, .bool false, .bool false, .slice none 0 0]) ?_ 1 _ rfl; (with_reducible repeat (first | refine blk_drewN ?_ _ | refine blk_drew ?_ | refine blk_alloc ?_ _)); refine blk_put (cs := #[.int .i64 0, .int .u64 0, .int .i64 0, .int .u64 0, .int .i64 0, .bool false, .bool false, .slice none 0 0]) ?_ 0 _ rfl; (with_reducible repeat (first | refine blk_drewN ?_ _ | refine blk_drew ?_ | refine blk_alloc ?_ _)); exact BK384.out⟩
                            have n2_ : Aside0 (Below w.heap.size w (((((((((w25.setCell ⟨gb384, 0, none⟩ (.int .i64 ((rd_T36 l0 x6_1).f0))).setCell ⟨gb384, 1, none⟩ (.int .u64 ((rd_T36 l0 x6_1).f1))).setCell ⟨gb384, 2, none⟩ (.int .i64 ((rd_T36 l0 x6_1).f2))).setCell ⟨gb384, 3, none⟩ (.int .u64 ((rd_T36 l0 x6_1).f3))).setCell ⟨gb384, 4, none⟩ (.int .i64 ((rd_T36 l0 x6_1).f4.f0))).setCell ⟨gb384, 5, none⟩ (.bool ((rd_T36 l0 x6_1).f4.f1))).setCell ⟨gb384, 6, none⟩ (.bool ((rd_T36 l0 x6_1).f4.f2))).setCell ⟨gb384, 7, none⟩ (.slice A383_7 ((rd_T36 l0 x6_1).f5).length c383_7)).setCell ⟨gb384, 7, none⟩ (.slice none 0 0))) := ⟨by repeat (first | (with_reducible first | exact HB.out | apply below_alloc | apply pw_below_drewN | apply below_drew1 | refine below_set ?_ GE384.out) | exact HB.out)⟩
                            (try clear HO_4)
                            (try clear BK384)
                            (try clear HB)
                            generalize (((((((((w25.setCell ⟨gb384, 0, none⟩ (.int .i64 ((rd_T36 l0 x6_1).f0))).setCell ⟨gb384, 1, none⟩ (.int .u64 ((rd_T36 l0 x6_1).f1))).setCell ⟨gb384, 2, none⟩ (.int .i64 ((rd_T36 l0 x6_1).f2))).setCell ⟨gb384, 3, none⟩ (.int .u64 ((rd_T36 l0 x6_1).f3))).setCell ⟨gb384, 4, none⟩ (.int .i64 ((rd_T36 l0 x6_1).f4.f0))).setCell ⟨gb384, 5, none⟩ (.bool ((rd_T36 l0 x6_1).f4.f1))).setCell ⟨gb384, 6, none⟩ (.bool ((rd_T36 l0 x6_1).f4.f2))).setCell ⟨gb384, 7, none⟩ (.slice A383_7 ((rd_T36 l0 x6_1).f5).length c383_7)).setCell ⟨gb384, 7, none⟩ (.slice none 0 0)) = w27 at n0_ n1_ n2_ ⊢
                            have HO_4 := n0_
                            have BK384 := n1_
                            have HB := n2_
                            clear n0_ n1_ n2_
                            have n0_ := Aside0.mk (Kd.S_drew HO_4.out)
                            have n1_ := Aside0.mk (blk_drew BK384.out)
                            have n2_ := Aside0.mk (below_drew1 HB.out)
                            clear HO_4
                            clear BK384
                            clear HB
                            have HO_4 := n0_
                            have BK384 := n1_
                            have HB := n2_
                            clear n0_ n1_ n2_
                            obtain ⟨Ao29, co29, eo29⟩ := Kd.S_slice HO_4.out
                            (first | subst eo29 | (injection eo29 with f1_ f2_ f3_; have f4_ := f1_.symm; have f5_ := f3_.symm; clear f1_ f2_ f3_; subst f4_; subst f5_))
                            have p385 : 0 ≤ (x5_1 : Int) := of_decide_eq_true (by first | (with_reducible assumption) | assumption)
                            have q385 : x5_1 < (t374.length : Int) := of_decide_eq_true (by first | (with_reducible assumption) | assumption)
                            obtain ⟨ad385, A385_7, c385_7, e385, hx385_0, hx385_1, hx385_2, hx385_3, hx385_4, hx385_5, hx385_6, hx385_7, hl385_7, hi385_7⟩ := at_T36 (Kd.S_reads' HO_4.out).2.2 x5_1 p385 q385
                            cases e385
                            obtain ⟨ce385, hce385, hMe385, hcc385⟩ := Kd.S_get HO_4.out z36 x5_1 p385 (by first | exact q385 | exact of_decide_eq_true (by first | (with_reducible assumption) | assumption) | (have e_ := (Kd.S_reads' HO_4.out).1; omega))
                            obtain ⟨ve385_7, rfl, ge385_7⟩ := k36_openM hMe385
                            have hv385_7 := hcc385 7 _ rfl
                            rw [add_field _ _ 7 (by omega)] at hv385_7
                            replace hv385_7 := Option.some.inj (hv385_7.symm.trans hx385_7)
                            rw [hv385_7] at ge385_7
                            have HL385_7 := Aside0.mk (show Kd.R (Kd.int .i64) 3 _ _ _ _ ((rd_T36 t374 x5_1).f5) from ge385_7)
                            clear hv385_7 ge385_7
                            clear hcc385 hce385
                            have HR385_7 := Aside0.mk hi385_7
                            have HC385_7 := Aside0.mk hl385_7
                            clear hi385_7 hl385_7
                            replace p385 := eq_true p385
                            replace q385 := eq_true q385
                            refine start_ (n := 13) (S := fun w' => w'.cell? ⟨gb384, 0, none⟩ = some (.int .i64 ((rd_T36 l0 x6_1).f0)) ∧ w'.cell? ⟨gb384, 1, none⟩ = some (.int .u64 ((rd_T36 l0 x6_1).f1)) ∧ w'.cell? ⟨gb384, 2, none⟩ = some (.int .i64 ((rd_T36 l0 x6_1).f2)) ∧ w'.cell? ⟨gb384, 3, none⟩ = some (.int .u64 ((rd_T36 l0 x6_1).f3)) ∧ w'.cell? ⟨gb384, 4, none⟩ = some (.int .i64 ((rd_T36 l0 x6_1).f4.f0)) ∧ w'.cell? ⟨gb384, 5, none⟩ = some (.bool ((rd_T36 l0 x6_1).f4.f1)) ∧ w'.cell? ⟨gb384, 6, none⟩ = some (.bool ((rd_T36 l0 x6_1).f4.f2)) ∧ w'.cell? ⟨gb384, 7, none⟩ = some (.slice none 0 0) ∧ w'.cell? (ad385.add ((x5_1).toNat * 8)) = some (.int .i64 ((rd_T36 t374 x5_1).f0)) ∧ w'.cell? ⟨(ad385.add ((x5_1).toNat * 8)).block, (ad385.add ((x5_1).toNat * 8)).off + 1, none⟩ = some (.int .u64 ((rd_T36 t374 x5_1).f1)) ∧ w'.cell? ⟨(ad385.add ((x5_1).toNat * 8)).block, (ad385.add ((x5_1).toNat * 8)).off + 2, none⟩ = some (.int .i64 ((rd_T36 t374 x5_1).f2)) ∧ w'.cell? ⟨(ad385.add ((x5_1).toNat * 8)).block, (ad385.add ((x5_1).toNat * 8)).off + 3, none⟩ = some (.int .u64 ((rd_T36 t374 x5_1).f3)) ∧ w'.cell? ⟨(ad385.add ((x5_1).toNat * 8)).block, (ad385.add ((x5_1).toNat * 8)).off + 4, none⟩ = some (.int .i64 ((rd_T36 t374 x5_1).f4.f0)) ∧ w'.cell? ⟨(ad385.add ((x5_1).toNat * 8)).block, (ad385.add ((x5_1).toNat * 8)).off + 5, none⟩ = some (.bool ((rd_T36 t374 x5_1).f4.f1)) ∧ w'.cell? ⟨(ad385.add ((x5_1).toNat * 8)).block, (ad385.add ((x5_1).toNat * 8)).off + 6, none⟩ = some (.bool ((rd_T36 t374 x5_1).f4.f2)) ∧ w'.cell? ⟨(ad385.add ((x5_1).toNat * 8)).block, (ad385.add ((x5_1).toNat * 8)).off + 7, none⟩ = some (.slice A385_7 ((rd_T36 t374 x5_1).f5).length c385_7)) (ds := []) #[false, false, false, false, false, false, false, false, false, false, false, false, false] (by kernel_rfl) rfl rfl ⟨(blk_cell BK384.out 0).trans rfl, (blk_cell BK384.out 1).trans rfl, (blk_cell BK384.out 2).trans rfl, (blk_cell BK384.out 3).trans rfl, (blk_cell BK384.out 4).trans rfl, (blk_cell BK384.out 5).trans rfl, (blk_cell BK384.out 6).trans rfl, (blk_cell BK384.out 7).trans rfl, hx385_0, hx385_1, hx385_2, hx385_3, hx385_4, hx385_5, hx385_6, hx385_7⟩ (fun hHeld => ?_); refine with_tabW dormerlaw20_ScriptQuiet.tab12 dormerlaw20_ScriptQuiet.bits12 (fun HT_ HW_ => ?_)
                            generalize w27.drew = w28 at HO_4 BK384 HB HL385_7 HR385_7 hx385_0 hx385_1 hx385_2 hx385_3 hx385_4 hx385_5 hx385_6 hx385_7 hHeld ⊢
                            refine pure_ (i := 0) (N := some 40) (v := ?_) (a' := ?_) #[true, false, false, false, false, false, false, false, false, false, false, false, false] rfl rfl (any_of HT_.out (by kernel_rfl)) (fun _ _ _ h => h) (Or.inl ⟨by rfl, ?_⟩) ?_ ?_
                            rotate_left
                            · intro w'
                              go_simp
                              with_reducible rfl
                            rotate_left
                            · simp only [Act.put, List.setIfInBounds_toArray, List.set_cons_zero, List.set_cons_succ, i64_w, i32_w]
                              rfl
                            refine pure_ (i := 1) (N := some 41) (v := ?_) (a' := ?_) #[true, true, false, false, false, false, false, false, false, false, false, false, false] rfl rfl (any_of HT_.out (by kernel_rfl)) (fun _ _ _ h => h) (Or.inl ⟨by rfl, ?_⟩) ?_ ?_
                            rotate_left
                            · intro w'
                              go_simp
                              with_reducible rfl
                            rotate_left
                            · simp only [Act.put, List.setIfInBounds_toArray, List.set_cons_zero, List.set_cons_succ, i64_w, i32_w]
                              rfl
                            refine pure_ (i := 2) (N := some 42) (v := ?_) (a' := ?_) #[true, true, true, false, false, false, false, false, false, false, false, false, false] rfl rfl (any_of HT_.out (by kernel_rfl)) (fun _ _ _ h => h) (Or.inl ⟨by rfl, ?_⟩) ?_ ?_
                            rotate_left
                            · intro w'
                              go_simp
                              with_reducible rfl
                            rotate_left
                            · simp only [Act.put, List.setIfInBounds_toArray, List.set_cons_zero, List.set_cons_succ, i64_w, i32_w]
                              rfl
                            refine pure_ (i := 3) (N := some 43) (v := ?_) (a' := ?_) #[true, true, true, true, false, false, false, false, false, false, false, false, false] rfl rfl (any_of HT_.out (by kernel_rfl)) (fun _ _ _ h => h) (Or.inl ⟨by rfl, ?_⟩) ?_ ?_
                            rotate_left
                            · intro w'
                              go_simp
                              with_reducible rfl
                            rotate_left
                            · simp only [Act.put, List.setIfInBounds_toArray, List.set_cons_zero, List.set_cons_succ, i64_w, i32_w]
                              rfl
                            refine pure_ (i := 4) (N := some 44) (v := ?_) (a' := ?_) #[true, true, true, true, true, false, false, false, false, false, false, false, false] rfl rfl (any_of HT_.out (by kernel_rfl)) (fun _ _ _ h => h) (Or.inl ⟨by rfl, ?_⟩) ?_ ?_
                            rotate_left
                            · intro w'
                              go_simp
                              with_reducible rfl
                            rotate_left
                            · simp only [Act.put, List.setIfInBounds_toArray, List.set_cons_zero, List.set_cons_succ, i64_w, i32_w]
                              rfl
                            refine pure_ (i := 5) (N := some 45) (v := ?_) (a' := ?_) #[true, true, true, true, true, true, false, false, false, false, false, false, false] rfl rfl (any_of HT_.out (by kernel_rfl)) (fun _ _ _ h => h) (Or.inl ⟨by rfl, ?_⟩) ?_ ?_
                            rotate_left
                            · intro w'
                              go_simp
                              with_reducible rfl
                            rotate_left
                            · simp only [Act.put, List.setIfInBounds_toArray, List.set_cons_zero, List.set_cons_succ, i64_w, i32_w]
                              rfl
                            refine pure_ (i := 6) (N := some 46) (v := ?_) (a' := ?_) #[true, true, true, true, true, true, true, false, false, false, false, false, false] rfl rfl (any_of HT_.out (by kernel_rfl)) (fun _ _ _ h => h) (Or.inl ⟨by rfl, ?_⟩) ?_ ?_
                            rotate_left
                            · intro w'
                              go_simp
                              with_reducible rfl
                            rotate_left
                            · simp only [Act.put, List.setIfInBounds_toArray, List.set_cons_zero, List.set_cons_succ, i64_w, i32_w]
                              rfl
                            refine pure_ (i := 7) (N := some 47) (v := ?_) (a' := ?_) #[true, true, true, true, true, true, true, true, false, false, false, false, false] rfl rfl (any_of HT_.out (by kernel_rfl)) (fun _ _ _ h => h) (Or.inl ⟨by rfl, ?_⟩) ?_ ?_
                            rotate_left
                            · intro w'
                              go_simp
                              with_reducible rfl
                            rotate_left
                            · simp only [Act.put, List.setIfInBounds_toArray, List.set_cons_zero, List.set_cons_succ, i64_w, i32_w]
                              rfl
                            refine take_ (i := 8) (N := some 48) (v := ?_) (a' := ?_) #[true, true, true, true, true, true, true, true, true, false, false, false, false] rfl rfl (take_ofW HT_.out HW_.out (by kernel_rfl)) (fun _ _ _ h => h) (Or.inl ⟨by rfl, ?_⟩) hHeld ?_ ?_
                            rotate_left
                            · rintro w' ⟨s0, s1, s2, s3, s4, s5, s6, s7, s8, s9, s10, s11, s12, s13, s14, s15⟩
                              go_simp
                              with_reducible rfl
                            rotate_left
                            · simp only [Act.put, List.setIfInBounds_toArray, List.set_cons_zero, List.set_cons_succ, i64_w, i32_w]
                              rfl
                            refine take_ (i := 9) (N := some 49) (v := ?_) (a' := ?_) #[true, true, true, true, true, true, true, true, true, true, false, false, false] rfl rfl (take_ofW HT_.out HW_.out (by kernel_rfl)) (fun _ _ _ h => h) (Or.inl ⟨by rfl, ?_⟩) hHeld ?_ ?_
                            rotate_left
                            · rintro w' ⟨s0, s1, s2, s3, s4, s5, s6, s7, s8, s9, s10, s11, s12, s13, s14, s15⟩
                              go_simp
                              with_reducible rfl
                            rotate_left
                            · simp only [Act.put, List.setIfInBounds_toArray, List.set_cons_zero, List.set_cons_succ, i64_w, i32_w]
                              rfl
                            refine one_ (i := 10) (N := some 50) #[true, true, true, true, true, true, true, true, true, true, true, false, false] rfl rfl (one_of HT_.out (by kernel_rfl)) (by decide) (fun K hK => ?_)
                            refine goes_ Try.func14 (by kernel_rfl) rfl #[.agg #[.int .i64 ((rd_T36 t374 x5_1).f0), .int .u64 ((rd_T36 t374 x5_1).f1), .int .i64 ((rd_T36 t374 x5_1).f2), .int .u64 ((rd_T36 t374 x5_1).f3), .int .i64 ((rd_T36 t374 x5_1).f4.f0), .bool ((rd_T36 t374 x5_1).f4.f1), .bool ((rd_T36 t374 x5_1).f4.f2), .slice A385_7 ((rd_T36 t374 x5_1).f5).length c385_7], .agg #[.int .i64 ((rd_T36 l0 x6_1).f0), .int .u64 ((rd_T36 l0 x6_1).f1), .int .i64 ((rd_T36 l0 x6_1).f2), .int .u64 ((rd_T36 l0 x6_1).f3), .int .i64 ((rd_T36 l0 x6_1).f4.f0), .bool ((rd_T36 l0 x6_1).f4.f1), .bool ((rd_T36 l0 x6_1).f4.f2), .slice none 0 0]] (by rfl) rfl rfl (by (try simp only [List.map_toArray, List.map_cons, List.map_nil]); first | done | rfl | (simp only [List.length_drop, List.length_take]; rfl)) ?_
                            refine (script_Same.calls kj8 ((rd_T36 t374 x5_1).f0) ((rd_T36 t374 x5_1).f1) ((rd_T36 t374 x5_1).f2) ((rd_T36 t374 x5_1).f3) ((rd_T36 t374 x5_1).f4.f0) ((rd_T36 t374 x5_1).f4.f1) ((rd_T36 t374 x5_1).f4.f2) _ _ ((rd_T36 t374 x5_1).f5) ((rd_T36 l0 x6_1).f0) ((rd_T36 l0 x6_1).f1) ((rd_T36 l0 x6_1).f2) ((rd_T36 l0 x6_1).f3) ((rd_T36 l0 x6_1).f4.f0) ((rd_T36 l0 x6_1).f4.f1) ((rd_T36 l0 x6_1).f4.f2) _ _ ([] : List Int) true _ ?side1 ?side2 ?side3 ?side4 A23.out).mono ?_
                            (case side1 => repeat (first | exact (by repeat (first | (with_reducible exact HR385_7.out) | (with_reducible refine Kd.C_alloc ?_ _) | (with_reducible refine Kd.C_drewN ?_ _) | (with_reducible refine Kd.C_drew ?_) | exact HR385_7.out)) | (with_reducible refine Kd.C_alloc ?_ _) | (with_reducible refine Kd.C_drewN ?_ _) | (with_reducible refine Kd.C_drew ?_)))
                            (case side2 => exact HC385_7.out)
                            (case side3 => exact Kd.C_nil _ _)
                            (case side4 => exact Nat.le_refl _)
                            rintro e w30 ⟨rfl, hb⟩
                            have HS8_ := (hb.cell (World.block_lt_of_cell? _ _ (hHeld.2.2.2.2.2.2.2.2.1))).trans (hHeld.2.2.2.2.2.2.2.2.1)
                            have HS9_ := (hb.cell (World.block_lt_of_cell? _ _ (hHeld.2.2.2.2.2.2.2.2.2.1))).trans (hHeld.2.2.2.2.2.2.2.2.2.1)
                            have HS10_ := (hb.cell (World.block_lt_of_cell? _ _ (hHeld.2.2.2.2.2.2.2.2.2.2.1))).trans (hHeld.2.2.2.2.2.2.2.2.2.2.1)
                            have HS11_ := (hb.cell (World.block_lt_of_cell? _ _ (hHeld.2.2.2.2.2.2.2.2.2.2.2.1))).trans (hHeld.2.2.2.2.2.2.2.2.2.2.2.1)
                            have HS12_ := (hb.cell (World.block_lt_of_cell? _ _ (hHeld.2.2.2.2.2.2.2.2.2.2.2.2.1))).trans (hHeld.2.2.2.2.2.2.2.2.2.2.2.2.1)
                            have HS13_ := (hb.cell (World.block_lt_of_cell? _ _ (hHeld.2.2.2.2.2.2.2.2.2.2.2.2.2.1))).trans (hHeld.2.2.2.2.2.2.2.2.2.2.2.2.2.1)
                            have HS14_ := (hb.cell (World.block_lt_of_cell? _ _ (hHeld.2.2.2.2.2.2.2.2.2.2.2.2.2.2.1))).trans (hHeld.2.2.2.2.2.2.2.2.2.2.2.2.2.2.1)
                            have HS15_ := (hb.cell (World.block_lt_of_cell? _ _ (hHeld.2.2.2.2.2.2.2.2.2.2.2.2.2.2.2))).trans (hHeld.2.2.2.2.2.2.2.2.2.2.2.2.2.2.2)
                            refine ⟨_, rfl, ?_⟩
                            have n0_ := Aside0.mk (Kd.S_below (by (with_reducible repeat (first | apply Kd.S_alloc | apply Kd.S_drewN | apply Kd.S_drew)); exact HO_4.out) hb)
                            have n1_ := Aside0.mk (Kd.R_below (by (with_reducible repeat (first | apply Kd.R_alloc | apply Kd.R_drewN | apply Kd.R_drew)); exact HL385_7.out) hb)
                            have n2_ := Aside0.mk (blk_below (g := gb384) (o := .cells #[.int .i64 ((rd_T36 l0 x6_1).f0), .int .u64 ((rd_T36 l0 x6_1).f1), .int .i64 ((rd_T36 l0 x6_1).f2), .int .u64 ((rd_T36 l0 x6_1).f3), .int .i64 ((rd_T36 l0 x6_1).f4.f0), .bool ((rd_T36 l0 x6_1).f4.f1), .bool ((rd_T36 l0 x6_1).f4.f2), .slice none 0 0] 36 (0, 0)) (by (with_reducible repeat (first | refine blk_drewN ?_ _ | refine blk_drew ?_ | refine blk_alloc ?_ _)); exact BK384.out) hb)
                            have n3_ := Aside0.mk (Kd.C_below (by repeat (first | (with_reducible exact HR385_7.out) | (with_reducible refine Kd.C_alloc ?_ _) | (with_reducible refine Kd.C_drewN ?_ _) | (with_reducible refine Kd.C_drew ?_) | exact HR385_7.out)) hb)
                            have n4_ := Aside0.mk (below_step (by repeat (first | (with_reducible first | exact HB.out | apply below_alloc | apply pw_below_drewN | apply below_drew1 | refine below_set ?_ GE384.out) | exact HB.out)) hb)
                            clear HO_4
                            clear HL385_7
                            clear BK384
                            clear HR385_7
                            clear HB
                            have HO_4 := n0_
                            have HL385_7 := n1_
                            have BK384 := n2_
                            have HR385_7 := n3_
                            have HB := n4_
                            clear n0_ n1_ n2_ n3_ n4_
                            (try clear hb)
                            (try clear hb2)
                            (try clear hk)
                            (try clear hi)
                            refine hK.out _ _ ⟨(blk_cell BK384.out 0).trans rfl, (blk_cell BK384.out 1).trans rfl, (blk_cell BK384.out 2).trans rfl, (blk_cell BK384.out 3).trans rfl, (blk_cell BK384.out 4).trans rfl, (blk_cell BK384.out 5).trans rfl, (blk_cell BK384.out 6).trans rfl, (blk_cell BK384.out 7).trans rfl, HS8_, HS9_, HS10_, HS11_, HS12_, HS13_, HS14_, HS15_⟩ (fun hHeld => ?_)
                            clear hK K
                            refine norm_ (a' := ?_) ?_ ?_
                            rotate_left
                            · show Act.put _ (some 50) _ = _
                              simp only [Act.put, List.setIfInBounds_toArray, List.set_cons_zero, List.set_cons_succ, i64_w, i32_w]
                              rfl
                            refine pure_ (i := 11) (N := some 51) (v := ?_) (a' := ?_) #[true, true, true, true, true, true, true, true, true, true, true, true, false] rfl rfl (any_of HT_.out (by kernel_rfl)) (fun _ _ _ h => h) (Or.inl ⟨by rfl, ?_⟩) ?_ ?_
                            rotate_left
                            · intro w'
                              go_simp
                              with_reducible rfl
                            rotate_left
                            · simp only [Act.put, List.setIfInBounds_toArray, List.set_cons_zero, List.set_cons_succ, i64_w, i32_w]
                              rfl
                            refine pure_ (i := 12) (N := some 52) (v := ?_) (a' := ?_) #[true, true, true, true, true, true, true, true, true, true, true, true, true] rfl rfl (any_of HT_.out (by kernel_rfl)) (fun _ _ _ h => h) (Or.inl ⟨by rfl, ?_⟩) ?_ ?_
                            rotate_left
                            · intro w'
                              go_simp
                              with_reducible rfl
                            rotate_left
                            · simp only [Act.put, List.setIfInBounds_toArray, List.set_cons_zero, List.set_cons_succ, i64_w, i32_w]
                              rfl
                            refine done_ (done_of HT_.out (by kernel_rfl)) ?_
                            try go_wp2
                            go_roundg kj8
                            case measure => have := HK1.out; have := HJ8.out; omega
                            case rel => exact ⟨(wrap64 (x5_1 + 1)), (wrap64 (x6_1 + 1)), (by first | rfl | (simp; done) | (simp [*]; done)), (by first | rfl | (simp; done) | (simp [*]; done)), H', ⟨by have := HK1.out; have := HJ8.out; omega⟩, ⟨by (with_reducible repeat (first | apply Kd.S_alloc | apply Kd.S_drewN | apply Kd.S_drew)); exact Kd.S_mono HO_4.out (fun _ hk => trivial)⟩, ⟨by repeat (first | (with_reducible first | exact HB.out | apply below_alloc | apply pw_below_drewN | apply below_drew1 | refine below_set ?_ GE384.out) | exact HB.out)⟩⟩
                          · replace c24 := Bool.eq_false_iff.mpr c24
                            subst c24
                            have H1 : (some false) = some r := by rw [if_neg (show ¬ (false = true) by decide)] at H; exact H
                            clear H
                            have H := H1
                            clear H1
                            obtain rfl := Option.some.inj H
                            have p383 : 0 ≤ (x6_1 : Int) := of_decide_eq_true (by first | (with_reducible assumption) | assumption)
                            have q383 : x6_1 < (l0.length : Int) := of_decide_eq_true (by first | (with_reducible assumption) | assumption)
                            obtain ⟨ad383, A383_7, c383_7, e383, hx383_0, hx383_1, hx383_2, hx383_3, hx383_4, hx383_5, hx383_6, hx383_7, hl383_7, hi383_7⟩ := at_T36 HR0.out x6_1 p383 q383
                            cases e383
                            replace hx383_0 := (HB.out.cell (World.block_lt_of_cell? w _ hx383_0)).trans hx383_0
                            replace hx383_1 := (HB.out.cell (World.block_lt_of_cell? w _ hx383_1)).trans hx383_1
                            replace hx383_2 := (HB.out.cell (World.block_lt_of_cell? w _ hx383_2)).trans hx383_2
                            replace hx383_3 := (HB.out.cell (World.block_lt_of_cell? w _ hx383_3)).trans hx383_3
                            replace hx383_4 := (HB.out.cell (World.block_lt_of_cell? w _ hx383_4)).trans hx383_4
                            replace hx383_5 := (HB.out.cell (World.block_lt_of_cell? w _ hx383_5)).trans hx383_5
                            replace hx383_6 := (HB.out.cell (World.block_lt_of_cell? w _ hx383_6)).trans hx383_6
                            replace hx383_7 := (HB.out.cell (World.block_lt_of_cell? w _ hx383_7)).trans hx383_7
                            have HR383_7 := Aside0.mk hi383_7
                            have HC383_7 := Aside0.mk hl383_7
                            clear hi383_7 hl383_7
                            replace p383 := eq_true p383
                            replace q383 := eq_true q383
                            try go_wp2_with (first | ((with_reducible refine gate_dst (N := 7) rfl ?_); (try (refine gate_guard (by rfl) ?_; dsimp only)); refine box_event ?hg (N := 7) ?hd (cs := #[.int .i64 0, .int .u64 0, .int .i64 0, .int .u64 0, .int .i64 0, .bool false, .bool false, .slice none 0 0]) (t := 36) ?hr ?_; (case hd => rfl); (case hg => rfl); (case hr => first | (go_simp; done) | (go_simp; rfl)); intro gb384 hg w31 hbox hb; have n0_ := Aside0.mk (Kd.S_below (Kd.S_elderB (by (with_reducible repeat (first | apply Kd.S_alloc | apply Kd.S_drewN | apply Kd.S_drew)); exact HO_4.out) gb384 (Nat.le_of_eq hg.symm)) hb); have n1_ := Aside0.mk (below_step (by repeat (first | (with_reducible first | exact HB.out | apply below_alloc | apply pw_below_drewN | apply below_drew1) | exact HB.out)) hb); have n2_ := Aside0.mk (hbox); have n3_ := Aside0.mk ((by rw [hg]; exact (below_size (by repeat (first | (with_reducible first | exact HB.out | apply below_alloc | apply pw_below_drewN | apply below_drew1) | exact HB.out))) : w.heap.size ≤ gb384)); have n4_ := Aside0.mk ((by rw [hg]; exact (below_size (by repeat (first | (with_reducible first | exact HB.out | apply below_alloc | apply pw_below_drewN | apply below_drew1) | exact HB.out))) : w.heap.size ≤ gb384)); clear HO_4; clear HB; have HO_4 := n0_; have HB := n1_; have BK384 := n2_; have GW384 := n3_; have GE384 := n4_; clear n0_ n1_ n2_ n3_ n4_; clear hb hbox hg; have hcz32_0 : w31.cell? ⟨gb384, 0, none⟩ = some (.int .i64 0) := (blk_cell BK384.out 0).trans rfl; have hcz32_1 : w31.cell? ⟨gb384, 1, none⟩ = some (.int .u64 0) := (blk_cell BK384.out 1).trans rfl; have hcz32_2 : w31.cell? ⟨gb384, 2, none⟩ = some (.int .i64 0) := (blk_cell BK384.out 2).trans rfl; have hcz32_3 : w31.cell? ⟨gb384, 3, none⟩ = some (.int .u64 0) := (blk_cell BK384.out 3).trans rfl; have hcz32_4 : w31.cell? ⟨gb384, 4, none⟩ = some (.int .i64 0) := (blk_cell BK384.out 4).trans rfl; have hcz32_5 : w31.cell? ⟨gb384, 5, none⟩ = some (.bool false) := (blk_cell BK384.out 5).trans rfl; have hcz32_6 : w31.cell? ⟨gb384, 6, none⟩ = some (.bool false) := (blk_cell BK384.out 6).trans rfl; have hcz32_7 : w31.cell? ⟨gb384, 7, none⟩ = some (.slice none 0 0) := (blk_cell BK384.out 7).trans rfl; have hfz32_0 := blk_frozen BK384.out 0; have hfz32_1 := blk_frozen BK384.out 1; have hfz32_2 := blk_frozen BK384.out 2; have hfz32_3 := blk_frozen BK384.out 3; have hfz32_4 := blk_frozen BK384.out 4; have hfz32_5 := blk_frozen BK384.out 5; have hfz32_6 := blk_frozen BK384.out 6; have hfz32_7 := blk_frozen BK384.out 7))
                            have n0_ : Aside0 (Kd.S k36 36 (((((((((w31.setCell ⟨gb384, 0, none⟩ (.int .i64 ((rd_T36 l0 x6_1).f0))).setCell ⟨gb384, 1, none⟩ (.int .u64 ((rd_T36 l0 x6_1).f1))).setCell ⟨gb384, 2, none⟩ (.int .i64 ((rd_T36 l0 x6_1).f2))).setCell ⟨gb384, 3, none⟩ (.int .u64 ((rd_T36 l0 x6_1).f3))).setCell ⟨gb384, 4, none⟩ (.int .i64 ((rd_T36 l0 x6_1).f4.f0))).setCell ⟨gb384, 5, none⟩ (.bool ((rd_T36 l0 x6_1).f4.f1))).setCell ⟨gb384, 6, none⟩ (.bool ((rd_T36 l0 x6_1).f4.f2))).setCell ⟨gb384, 7, none⟩ (.slice A383_7 ((rd_T36 l0 x6_1).f5).length c383_7)).setCell ⟨gb384, 7, none⟩ (.slice none 0 0)) w.heap.size (fun k_ => k_ ≠ gb384) v375 t374) := ⟨by (with_reducible repeat (first | apply Kd.S_alloc | apply Kd.S_drewN | apply Kd.S_drew)); exact Kd.S_mono (Kd.S_far (p := ⟨gb384, 7, none⟩) (Kd.S_far (p := ⟨gb384, 7, none⟩) (Kd.S_far (p := ⟨gb384, 6, none⟩) (Kd.S_far (p := ⟨gb384, 5, none⟩) (Kd.S_far (p := ⟨gb384, 4, none⟩) (Kd.S_far (p := ⟨gb384, 3, none⟩) (Kd.S_far (p := ⟨gb384, 2, none⟩) (Kd.S_far (p := ⟨gb384, 1, none⟩) (Kd.S_far (p := ⟨gb384, 0, none⟩) (Kd.S_mono HO_4.out (fun k_ hk => (⟨hk, hk.2⟩ : _ ∧ k_ ≠ gb384))) (fun _ hk => hk.2) (.int .i64 ((rd_T36 l0 x6_1).f0))) (fun _ hk => hk.2) (.int .u64 ((rd_T36 l0 x6_1).f1))) (fun _ hk => hk.2) (.int .i64 ((rd_T36 l0 x6_1).f2))) (fun _ hk => hk.2) (.int .u64 ((rd_T36 l0 x6_1).f3))) (fun _ hk => hk.2) (.int .i64 ((rd_T36 l0 x6_1).f4.f0))) (fun _ hk => hk.2) (.bool ((rd_T36 l0 x6_1).f4.f1))) (fun _ hk => hk.2) (.bool ((rd_T36 l0 x6_1).f4.f2))) (fun _ hk => hk.2) (.slice A383_7 ((rd_T36 l0 x6_1).f5).length c383_7)) (fun _ hk => hk.2) (.slice none 0 0)) (fun _ hk => hk.1.2)⟩
                            have n1_ : Aside0 ((((((((((w31.setCell ⟨gb384, 0, none⟩ (.int .i64 ((rd_T36 l0 x6_1).f0))).setCell ⟨gb384, 1, none⟩ (.int .u64 ((rd_T36 l0 x6_1).f1))).setCell ⟨gb384, 2, none⟩ (.int .i64 ((rd_T36 l0 x6_1).f2))).setCell ⟨gb384, 3, none⟩ (.int .u64 ((rd_T36 l0 x6_1).f3))).setCell ⟨gb384, 4, none⟩ (.int .i64 ((rd_T36 l0 x6_1).f4.f0))).setCell ⟨gb384, 5, none⟩ (.bool ((rd_T36 l0 x6_1).f4.f1))).setCell ⟨gb384, 6, none⟩ (.bool ((rd_T36 l0 x6_1).f4.f2))).setCell ⟨gb384, 7, none⟩ (.slice A383_7 ((rd_T36 l0 x6_1).f5).length c383_7)).setCell ⟨gb384, 7, none⟩ (.slice none 0 0)).heap[gb384]? = some (.cells #[.int .i64 ((rd_T36 l0 x6_1).f0), .int .u64 ((rd_T36 l0 x6_1).f1), .int .i64 ((rd_T36 l0 x6_1).f2), .int .u64 ((rd_T36 l0 x6_1).f3), .int .i64 ((rd_T36 l0 x6_1).f4.f0), .bool ((rd_T36 l0 x6_1).f4.f1), .bool ((rd_T36 l0 x6_1).f4.f2), .slice none 0 0] 36 (0, 0))) := ⟨by (with_reducible repeat (first | refine blk_drewN ?_ _ | refine blk_drew ?_ | refine blk_alloc ?_ _)); refine blk_put (cs := #[.int .i64 ((rd_T36 l0 x6_1).f0), .int .u64 ((rd_T36 l0 x6_1).f1), .int .i64 ((rd_T36 l0 x6_1).f2), .int .u64 ((rd_T36 l0 x6_1).f3), .int .i64 ((rd_T36 l0 x6_1).f4.f0), .bool ((rd_T36 l0 x6_1).f4.f1), .bool ((rd_T36 l0 x6_1).f4.f2), .slice A383_7 ((rd_T36 l0 x6_1).f5).length c383_7]) ?_ 7 _ rfl; (with_reducible repeat (first | refine blk_drewN ?_ _ | refine blk_drew ?_ | refine blk_alloc ?_ _)); refine blk_put (cs := #[.int .i64 ((rd_T36 l0 x6_1).f0), .int .u64 ((rd_T36 l0 x6_1).f1), .int .i64 ((rd_T36 l0 x6_1).f2), .int .u64 ((rd_T36 l0 x6_1).f3), .int .i64 ((rd_T36 l0 x6_1).f4.f0), .bool ((rd_T36 l0 x6_1).f4.f1), .bool ((rd_T36 l0 x6_1).f4.f2), .slice none 0 0]) ?_ 7 _ rfl; (with_reducible repeat (first | refine blk_drewN ?_ _ | refine blk_drew ?_ | refine blk_alloc ?_ _)); refine blk_put (cs := #[.int .i64 ((rd_T36 l0 x6_1).f0), .int .u64 ((rd_T36 l0 x6_1).f1), .int .i64 ((rd_T36 l0 x6_1).f2), .int .u64 ((rd_T36 l0 x6_1).f3), .int .i64 ((rd_T36 l0 x6_1).f4.f0), .bool ((rd_T36 l0 x6_1).f4.f1), .bool false, .slice none 0 0]) ?_ 6 _ rfl; (with_reducible repeat (first | refine blk_drewN ?_ _ | refine blk_drew ?_ | refine blk_alloc ?_ _)); refine blk_put (cs := #[.int .i64 ((rd_T36 l0 x6_1).f0), .int .u64 ((rd_T36 l0 x6_1).f1), .int .i64 ((rd_T36 l0 x6_1).f2), .int .u64 ((rd_T36 l0 x6_1).f3), .int .i64 ((rd_T36 l0 x6_1).f4.f0), .bool false, .bool false, .slice none 0 0]) ?_ 5 _ rfl; (with_reducible repeat (first | refine blk_drewN ?_ _ | refine blk_drew ?_ | refine blk_alloc ?_ _)); refine blk_put (cs := #[.int .i64 ((rd_T36 l0 x6_1).f0), .int .u64 ((rd_T36 l0 x6_1).f1), .int .i64 ((rd_T36 l0 x6_1).f2), .int .u64 ((rd_T36 l0 x6_1).f3), .int .i64 0, .bool false, .bool false, .slice none 0 0]) ?_ 4 _ rfl; (with_reducible repeat (first | refine blk_drewN ?_ _ | refine blk_drew ?_ | refine blk_alloc ?_ _)); refine blk_put (cs := #[.int .i64 ((rd_T36 l0 x6_1).f0), .int .u64 ((rd_T36 l0 x6_1).f1), .int .i64 ((rd_T36 l0 x6_1).f2), .int .u64 0, .int .i64 0, .bool false, .bool false, .slice none 0 0]) ?_ 3 _ rfl; (with_reducible repeat (first | refine blk_drewN ?_ _ | refine blk_drew ?_ | refine blk_alloc ?_ _)); refine blk_put (cs := #[.int .i64 ((rd_T36 l0 x6_1).f0), .int .u64 ((rd_T36 l0 x6_1).f1), .int .i64 0, .int .u64 0, .int .i64 0, .bool false, .bool false, .slice none 0 0]) ?_ 2 _ rfl; (with_reducible repeat (first | refine blk_drewN ?_ _ | refine blk_drew ?_ | refine blk_alloc ?_ _)); refine blk_put (cs := #[.int .i64 ((rd_T36 l0 x6_1).f0), .int .u64 0, .int .i64 0, .int .u64 0, .int .i64 0, .bool false, .bool false, .slice none 0 0]) ?_ 1 _ rfl; (with_reducible repeat (first | refine blk_drewN ?_ _ | refine blk_drew ?_ | refine blk_alloc ?_ _)); refine blk_put (cs := #[.int .i64 0, .int .u64 0, .int .i64 0, .int .u64 0, .int .i64 0, .bool false, .bool false, .slice none 0 0]) ?_ 0 _ rfl; (with_reducible repeat (first | refine blk_drewN ?_ _ | refine blk_drew ?_ | refine blk_alloc ?_ _)); exact BK384.out⟩
                            have n2_ : Aside0 (Below w.heap.size w (((((((((w31.setCell ⟨gb384, 0, none⟩ (.int .i64 ((rd_T36 l0 x6_1).f0))).setCell ⟨gb384, 1, none⟩ (.int .u64 ((rd_T36 l0 x6_1).f1))).setCell ⟨gb384, 2, none⟩ (.int .i64 ((rd_T36 l0 x6_1).f2))).setCell ⟨gb384, 3, none⟩ (.int .u64 ((rd_T36 l0 x6_1).f3))).setCell ⟨gb384, 4, none⟩ (.int .i64 ((rd_T36 l0 x6_1).f4.f0))).setCell ⟨gb384, 5, none⟩ (.bool ((rd_T36 l0 x6_1).f4.f1))).setCell ⟨gb384, 6, none⟩ (.bool ((rd_T36 l0 x6_1).f4.f2))).setCell ⟨gb384, 7, none⟩ (.slice A383_7 ((rd_T36 l0 x6_1).f5).length c383_7)).setCell ⟨gb384, 7, none⟩ (.slice none 0 0))) := ⟨by repeat (first | (with_reducible first | exact HB.out | apply below_alloc | apply pw_below_drewN | apply below_drew1 | refine below_set ?_ GE384.out) | exact HB.out)⟩
                            (try clear HO_4)
                            (try clear BK384)
                            (try clear HB)
                            generalize (((((((((w31.setCell ⟨gb384, 0, none⟩ (.int .i64 ((rd_T36 l0 x6_1).f0))).setCell ⟨gb384, 1, none⟩ (.int .u64 ((rd_T36 l0 x6_1).f1))).setCell ⟨gb384, 2, none⟩ (.int .i64 ((rd_T36 l0 x6_1).f2))).setCell ⟨gb384, 3, none⟩ (.int .u64 ((rd_T36 l0 x6_1).f3))).setCell ⟨gb384, 4, none⟩ (.int .i64 ((rd_T36 l0 x6_1).f4.f0))).setCell ⟨gb384, 5, none⟩ (.bool ((rd_T36 l0 x6_1).f4.f1))).setCell ⟨gb384, 6, none⟩ (.bool ((rd_T36 l0 x6_1).f4.f2))).setCell ⟨gb384, 7, none⟩ (.slice A383_7 ((rd_T36 l0 x6_1).f5).length c383_7)).setCell ⟨gb384, 7, none⟩ (.slice none 0 0)) = w33 at n0_ n1_ n2_ ⊢
                            have HO_4 := n0_
                            have BK384 := n1_
                            have HB := n2_
                            clear n0_ n1_ n2_
                            have n0_ := Aside0.mk (Kd.S_drew HO_4.out)
                            have n1_ := Aside0.mk (blk_drew BK384.out)
                            have n2_ := Aside0.mk (below_drew1 HB.out)
                            clear HO_4
                            clear BK384
                            clear HB
                            have HO_4 := n0_
                            have BK384 := n1_
                            have HB := n2_
                            clear n0_ n1_ n2_
                            obtain ⟨Ao35, co35, eo35⟩ := Kd.S_slice HO_4.out
                            (first | subst eo35 | (injection eo35 with f1_ f2_ f3_; have f4_ := f1_.symm; have f5_ := f3_.symm; clear f1_ f2_ f3_; subst f4_; subst f5_))
                            have p385 : 0 ≤ (x5_1 : Int) := of_decide_eq_true (by first | (with_reducible assumption) | assumption)
                            have q385 : x5_1 < (t374.length : Int) := of_decide_eq_true (by first | (with_reducible assumption) | assumption)
                            obtain ⟨ad385, A385_7, c385_7, e385, hx385_0, hx385_1, hx385_2, hx385_3, hx385_4, hx385_5, hx385_6, hx385_7, hl385_7, hi385_7⟩ := at_T36 (Kd.S_reads' HO_4.out).2.2 x5_1 p385 q385
                            cases e385
                            obtain ⟨ce385, hce385, hMe385, hcc385⟩ := Kd.S_get HO_4.out z36 x5_1 p385 (by first | exact q385 | exact of_decide_eq_true (by first | (with_reducible assumption) | assumption) | (have e_ := (Kd.S_reads' HO_4.out).1; omega))
                            obtain ⟨ve385_7, rfl, ge385_7⟩ := k36_openM hMe385
                            have hv385_7 := hcc385 7 _ rfl
                            rw [add_field _ _ 7 (by omega)] at hv385_7
                            replace hv385_7 := Option.some.inj (hv385_7.symm.trans hx385_7)
                            rw [hv385_7] at ge385_7
                            have HL385_7 := Aside0.mk (show Kd.R (Kd.int .i64) 3 _ _ _ _ ((rd_T36 t374 x5_1).f5) from ge385_7)
                            clear hv385_7 ge385_7
                            clear hcc385 hce385
                            have HR385_7 := Aside0.mk hi385_7
                            have HC385_7 := Aside0.mk hl385_7
                            clear hi385_7 hl385_7
                            replace p385 := eq_true p385
                            replace q385 := eq_true q385
                            refine start_ (n := 13) (S := fun w' => w'.cell? ⟨gb384, 0, none⟩ = some (.int .i64 ((rd_T36 l0 x6_1).f0)) ∧ w'.cell? ⟨gb384, 1, none⟩ = some (.int .u64 ((rd_T36 l0 x6_1).f1)) ∧ w'.cell? ⟨gb384, 2, none⟩ = some (.int .i64 ((rd_T36 l0 x6_1).f2)) ∧ w'.cell? ⟨gb384, 3, none⟩ = some (.int .u64 ((rd_T36 l0 x6_1).f3)) ∧ w'.cell? ⟨gb384, 4, none⟩ = some (.int .i64 ((rd_T36 l0 x6_1).f4.f0)) ∧ w'.cell? ⟨gb384, 5, none⟩ = some (.bool ((rd_T36 l0 x6_1).f4.f1)) ∧ w'.cell? ⟨gb384, 6, none⟩ = some (.bool ((rd_T36 l0 x6_1).f4.f2)) ∧ w'.cell? ⟨gb384, 7, none⟩ = some (.slice none 0 0) ∧ w'.cell? (ad385.add ((x5_1).toNat * 8)) = some (.int .i64 ((rd_T36 t374 x5_1).f0)) ∧ w'.cell? ⟨(ad385.add ((x5_1).toNat * 8)).block, (ad385.add ((x5_1).toNat * 8)).off + 1, none⟩ = some (.int .u64 ((rd_T36 t374 x5_1).f1)) ∧ w'.cell? ⟨(ad385.add ((x5_1).toNat * 8)).block, (ad385.add ((x5_1).toNat * 8)).off + 2, none⟩ = some (.int .i64 ((rd_T36 t374 x5_1).f2)) ∧ w'.cell? ⟨(ad385.add ((x5_1).toNat * 8)).block, (ad385.add ((x5_1).toNat * 8)).off + 3, none⟩ = some (.int .u64 ((rd_T36 t374 x5_1).f3)) ∧ w'.cell? ⟨(ad385.add ((x5_1).toNat * 8)).block, (ad385.add ((x5_1).toNat * 8)).off + 4, none⟩ = some (.int .i64 ((rd_T36 t374 x5_1).f4.f0)) ∧ w'.cell? ⟨(ad385.add ((x5_1).toNat * 8)).block, (ad385.add ((x5_1).toNat * 8)).off + 5, none⟩ = some (.bool ((rd_T36 t374 x5_1).f4.f1)) ∧ w'.cell? ⟨(ad385.add ((x5_1).toNat * 8)).block, (ad385.add ((x5_1).toNat * 8)).off + 6, none⟩ = some (.bool ((rd_T36 t374 x5_1).f4.f2)) ∧ w'.cell? ⟨(ad385.add ((x5_1).toNat * 8)).block, (ad385.add ((x5_1).toNat * 8)).off + 7, none⟩ = some (.slice A385_7 ((rd_T36 t374 x5_1).f5).length c385_7)) (ds := []) #[false, false, false, false, false, false, false, false, false, false, false, false, false] (by kernel_rfl) rfl rfl ⟨(blk_cell BK384.out 0).trans rfl, (blk_cell BK384.out 1).trans rfl, (blk_cell BK384.out 2).trans rfl, (blk_cell BK384.out 3).trans rfl, (blk_cell BK384.out 4).trans rfl, (blk_cell BK384.out 5).trans rfl, (blk_cell BK384.out 6).trans rfl, (blk_cell BK384.out 7).trans rfl, hx385_0, hx385_1, hx385_2, hx385_3, hx385_4, hx385_5, hx385_6, hx385_7⟩ (fun hHeld => ?_); refine with_tabW dormerlaw20_ScriptQuiet.tab12 dormerlaw20_ScriptQuiet.bits12 (fun HT_ HW_ => ?_)
                            generalize w33.drew = w34 at HO_4 BK384 HB HL385_7 HR385_7 hx385_0 hx385_1 hx385_2 hx385_3 hx385_4 hx385_5 hx385_6 hx385_7 hHeld ⊢
                            refine pure_ (i := 0) (N := some 40) (v := ?_) (a' := ?_) #[true, false, false, false, false, false, false, false, false, false, false, false, false] rfl rfl (any_of HT_.out (by kernel_rfl)) (fun _ _ _ h => h) (Or.inl ⟨by rfl, ?_⟩) ?_ ?_
                            rotate_left
                            · intro w'
                              go_simp
                              with_reducible rfl
                            rotate_left
                            · simp only [Act.put, List.setIfInBounds_toArray, List.set_cons_zero, List.set_cons_succ, i64_w, i32_w]
                              rfl
                            refine pure_ (i := 1) (N := some 41) (v := ?_) (a' := ?_) #[true, true, false, false, false, false, false, false, false, false, false, false, false] rfl rfl (any_of HT_.out (by kernel_rfl)) (fun _ _ _ h => h) (Or.inl ⟨by rfl, ?_⟩) ?_ ?_
                            rotate_left
                            · intro w'
                              go_simp
                              with_reducible rfl
                            rotate_left
                            · simp only [Act.put, List.setIfInBounds_toArray, List.set_cons_zero, List.set_cons_succ, i64_w, i32_w]
                              rfl
                            refine pure_ (i := 2) (N := some 42) (v := ?_) (a' := ?_) #[true, true, true, false, false, false, false, false, false, false, false, false, false] rfl rfl (any_of HT_.out (by kernel_rfl)) (fun _ _ _ h => h) (Or.inl ⟨by rfl, ?_⟩) ?_ ?_
                            rotate_left
                            · intro w'
                              go_simp
                              with_reducible rfl
                            rotate_left
                            · simp only [Act.put, List.setIfInBounds_toArray, List.set_cons_zero, List.set_cons_succ, i64_w, i32_w]
                              rfl
                            refine pure_ (i := 3) (N := some 43) (v := ?_) (a' := ?_) #[true, true, true, true, false, false, false, false, false, false, false, false, false] rfl rfl (any_of HT_.out (by kernel_rfl)) (fun _ _ _ h => h) (Or.inl ⟨by rfl, ?_⟩) ?_ ?_
                            rotate_left
                            · intro w'
                              go_simp
                              with_reducible rfl
                            rotate_left
                            · simp only [Act.put, List.setIfInBounds_toArray, List.set_cons_zero, List.set_cons_succ, i64_w, i32_w]
                              rfl
                            refine pure_ (i := 4) (N := some 44) (v := ?_) (a' := ?_) #[true, true, true, true, true, false, false, false, false, false, false, false, false] rfl rfl (any_of HT_.out (by kernel_rfl)) (fun _ _ _ h => h) (Or.inl ⟨by rfl, ?_⟩) ?_ ?_
                            rotate_left
                            · intro w'
                              go_simp
                              with_reducible rfl
                            rotate_left
                            · simp only [Act.put, List.setIfInBounds_toArray, List.set_cons_zero, List.set_cons_succ, i64_w, i32_w]
                              rfl
                            refine pure_ (i := 5) (N := some 45) (v := ?_) (a' := ?_) #[true, true, true, true, true, true, false, false, false, false, false, false, false] rfl rfl (any_of HT_.out (by kernel_rfl)) (fun _ _ _ h => h) (Or.inl ⟨by rfl, ?_⟩) ?_ ?_
                            rotate_left
                            · intro w'
                              go_simp
                              with_reducible rfl
                            rotate_left
                            · simp only [Act.put, List.setIfInBounds_toArray, List.set_cons_zero, List.set_cons_succ, i64_w, i32_w]
                              rfl
                            refine pure_ (i := 6) (N := some 46) (v := ?_) (a' := ?_) #[true, true, true, true, true, true, true, false, false, false, false, false, false] rfl rfl (any_of HT_.out (by kernel_rfl)) (fun _ _ _ h => h) (Or.inl ⟨by rfl, ?_⟩) ?_ ?_
                            rotate_left
                            · intro w'
                              go_simp
                              with_reducible rfl
                            rotate_left
                            · simp only [Act.put, List.setIfInBounds_toArray, List.set_cons_zero, List.set_cons_succ, i64_w, i32_w]
                              rfl
                            refine pure_ (i := 7) (N := some 47) (v := ?_) (a' := ?_) #[true, true, true, true, true, true, true, true, false, false, false, false, false] rfl rfl (any_of HT_.out (by kernel_rfl)) (fun _ _ _ h => h) (Or.inl ⟨by rfl, ?_⟩) ?_ ?_
                            rotate_left
                            · intro w'
                              go_simp
                              with_reducible rfl
                            rotate_left
                            · simp only [Act.put, List.setIfInBounds_toArray, List.set_cons_zero, List.set_cons_succ, i64_w, i32_w]
                              rfl
                            refine take_ (i := 8) (N := some 48) (v := ?_) (a' := ?_) #[true, true, true, true, true, true, true, true, true, false, false, false, false] rfl rfl (take_ofW HT_.out HW_.out (by kernel_rfl)) (fun _ _ _ h => h) (Or.inl ⟨by rfl, ?_⟩) hHeld ?_ ?_
                            rotate_left
                            · rintro w' ⟨s0, s1, s2, s3, s4, s5, s6, s7, s8, s9, s10, s11, s12, s13, s14, s15⟩
                              go_simp
                              with_reducible rfl
                            rotate_left
                            · simp only [Act.put, List.setIfInBounds_toArray, List.set_cons_zero, List.set_cons_succ, i64_w, i32_w]
                              rfl
                            refine take_ (i := 9) (N := some 49) (v := ?_) (a' := ?_) #[true, true, true, true, true, true, true, true, true, true, false, false, false] rfl rfl (take_ofW HT_.out HW_.out (by kernel_rfl)) (fun _ _ _ h => h) (Or.inl ⟨by rfl, ?_⟩) hHeld ?_ ?_
                            rotate_left
                            · rintro w' ⟨s0, s1, s2, s3, s4, s5, s6, s7, s8, s9, s10, s11, s12, s13, s14, s15⟩
                              go_simp
                              with_reducible rfl
                            rotate_left
                            · simp only [Act.put, List.setIfInBounds_toArray, List.set_cons_zero, List.set_cons_succ, i64_w, i32_w]
                              rfl
                            refine one_ (i := 10) (N := some 50) #[true, true, true, true, true, true, true, true, true, true, true, false, false] rfl rfl (one_of HT_.out (by kernel_rfl)) (by decide) (fun K hK => ?_)
                            refine goes_ Try.func14 (by kernel_rfl) rfl #[.agg #[.int .i64 ((rd_T36 t374 x5_1).f0), .int .u64 ((rd_T36 t374 x5_1).f1), .int .i64 ((rd_T36 t374 x5_1).f2), .int .u64 ((rd_T36 t374 x5_1).f3), .int .i64 ((rd_T36 t374 x5_1).f4.f0), .bool ((rd_T36 t374 x5_1).f4.f1), .bool ((rd_T36 t374 x5_1).f4.f2), .slice A385_7 ((rd_T36 t374 x5_1).f5).length c385_7], .agg #[.int .i64 ((rd_T36 l0 x6_1).f0), .int .u64 ((rd_T36 l0 x6_1).f1), .int .i64 ((rd_T36 l0 x6_1).f2), .int .u64 ((rd_T36 l0 x6_1).f3), .int .i64 ((rd_T36 l0 x6_1).f4.f0), .bool ((rd_T36 l0 x6_1).f4.f1), .bool ((rd_T36 l0 x6_1).f4.f2), .slice none 0 0]] (by rfl) rfl rfl (by (try simp only [List.map_toArray, List.map_cons, List.map_nil]); first | done | rfl | (simp only [List.length_drop, List.length_take]; rfl)) ?_
                            refine (script_Same.calls kj8 ((rd_T36 t374 x5_1).f0) ((rd_T36 t374 x5_1).f1) ((rd_T36 t374 x5_1).f2) ((rd_T36 t374 x5_1).f3) ((rd_T36 t374 x5_1).f4.f0) ((rd_T36 t374 x5_1).f4.f1) ((rd_T36 t374 x5_1).f4.f2) _ _ ((rd_T36 t374 x5_1).f5) ((rd_T36 l0 x6_1).f0) ((rd_T36 l0 x6_1).f1) ((rd_T36 l0 x6_1).f2) ((rd_T36 l0 x6_1).f3) ((rd_T36 l0 x6_1).f4.f0) ((rd_T36 l0 x6_1).f4.f1) ((rd_T36 l0 x6_1).f4.f2) _ _ ([] : List Int) false _ ?side1 ?side2 ?side3 ?side4 A23.out).mono ?_
                            (case side1 => repeat (first | exact (by repeat (first | (with_reducible exact HR385_7.out) | (with_reducible refine Kd.C_alloc ?_ _) | (with_reducible refine Kd.C_drewN ?_ _) | (with_reducible refine Kd.C_drew ?_) | exact HR385_7.out)) | (with_reducible refine Kd.C_alloc ?_ _) | (with_reducible refine Kd.C_drewN ?_ _) | (with_reducible refine Kd.C_drew ?_)))
                            (case side2 => exact HC385_7.out)
                            (case side3 => exact Kd.C_nil _ _)
                            (case side4 => exact Nat.le_refl _)
                            rintro e w36 ⟨rfl, hb⟩
                            have HS8_ := (hb.cell (World.block_lt_of_cell? _ _ (hHeld.2.2.2.2.2.2.2.2.1))).trans (hHeld.2.2.2.2.2.2.2.2.1)
                            have HS9_ := (hb.cell (World.block_lt_of_cell? _ _ (hHeld.2.2.2.2.2.2.2.2.2.1))).trans (hHeld.2.2.2.2.2.2.2.2.2.1)
                            have HS10_ := (hb.cell (World.block_lt_of_cell? _ _ (hHeld.2.2.2.2.2.2.2.2.2.2.1))).trans (hHeld.2.2.2.2.2.2.2.2.2.2.1)
                            have HS11_ := (hb.cell (World.block_lt_of_cell? _ _ (hHeld.2.2.2.2.2.2.2.2.2.2.2.1))).trans (hHeld.2.2.2.2.2.2.2.2.2.2.2.1)
                            have HS12_ := (hb.cell (World.block_lt_of_cell? _ _ (hHeld.2.2.2.2.2.2.2.2.2.2.2.2.1))).trans (hHeld.2.2.2.2.2.2.2.2.2.2.2.2.1)
                            have HS13_ := (hb.cell (World.block_lt_of_cell? _ _ (hHeld.2.2.2.2.2.2.2.2.2.2.2.2.2.1))).trans (hHeld.2.2.2.2.2.2.2.2.2.2.2.2.2.1)
                            have HS14_ := (hb.cell (World.block_lt_of_cell? _ _ (hHeld.2.2.2.2.2.2.2.2.2.2.2.2.2.2.1))).trans (hHeld.2.2.2.2.2.2.2.2.2.2.2.2.2.2.1)
                            have HS15_ := (hb.cell (World.block_lt_of_cell? _ _ (hHeld.2.2.2.2.2.2.2.2.2.2.2.2.2.2.2))).trans (hHeld.2.2.2.2.2.2.2.2.2.2.2.2.2.2.2)
                            refine ⟨_, rfl, ?_⟩
                            have n0_ := Aside0.mk (Kd.S_below (by (with_reducible repeat (first | apply Kd.S_alloc | apply Kd.S_drewN | apply Kd.S_drew)); exact HO_4.out) hb)
                            have n1_ := Aside0.mk (Kd.R_below (by (with_reducible repeat (first | apply Kd.R_alloc | apply Kd.R_drewN | apply Kd.R_drew)); exact HL385_7.out) hb)
                            have n2_ := Aside0.mk (blk_below (g := gb384) (o := .cells #[.int .i64 ((rd_T36 l0 x6_1).f0), .int .u64 ((rd_T36 l0 x6_1).f1), .int .i64 ((rd_T36 l0 x6_1).f2), .int .u64 ((rd_T36 l0 x6_1).f3), .int .i64 ((rd_T36 l0 x6_1).f4.f0), .bool ((rd_T36 l0 x6_1).f4.f1), .bool ((rd_T36 l0 x6_1).f4.f2), .slice none 0 0] 36 (0, 0)) (by (with_reducible repeat (first | refine blk_drewN ?_ _ | refine blk_drew ?_ | refine blk_alloc ?_ _)); exact BK384.out) hb)
                            have n3_ := Aside0.mk (Kd.C_below (by repeat (first | (with_reducible exact HR385_7.out) | (with_reducible refine Kd.C_alloc ?_ _) | (with_reducible refine Kd.C_drewN ?_ _) | (with_reducible refine Kd.C_drew ?_) | exact HR385_7.out)) hb)
                            have n4_ := Aside0.mk (below_step (by repeat (first | (with_reducible first | exact HB.out | apply below_alloc | apply pw_below_drewN | apply below_drew1 | refine below_set ?_ GE384.out) | exact HB.out)) hb)
                            clear HO_4
                            clear HL385_7
                            clear BK384
                            clear HR385_7
                            clear HB
                            have HO_4 := n0_
                            have HL385_7 := n1_
                            have BK384 := n2_
                            have HR385_7 := n3_
                            have HB := n4_
                            clear n0_ n1_ n2_ n3_ n4_
                            (try clear hb)
                            (try clear hb2)
                            (try clear hk)
                            (try clear hi)
                            refine hK.out _ _ ⟨(blk_cell BK384.out 0).trans rfl, (blk_cell BK384.out 1).trans rfl, (blk_cell BK384.out 2).trans rfl, (blk_cell BK384.out 3).trans rfl, (blk_cell BK384.out 4).trans rfl, (blk_cell BK384.out 5).trans rfl, (blk_cell BK384.out 6).trans rfl, (blk_cell BK384.out 7).trans rfl, HS8_, HS9_, HS10_, HS11_, HS12_, HS13_, HS14_, HS15_⟩ (fun hHeld => ?_)
                            clear hK K
                            refine norm_ (a' := ?_) ?_ ?_
                            rotate_left
                            · show Act.put _ (some 50) _ = _
                              simp only [Act.put, List.setIfInBounds_toArray, List.set_cons_zero, List.set_cons_succ, i64_w, i32_w]
                              rfl
                            refine pure_ (i := 11) (N := some 51) (v := ?_) (a' := ?_) #[true, true, true, true, true, true, true, true, true, true, true, true, false] rfl rfl (any_of HT_.out (by kernel_rfl)) (fun _ _ _ h => h) (Or.inl ⟨by rfl, ?_⟩) ?_ ?_
                            rotate_left
                            · intro w'
                              go_simp
                              with_reducible rfl
                            rotate_left
                            · simp only [Act.put, List.setIfInBounds_toArray, List.set_cons_zero, List.set_cons_succ, i64_w, i32_w]
                              rfl
                            refine pure_ (i := 12) (N := some 52) (v := ?_) (a' := ?_) #[true, true, true, true, true, true, true, true, true, true, true, true, true] rfl rfl (any_of HT_.out (by kernel_rfl)) (fun _ _ _ h => h) (Or.inl ⟨by rfl, ?_⟩) ?_ ?_
                            rotate_left
                            · intro w'
                              go_simp
                              with_reducible rfl
                            rotate_left
                            · simp only [Act.put, List.setIfInBounds_toArray, List.set_cons_zero, List.set_cons_succ, i64_w, i32_w]
                              rfl
                            refine done_ (done_of HT_.out (by kernel_rfl)) ?_
                            try go_wp2
                            go_ret
                            exact ⟨by first | rfl | (simp [errW_none, errW_some] <;> rfl) | (simp [*, errW_none, errW_some] <;> rfl), by repeat (first | (with_reducible first | exact HB.out | apply below_alloc | apply pw_below_drewN | apply below_drew1 | refine below_set ?_ GE384.out) | exact HB.out)⟩
                        · rw [if_neg c22] at H
                          exact absurd H (by simp)
                      · rw [if_neg c21] at H
                        exact absurd H (by simp)
                  · rw [if_neg c14] at H
                    exact absurd H (by simp)
                · rw [if_neg c13] at H
                  exact absurd H (by simp)
        · rw [if_neg c8] at H
          have c8b0 : decide (x6_1 < (l0.length : Int)) = false := decide_eq_false c8
          clear c8
          by_cases c37 : t373 = true
          · subst c37
            have H1 : (if x5_1 = (t374.length : Int) then ((script_Quiet.f k1 t374).bind fun t377 => ((dormerref20_List.f k1 t377 t374).bind fun t380 => (some t380))) else (some false)) = some r := by rw [if_pos rfl] at H; exact H
            clear H
            have H := H1
            clear H1
            by_cases c38 : x5_1 = (t374.length : Int)
            · rw [if_pos c38] at H
              have c38b0 : (x5_1 == (t374.length : Int)) = true := beq_iff_eq.mpr c38
              have c38b1 : (x5_1 != (t374.length : Int)) = false := bne_eq_false_iff_eq.mpr c38
              clear c38
              replace H := Option.bind_eq_some_iff.mp H
              obtain ⟨t377, A390, H⟩ := H
              replace H : ((dormerref20_List.f k1 t377 t374).bind fun t380 => (some t380)) = some r := H
              have A39 := Aside0.mk A390
              clear A390
              replace H := Option.bind_eq_some_iff.mp H
              obtain ⟨t380, A400, H⟩ := H
              replace H : (some t380) = some r := H
              have A40 := Aside0.mk A400
              clear A400
              obtain rfl := Option.some.inj H
              obtain ⟨Ao41, co41, eo41⟩ := Kd.S_slice HO_4.out
              subst eo41
              go_wp2_with (first | (go_at_call 19; (with_reducible refine (script_Quiet.calls k1 _ _ t374 t377 _ ?side1 ?side2 A39.out).mono ?_); (case side1 => repeat (first | exact (Kd.S_reads' HO_4.out).2.2 | (with_reducible refine Kd.C_alloc ?_ _) | (with_reducible refine Kd.C_drewN ?_ _) | (with_reducible refine Kd.C_drew ?_))); (case side2 => exact (Kd.S_reads' HO_4.out).2.1); rintro e w42 ⟨v378, rfl, ho0, hb⟩; have n0_ := Aside0.mk (Kd.S_elder' (by (with_reducible repeat (first | apply Kd.S_alloc | apply Kd.S_drewN | apply Kd.S_drew)); exact HO_4.out) (Kd.S_base ho0) hb); have n1_ := Aside0.mk (Kd.S_lower (Kd.S_new' ho0 (Kd.S_lt (by (with_reducible repeat (first | apply Kd.S_alloc | apply Kd.S_drewN | apply Kd.S_drew)); exact HO_4.out))) (below_size (by repeat (first | (with_reducible first | exact HB.out | apply below_alloc | apply pw_below_drewN | apply below_drew1) | exact HB.out)))); have n2_ := Aside0.mk (below_step (by repeat (first | (with_reducible first | exact HB.out | apply below_alloc | apply pw_below_drewN | apply below_drew1) | exact HB.out)) hb); clear HO_4; clear HB; have HO_4 := n0_; have HO379 := n1_; have HB := n2_; clear n0_ n1_ n2_; (try clear hb); (try clear hb2); (try clear hk); (try clear hi); (try clear ho0); obtain ⟨Ao43, co43, eo43⟩ := Kd.S_slice HO379.out; subst eo43) | (go_at_call 16; (with_reducible refine (dormerref20_List.calls k1 _ _ t377 _ _ t374 t380 _ ?side1 ?side2 ?side3 ?side4 A40.out).mono ?_); (case side1 => repeat (first | exact (Kd.S_reads' HO379.out).2.2 | (with_reducible refine Kd.C_alloc ?_ _) | (with_reducible refine Kd.C_drewN ?_ _) | (with_reducible refine Kd.C_drew ?_))); (case side2 => exact (Kd.S_reads' HO379.out).2.1); (case side3 => repeat (first | exact (Kd.S_reads' HO_4.out).2.2 | (with_reducible refine Kd.C_alloc ?_ _) | (with_reducible refine Kd.C_drewN ?_ _) | (with_reducible refine Kd.C_drew ?_))); (case side4 => exact (Kd.S_reads' HO_4.out).2.1); rintro e w44 ⟨rfl, hb⟩; have n0_ := Aside0.mk (Kd.S_below (by (with_reducible repeat (first | apply Kd.S_alloc | apply Kd.S_drewN | apply Kd.S_drew)); exact HO_4.out) hb); have n1_ := Aside0.mk (Kd.S_below (by (with_reducible repeat (first | apply Kd.S_alloc | apply Kd.S_drewN | apply Kd.S_drew)); exact HO379.out) hb); have n2_ := Aside0.mk (below_step (by repeat (first | (with_reducible first | exact HB.out | apply below_alloc | apply pw_below_drewN | apply below_drew1) | exact HB.out)) hb); clear HO_4; clear HO379; clear HB; have HO_4 := n0_; have HO379 := n1_; have HB := n2_; clear n0_ n1_ n2_; (try clear hb); (try clear hb2); (try clear hk); (try clear hi)))
              go_ret
              exact ⟨by first | rfl | (simp [errW_none, errW_some] <;> rfl) | (simp [*, errW_none, errW_some] <;> rfl), by repeat (first | (with_reducible first | exact HB.out | apply below_alloc | apply pw_below_drewN | apply below_drew1) | exact HB.out)⟩
            · rw [if_neg c38] at H
              have c38b0 : (x5_1 == (t374.length : Int)) = false := beq_eq_false_iff_ne.mpr c38
              have c38b1 : (x5_1 != (t374.length : Int)) = true := bne_iff_ne.mpr c38
              obtain rfl := Option.some.inj H
              obtain ⟨Ao45, co45, eo45⟩ := Kd.S_slice HO_4.out
              subst eo45
              go_wp2
              go_ret
              exact ⟨by first | rfl | (simp [errW_none, errW_some] <;> rfl) | (simp [*, errW_none, errW_some] <;> rfl), by repeat (first | (with_reducible first | exact HB.out | apply below_alloc | apply pw_below_drewN | apply below_drew1) | exact HB.out)⟩
          · replace c37 := Bool.eq_false_iff.mpr c37
            subst c37
            have H1 : (some false) = some r := by rw [if_neg (show ¬ (false = true) by decide)] at H; exact H
            clear H
            have H := H1
            clear H1
            obtain rfl := Option.some.inj H
            go_wp2
            go_ret
            exact ⟨by first | rfl | (simp [errW_none, errW_some] <;> rfl) | (simp [*, errW_none, errW_some] <;> rfl), by repeat (first | (with_reducible first | exact HB.out | apply below_alloc | apply pw_below_drewN | apply below_drew1) | exact HB.out)⟩

end Go.Proofs.Ytlccjklljlddhaa.Fn
