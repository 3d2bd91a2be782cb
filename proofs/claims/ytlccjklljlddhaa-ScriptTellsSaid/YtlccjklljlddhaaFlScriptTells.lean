-- PRINTED by print.py (a twelfth state) out of the translation. Not trusted: Lean checks it.
import Derived.Test.YtlccjklljlddhaaFnx0
import Derived.Test.YtlccjklljlddhaaFnB
import Derived.Test.YtlccjklljlddhaaFnx2
import Derived.Test.YtlccjklljlddhaaFnx4
import Derived.Test.YtlccjklljlddhaaFnx6
import Derived.Test.YtlccjklljlddhaaFnx7
import Derived.Test.YtlccjklljlddhaaFnx8
import Derived.Test.YtlccjklljlddhaaFnx9
import Derived.Test.YtlccjklljlddhaaFnT
namespace Go.Proofs.Ytlccjklljlddhaa.Fn
open Go.RowKit Go.Proofs.YtlccjklljlddhaaW.PrintWords Go.Proofs.YtlccjklljlddhaaW.PrintLast Go.Proofs.YtlccjklljlddhaaW.PrintMore
attribute [local go_sem] max2_int min2_int max_two min_two max_three min_three max_four min_four   -- for this text's walks alone
set_option linter.unusedVariables false
set_option linter.unusedSimpArgs false

/-! ### dormerlaw20_ScriptTells: function 3 -/
mutual
def dormerlaw20_ScriptTells.j0 : Nat → List (S36) → List Int → Bool → Bool → Option (Bool)
  | 0, _, _, _, _ => none
  | k + 1, x0, x1, x5, x19 => if x19 = true then (some x5) else ((script_Encode.f k x0).bind fun bt292 => ((dormerref20_Encode.f k x0).bind fun bt296 => (dormerlaw20_ScriptTells.l0 k x0 x1 x5 bt292.1 bt292.2 bt296.1 bt296.2 0)))
def dormerlaw20_ScriptTells.l0 : Nat → List (S36) → List Int → Bool → List Int → Int → List Int → Int → Int → Option (Bool)
  | 0, _, _, _, _, _, _, _, _ => none
  | k + 1, x0, x1, x5, x6, x7, x8, x9, x10 => if x10 < (x0.length : Int) then (if 0 ≤ x10 then ((script_May.f k ((rd_T36 x0 x10).f0) ((rd_T36 x0 x10).f1) ((rd_T36 x0 x10).f2) ((rd_T36 x0 x10).f3) ((rd_T36 x0 x10).f4.f0) ((rd_T36 x0 x10).f4.f1) ((rd_T36 x0 x10).f4.f2) ((rd_T36 x0 x10).f5)).bind fun t301 => ((dormerref20_May.f k ((rd_T36 x0 x10).f0) ((rd_T36 x0 x10).f1) ((rd_T36 x0 x10).f2) ((rd_T36 x0 x10).f3) ((rd_T36 x0 x10).f4.f0) ((rd_T36 x0 x10).f4.f1) ((rd_T36 x0 x10).f4.f2) ((rd_T36 x0 x10).f5)).bind fun t303 => (if (t301 != t303) = true then (some false) else (if 0 < (x0.length : Int) then ((script_Same.f k ((rd_T36 x0 x10).f0) ((rd_T36 x0 x10).f1) ((rd_T36 x0 x10).f2) ((rd_T36 x0 x10).f3) ((rd_T36 x0 x10).f4.f0) ((rd_T36 x0 x10).f4.f1) ((rd_T36 x0 x10).f4.f2) ((rd_T36 x0 x10).f5) ((rd_T36 x0 0).f0) ((rd_T36 x0 0).f1) ((rd_T36 x0 0).f2) ((rd_T36 x0 0).f3) ((rd_T36 x0 0).f4.f0) ((rd_T36 x0 0).f4.f1) ((rd_T36 x0 0).f4.f2) ((rd_T36 x0 0).f5)).bind fun t306 => ((dormerref20_Same.f k ((rd_T36 x0 x10).f0) ((rd_T36 x0 x10).f1) ((rd_T36 x0 x10).f2) ((rd_T36 x0 x10).f3) ((rd_T36 x0 x10).f4.f0) ((rd_T36 x0 x10).f4.f1) ((rd_T36 x0 x10).f4.f2) ((rd_T36 x0 x10).f5) ((rd_T36 x0 0).f0) ((rd_T36 x0 0).f1) ((rd_T36 x0 0).f2) ((rd_T36 x0 0).f3) ((rd_T36 x0 0).f4.f0) ((rd_T36 x0 0).f4.f1) ((rd_T36 x0 0).f4.f2) ((rd_T36 x0 0).f5)).bind fun t309 => (if (t306 != t309) = true then (some false) else (dormerlaw20_ScriptTells.l0 k x0 x1 x5 x6 x7 x8 x9 (wrap64 (x10 + 1)))))) else (none))))) else (none)) else (if x5 = true then (if (strOfNums x6).toList = (strOfNums x8).toList then (if x7 = x9 then ((script_Decode.f k x1).bind fun t310 => ((dormerref20_Decode.f k x1).bind fun t313 => ((dormerref20_List.f k t310 t313).bind fun t316 => (if t316 = true then ((script_Quiet.f k x0).bind fun t317 => ((dormerref20_Quiet.f k x0).bind fun t320 => ((dormerref20_List.f k t317 t320).bind fun t323 => (some t323)))) else (some false))))) else (some false)) else (some false)) else (some false))
end
def dormerlaw20_ScriptTells.f (k : Nat) (l0 : List (S36)) (l1 : List Int) : Option (Bool) := (dormerlaw20_awake.f).bind fun t291 => (if (l0.length : Int) > 100 then (dormerlaw20_ScriptTells.j0 k l0 l1 t291 true) else (dormerlaw20_ScriptTells.j0 k l0 l1 t291 (decide ((l1.length : Int) > 2000))))
theorem dormerlaw20_ScriptTells.mono_l : ∀ k, (∀ y0 y1 y2 y3, LeO (dormerlaw20_ScriptTells.j0 k y0 y1 y2 y3) (dormerlaw20_ScriptTells.j0 (k + 1) y0 y1 y2 y3)) ∧ (∀ y0 y1 y2 y3 y4 y5 y6 y7, LeO (dormerlaw20_ScriptTells.l0 k y0 y1 y2 y3 y4 y5 y6 y7) (dormerlaw20_ScriptTells.l0 (k + 1) y0 y1 y2 y3 y4 y5 y6 y7))
  | 0 => ⟨fun _ _ _ _ r h => by simp [dormerlaw20_ScriptTells.j0] at h, fun _ _ _ _ _ _ _ _ r h => by simp [dormerlaw20_ScriptTells.l0] at h⟩
  | k + 1 => by
    obtain ⟨ih0, ih1⟩ := dormerlaw20_ScriptTells.mono_l k
    refine ⟨?_, ?_⟩
    · intro y0 y1 y2 y3
      unfold dormerlaw20_ScriptTells.j0
      repeat' first
      | (with_reducible exact ih0 _ _ _ _)
      | (with_reducible exact ih1 _ _ _ _ _ _ _ _)
      | (with_reducible exact dormerref20_Decode.mono _ _)
      | (with_reducible exact dormerref20_Encode.mono _ _)
      | (with_reducible exact dormerref20_List.mono _ _ _)
      | (with_reducible exact dormerref20_May.mono _ _ _ _ _ _ _ _ _)
      | (with_reducible exact dormerref20_Quiet.mono _ _)
      | (with_reducible exact dormerref20_Same.mono _ _ _ _ _ _ _ _ _ _ _ _ _ _ _ _ _)
      | (with_reducible exact script_Decode.mono _ _)
      | (with_reducible exact script_Encode.mono _ _)
      | (with_reducible exact script_May.mono _ _ _ _ _ _ _ _ _)
      | (with_reducible exact script_Quiet.mono _ _)
      | (with_reducible exact script_Same.mono _ _ _ _ _ _ _ _ _ _ _ _ _ _ _ _ _)
      | (with_reducible exact LeO.refl _)
      | (with_reducible exact LeO.none _)
      | (with_reducible refine LeO.ite ?_ ?_)
      | (with_reducible refine LeO.bind ?_ (fun _ => ?_))
      | exact ih0 _ _ _ _
      | exact ih1 _ _ _ _ _ _ _ _
      | exact dormerref20_Decode.mono _ _
      | exact dormerref20_Encode.mono _ _
      | exact dormerref20_List.mono _ _ _
      | exact dormerref20_May.mono _ _ _ _ _ _ _ _ _
      | exact dormerref20_Quiet.mono _ _
      | exact dormerref20_Same.mono _ _ _ _ _ _ _ _ _ _ _ _ _ _ _ _ _
      | exact script_Decode.mono _ _
      | exact script_Encode.mono _ _
      | exact script_May.mono _ _ _ _ _ _ _ _ _
      | exact script_Quiet.mono _ _
      | exact script_Same.mono _ _ _ _ _ _ _ _ _ _ _ _ _ _ _ _ _
      | exact LeO.none _
      | refine LeO.ite ?_ ?_
      | refine LeO.bind ?_ (fun _ => ?_)
    · intro y0 y1 y2 y3 y4 y5 y6 y7
      unfold dormerlaw20_ScriptTells.l0
      repeat' first
      | (with_reducible exact ih0 _ _ _ _)
      | (with_reducible exact ih1 _ _ _ _ _ _ _ _)
      | (with_reducible exact dormerref20_Decode.mono _ _)
      | (with_reducible exact dormerref20_Encode.mono _ _)
      | (with_reducible exact dormerref20_List.mono _ _ _)
      | (with_reducible exact dormerref20_May.mono _ _ _ _ _ _ _ _ _)
      | (with_reducible exact dormerref20_Quiet.mono _ _)
      | (with_reducible exact dormerref20_Same.mono _ _ _ _ _ _ _ _ _ _ _ _ _ _ _ _ _)
      | (with_reducible exact script_Decode.mono _ _)
      | (with_reducible exact script_Encode.mono _ _)
      | (with_reducible exact script_May.mono _ _ _ _ _ _ _ _ _)
      | (with_reducible exact script_Quiet.mono _ _)
      | (with_reducible exact script_Same.mono _ _ _ _ _ _ _ _ _ _ _ _ _ _ _ _ _)
      | (with_reducible exact LeO.refl _)
      | (with_reducible exact LeO.none _)
      | (with_reducible refine LeO.ite ?_ ?_)
      | (with_reducible refine LeO.bind ?_ (fun _ => ?_))
      | exact ih0 _ _ _ _
      | exact ih1 _ _ _ _ _ _ _ _
      | exact dormerref20_Decode.mono _ _
      | exact dormerref20_Encode.mono _ _
      | exact dormerref20_List.mono _ _ _
      | exact dormerref20_May.mono _ _ _ _ _ _ _ _ _
      | exact dormerref20_Quiet.mono _ _
      | exact dormerref20_Same.mono _ _ _ _ _ _ _ _ _ _ _ _ _ _ _ _ _
      | exact script_Decode.mono _ _
      | exact script_Encode.mono _ _
      | exact script_May.mono _ _ _ _ _ _ _ _ _
      | exact script_Quiet.mono _ _
      | exact script_Same.mono _ _ _ _ _ _ _ _ _ _ _ _ _ _ _ _ _
      | exact LeO.none _
      | refine LeO.ite ?_ ?_
      | refine LeO.bind ?_ (fun _ => ?_)
theorem dormerlaw20_ScriptTells.mono : ∀ a0 a1 k, LeO (dormerlaw20_ScriptTells.f k a0 a1) (dormerlaw20_ScriptTells.f (k + 1) a0 a1) := by
  intro a0 a1 k
  obtain ⟨ih0, ih1⟩ := dormerlaw20_ScriptTells.mono_l k
  unfold dormerlaw20_ScriptTells.f
  repeat' first
      | (with_reducible exact ih0 _ _ _ _)
      | (with_reducible exact ih1 _ _ _ _ _ _ _ _)
      | (with_reducible exact dormerref20_Decode.mono _ _)
      | (with_reducible exact dormerref20_Encode.mono _ _)
      | (with_reducible exact dormerref20_List.mono _ _ _)
      | (with_reducible exact dormerref20_May.mono _ _ _ _ _ _ _ _ _)
      | (with_reducible exact dormerref20_Quiet.mono _ _)
      | (with_reducible exact dormerref20_Same.mono _ _ _ _ _ _ _ _ _ _ _ _ _ _ _ _ _)
      | (with_reducible exact script_Decode.mono _ _)
      | (with_reducible exact script_Encode.mono _ _)
      | (with_reducible exact script_May.mono _ _ _ _ _ _ _ _ _)
      | (with_reducible exact script_Quiet.mono _ _)
      | (with_reducible exact script_Same.mono _ _ _ _ _ _ _ _ _ _ _ _ _ _ _ _ _)
      | (with_reducible exact LeO.refl _)
      | (with_reducible exact LeO.none _)
      | (with_reducible refine LeO.ite ?_ ?_)
      | (with_reducible refine LeO.bind ?_ (fun _ => ?_))
      | exact ih0 _ _ _ _
      | exact ih1 _ _ _ _ _ _ _ _
      | exact dormerref20_Decode.mono _ _
      | exact dormerref20_Encode.mono _ _
      | exact dormerref20_List.mono _ _ _
      | exact dormerref20_May.mono _ _ _ _ _ _ _ _ _
      | exact dormerref20_Quiet.mono _ _
      | exact dormerref20_Same.mono _ _ _ _ _ _ _ _ _ _ _ _ _ _ _ _ _
      | exact script_Decode.mono _ _
      | exact script_Encode.mono _ _
      | exact script_May.mono _ _ _ _ _ _ _ _ _
      | exact script_Quiet.mono _ _
      | exact script_Same.mono _ _ _ _ _ _ _ _ _ _ _ _ _ _ _ _ _
      | exact LeO.none _
      | refine LeO.ite ?_ ?_
      | refine LeO.bind ?_ (fun _ => ?_)
def dormerlaw20_ScriptTells.T9 : Bool × List (List Nat × List Nat) := (true, [([], []), ([], []), ([0, 1], [0, 1]), ([2], [2]), ([3], [3]), ([], []), ([], []), ([5, 6], [5, 6]), ([7], [7]), ([8, 4], [8]), ([4, 9], [4, 9]), ([10, 9], [10]), ([11], [11]), ([11], [11]), ([12, 13, 11], [11, 12, 13]), ([14, 11], [11, 14]), ([11], [11]), ([16, 11], [11, 16]), ([17, 11], [11, 17]), ([15, 18, 11, 11], [11, 15, 18]), ([11], [11]), ([11], [11]), ([20, 21, 11], [11, 20, 21]), ([22, 11], [11, 22]), ([11], [11]), ([24, 11], [11, 24]), ([25, 11], [11, 25]), ([23, 26, 19, 11], [11, 23, 26]), ([19, 27, 11], [11, 19, 27]), ([11, 28], [11, 28])])
def dormerlaw20_ScriptTells.B9 : List Nat := [0, 0, 3, 7, 15, 0, 0, 96, 224, 511, 1023, 2047, 4095, 4095, 16383, 32767, 4095, 69631, 200703, 524287, 4095, 4095, 3149823, 7344127, 4095, 16781311, 50335743, 134217727, 268435455, 536870911]
theorem dormerlaw20_ScriptTells.tab9 : rtab .any (opsOf Try.f3 9) = dormerlaw20_ScriptTells.T9 := by kernel_rfl
theorem dormerlaw20_ScriptTells.bits9 : waitsOk dormerlaw20_ScriptTells.T9.2 dormerlaw20_ScriptTells.B9 = true := by kernel_rfl
set_option maxHeartbeats 8000000 in
set_option maxRecDepth 100000 in
theorem dormerlaw20_ScriptTells.calls (k : Nat) (A0 : Option Addr) (c0 : Nat) (l0 : List (S36)) (A1 : Option Addr) (c1 : Nat) (l1 : List Int) (r : Bool) (w : World) (hr0 : Kd.C k36 w A0 l0.length l0) (hc0 : l0.length ≤ c0) (hr1 : Kd.C (Kd.int .u8) w A1 l1.length l1) (hc1 : l1.length ≤ c1) (h : dormerlaw20_ScriptTells.f k l0 l1 = some r) (hR : Hid (r = true)) :
    Calls Try.prog 3 #[.slice A0 l0.length c0, .slice A1 l1.length c1] w fun e w' => e = .returned (.bool r) ∧ Below w.heap.size w w' := by
  have hu36 := Try.underlying36
  have HR0 := Aside0.mk hr0
  have HC0 := Aside0.mk hc0
  clear hr0 hc0
  have HR1 := Aside0.mk hr1
  have HC1 := Aside0.mk hc1
  clear hr1 hc1
  have HB := Aside0.mk (Below.refl w.heap.size w)
  have H : ((dormerlaw20_awake.f).bind fun t291 => (if (l0.length : Int) > 100 then (dormerlaw20_ScriptTells.j0 k l0 l1 t291 true) else (dormerlaw20_ScriptTells.j0 k l0 l1 t291 (decide ((l1.length : Int) > 2000))))) = some r := h
  clear h
  replace H := Option.bind_eq_some_iff.mp H
  obtain ⟨t291, A30, H⟩ := H
  replace H : (if (l0.length : Int) > 100 then (dormerlaw20_ScriptTells.j0 k l0 l1 t291 true) else (dormerlaw20_ScriptTells.j0 k l0 l1 t291 (decide ((l1.length : Int) > 2000)))) = some r := H
  have A3 := Aside0.mk A30
  clear A30
  have HC4 := Aside0.mk H
  clear H
  go_enter Try.func3, Try.ntmps3
  go_upto_region 2 with (first | ((with_reducible refine gate_callee (f := 9) rfl ?_); refine goesL_ (some 11) rfl rfl Try.func9 (by kernel_rfl) rfl #[] rfl (by (try simp only [List.map_toArray, List.map_cons, List.map_nil]); first | done | rfl | (simp only [List.length_drop, List.length_take]; rfl)) ?_; (with_reducible refine (dormerlaw20_awake.calls  t291 _ A3.out).mono ?_); rintro e w5 ⟨rfl, hb⟩; refine ⟨_, rfl, ?_⟩; have n0_ := Aside0.mk (below_step (by repeat (first | (with_reducible first | exact HB.out | apply below_alloc | apply pw_below_drewN | apply below_drew1) | exact HB.out)) hb); clear HB; have HB := n0_; clear n0_; (try clear hb); (try clear hb2); (try clear hk); (try clear hi)))
  (try simp only [Act.put, List.setIfInBounds_toArray, List.set_cons_zero, List.set_cons_succ])
  go_cut [19] (fun v19 wc => ∃ (kq : Nat) (x19_3 : Bool), v19 = .bool x19_3 ∧ Aside0 (dormerlaw20_ScriptTells.j0 kq l0 l1 t291 x19_3 = some r) ∧ Aside0 (kq ≤ k) ∧ Aside0 (Below w.heap.size w wc))
  case first =>
    have H := HC4.out
    clear HC4
    by_cases c6 : (l0.length : Int) > 100
    · rw [if_pos c6] at H
      have c6b0 : decide (100 < (l0.length : Int)) = true := decide_eq_true c6
      have c6b1 : decide (100 < l0.length) = true := decide_eq_true (by omega)
      clear c6
      (first | rw [c6b0] | (simp only [i64_w, i32_w]; rw [c6b0]) | skip)
      have H' := Aside0.mk H
      clear H
      go_wp2
      go_meet
      case rel => exact ⟨_, (true), (by first | rfl | (simp; done) | (simp [*]; done)), H', ⟨by first | omega | exact Nat.le_refl _⟩, ⟨by repeat (first | (with_reducible first | exact HB.out | apply below_alloc | apply pw_below_drewN | apply below_drew1) | exact HB.out)⟩⟩
    · rw [if_neg c6] at H
      have c6b0 : decide (100 < (l0.length : Int)) = false := decide_eq_false c6
      have c6b1 : decide (100 < l0.length) = false := decide_eq_false (by omega)
      clear c6
      (first | rw [c6b0] | (simp only [i64_w, i32_w]; rw [c6b0]) | skip)
      have H' := Aside0.mk H
      clear H
      go_wp2
      go_meet
      case rel => exact ⟨_, (decide ((l1.length : Int) > 2000)), (by first | rfl | (simp; done) | (simp [*]; done)), H', ⟨by first | omega | exact Nat.le_refl _⟩, ⟨by repeat (first | (with_reducible first | exact HB.out | apply below_alloc | apply pw_below_drewN | apply below_drew1) | exact HB.out)⟩⟩
  case rest =>
    clear HC4
    try clear c1
    try clear p2
    try clear c3
    try clear c6
    try clear c6b0
    try clear c6b1
    obtain ⟨kq, x19_3, rfl, HA, HJ3, HB⟩ := hcut
    cases kq with
    | zero => exact absurd HA.out (by simp [dormerlaw20_ScriptTells.j0])
    | succ kj3 =>
      have H := HA.out
      clear HA
      simp only [dormerlaw20_ScriptTells.j0] at H
      by_cases c7 : x19_3 = true
      · subst c7
        have H1 : (some t291) = some r := by rw [if_pos rfl] at H; exact H
        clear H
        have H := H1
        clear H1
        obtain rfl := Option.some.inj H
        go_wp2
        go_ret
        exact ⟨by first | rfl | (simp [errW_none, errW_some] <;> rfl) | (simp [*, errW_none, errW_some] <;> rfl), by repeat (first | (with_reducible first | exact HB.out | apply below_alloc | apply pw_below_drewN | apply below_drew1) | exact HB.out)⟩
      · replace c7 := Bool.eq_false_iff.mpr c7
        subst c7
        have H1 : ((script_Encode.f kj3 l0).bind fun bt292 => ((dormerref20_Encode.f kj3 l0).bind fun bt296 => (dormerlaw20_ScriptTells.l0 kj3 l0 l1 t291 bt292.1 bt292.2 bt296.1 bt296.2 0))) = some r := by rw [if_neg (show ¬ (false = true) by decide)] at H; exact H
        clear H
        have H := H1
        clear H1
        replace H := Option.bind_eq_some_iff.mp H
        obtain ⟨⟨t292, t293⟩, A80, H⟩ := H
        replace H : ((dormerref20_Encode.f kj3 l0).bind fun bt296 => (dormerlaw20_ScriptTells.l0 kj3 l0 l1 t291 t292 t293 bt296.1 bt296.2 0)) = some r := H
        have A8 := Aside0.mk A80
        clear A80
        replace H := Option.bind_eq_some_iff.mp H
        obtain ⟨⟨t296, t297⟩, A90, H⟩ := H
        replace H : (dormerlaw20_ScriptTells.l0 kj3 l0 l1 t291 t292 t293 t296 t297 0) = some r := H
        have A9 := Aside0.mk A90
        clear A90
        have H' := Aside0.mk H
        clear H
        go_wp2_with (first | ((with_reducible refine gate_callee (f := 10) rfl ?_); refine goesL_ (some 23) rfl rfl Try.func10 (by kernel_rfl) rfl #[.slice A0 l0.length c0] rfl (by (try simp only [List.map_toArray, List.map_cons, List.map_nil]); first | done | rfl | (simp only [List.length_drop, List.length_take]; rfl)) ?_; (with_reducible refine (script_Encode.calls kj3 _ _ l0 t292 t293 _ ?side1 ?side2 A8.out).mono ?_); (case side1 => repeat (first | exact (Kd.C_below HR0.out HB.out) | (with_reducible refine Kd.C_alloc ?_ _) | (with_reducible refine Kd.C_drewN ?_ _) | (with_reducible refine Kd.C_drew ?_))); (case side2 => exact HC0.out); rintro e w10 ⟨v294, rfl, ho0, hb⟩; refine ⟨_, rfl, ?_⟩; have n0_ := Aside0.mk (Kd.R_lower ho0 (below_size (by repeat (first | (with_reducible first | exact HB.out | apply below_alloc | apply pw_below_drewN | apply below_drew1) | exact HB.out)))); have n1_ := Aside0.mk (below_step (by repeat (first | (with_reducible first | exact HB.out | apply below_alloc | apply pw_below_drewN | apply below_drew1) | exact HB.out)) hb); clear HB; have HO295 := n0_; have HB := n1_; clear n0_ n1_; (try clear hb); (try clear hb2); (try clear hk); (try clear hi); (try clear ho0)) | ((with_reducible refine gate_callee (f := 11) rfl ?_); refine goesL_ (some 28) rfl rfl Try.func11 (by kernel_rfl) rfl #[.slice A0 l0.length c0] rfl (by (try simp only [List.map_toArray, List.map_cons, List.map_nil]); first | done | rfl | (simp only [List.length_drop, List.length_take]; rfl)) ?_; (with_reducible refine (dormerref20_Encode.calls kj3 _ _ l0 t296 t297 _ ?side1 ?side2 A9.out).mono ?_); (case side1 => repeat (first | exact (Kd.C_below HR0.out HB.out) | (with_reducible refine Kd.C_alloc ?_ _) | (with_reducible refine Kd.C_drewN ?_ _) | (with_reducible refine Kd.C_drew ?_))); (case side2 => exact HC0.out); rintro e w11 ⟨v298, rfl, ho0, hb⟩; refine ⟨_, rfl, ?_⟩; have n0_ := Aside0.mk (Kd.R_elder' (by (with_reducible repeat (first | apply Kd.R_alloc | apply Kd.R_drewN | apply Kd.R_drew)); exact HO295.out) (Kd.R_base ho0) hb); have n1_ := Aside0.mk (Kd.R_lower (Kd.R_new' ho0 (Kd.R_lt (by (with_reducible repeat (first | apply Kd.R_alloc | apply Kd.R_drewN | apply Kd.R_drew)); exact HO295.out))) (below_size (by repeat (first | (with_reducible first | exact HB.out | apply below_alloc | apply pw_below_drewN | apply below_drew1) | exact HB.out)))); have n2_ := Aside0.mk (below_step (by repeat (first | (with_reducible first | exact HB.out | apply below_alloc | apply pw_below_drewN | apply below_drew1) | exact HB.out)) hb); clear HO295; clear HB; have HO295 := n0_; have HO299 := n1_; have HB := n2_; clear n0_ n1_ n2_; (try clear hb); (try clear hb2); (try clear hk); (try clear hi); (try clear ho0)))
        go_loopg [10] kj3 (fun kq v10 w' => ∃ (x10_2 : Int), v10 = .int .i64 x10_2 ∧ Aside0 (dormerlaw20_ScriptTells.l0 kq l0 l1 t291 t292 t293 t296 t297 x10_2 = some r) ∧ Aside0 (kq ≤ kj3) ∧ Aside0 (Kd.R (Kd.int .u8) 5 w' w.heap.size (fun k_ => some k_ ≠ (v298 : Value).ownBlock) v294 t292) ∧ Aside0 (Kd.R (Kd.int .u8) 5 w' w.heap.size (fun k_ => some k_ ≠ (v294 : Value).ownBlock) v298 t296) ∧ Aside0 (Below w.heap.size w w'))
        case atStart => exact ⟨(0), (by first | rfl | (simp; done) | (simp [*]; done)), H', ⟨Nat.le_refl _⟩, ⟨by (with_reducible repeat (first | apply Kd.R_alloc | apply Kd.R_drewN | apply Kd.R_drew)); exact Kd.R_mono HO295.out (fun _ hk => hk.2)⟩, ⟨by (with_reducible repeat (first | apply Kd.R_alloc | apply Kd.R_drewN | apply Kd.R_drew)); exact Kd.R_mono HO299.out (fun _ hk => hk.2)⟩, ⟨by repeat (first | (with_reducible first | exact HB.out | apply below_alloc | apply pw_below_drewN | apply below_drew1) | exact HB.out)⟩⟩
        case round =>
          clear H'
          try clear c1
          try clear p2
          try clear c3
          try clear c6
          try clear c6b0
          try clear c6b1
          try clear c7
          try clear c9
          try clear c10
          try clear c11
          try clear p2
          obtain ⟨x10_2, rfl, HA, HK2, HO_6, HO_8, HB⟩ := hrel
          cases gk with
          | zero => exact absurd HA.out (by simp [dormerlaw20_ScriptTells.l0])
          | succ k2 =>
            have H := HA.out
            clear HA
            simp only [dormerlaw20_ScriptTells.l0] at H
            by_cases c12 : x10_2 < (l0.length : Int)
            · rw [if_pos c12] at H
              have c12b0 : decide (x10_2 < (l0.length : Int)) = true := decide_eq_true c12
              clear c12
              by_cases c13 : 0 ≤ x10_2
              · rw [if_pos c13] at H
                have c13b0 : decide (0 ≤ x10_2) = true := decide_eq_true c13
                clear c13
                replace H := Option.bind_eq_some_iff.mp H
                obtain ⟨t301, A140, H⟩ := H
                replace H : ((dormerref20_May.f k2 ((rd_T36 l0 x10_2).f0) ((rd_T36 l0 x10_2).f1) ((rd_T36 l0 x10_2).f2) ((rd_T36 l0 x10_2).f3) ((rd_T36 l0 x10_2).f4.f0) ((rd_T36 l0 x10_2).f4.f1) ((rd_T36 l0 x10_2).f4.f2) ((rd_T36 l0 x10_2).f5)).bind fun t303 => (if (t301 != t303) = true then (some false) else (if 0 < (l0.length : Int) then ((script_Same.f k2 ((rd_T36 l0 x10_2).f0) ((rd_T36 l0 x10_2).f1) ((rd_T36 l0 x10_2).f2) ((rd_T36 l0 x10_2).f3) ((rd_T36 l0 x10_2).f4.f0) ((rd_T36 l0 x10_2).f4.f1) ((rd_T36 l0 x10_2).f4.f2) ((rd_T36 l0 x10_2).f5) ((rd_T36 l0 0).f0) ((rd_T36 l0 0).f1) ((rd_T36 l0 0).f2) ((rd_T36 l0 0).f3) ((rd_T36 l0 0).f4.f0) ((rd_T36 l0 0).f4.f1) ((rd_T36 l0 0).f4.f2) ((rd_T36 l0 0).f5)).bind fun t306 => ((dormerref20_Same.f k2 ((rd_T36 l0 x10_2).f0) ((rd_T36 l0 x10_2).f1) ((rd_T36 l0 x10_2).f2) ((rd_T36 l0 x10_2).f3) ((rd_T36 l0 x10_2).f4.f0) ((rd_T36 l0 x10_2).f4.f1) ((rd_T36 l0 x10_2).f4.f2) ((rd_T36 l0 x10_2).f5) ((rd_T36 l0 0).f0) ((rd_T36 l0 0).f1) ((rd_T36 l0 0).f2) ((rd_T36 l0 0).f3) ((rd_T36 l0 0).f4.f0) ((rd_T36 l0 0).f4.f1) ((rd_T36 l0 0).f4.f2) ((rd_T36 l0 0).f5)).bind fun t309 => (if (t306 != t309) = true then (some false) else (dormerlaw20_ScriptTells.l0 k2 l0 l1 t291 t292 t293 t296 t297 (wrap64 (x10_2 + 1)))))) else (none)))) = some r := H
                have A14 := Aside0.mk A140
                clear A140
                replace H := Option.bind_eq_some_iff.mp H
                obtain ⟨t303, A150, H⟩ := H
                replace H : (if (t301 != t303) = true then (some false) else (if 0 < (l0.length : Int) then ((script_Same.f k2 ((rd_T36 l0 x10_2).f0) ((rd_T36 l0 x10_2).f1) ((rd_T36 l0 x10_2).f2) ((rd_T36 l0 x10_2).f3) ((rd_T36 l0 x10_2).f4.f0) ((rd_T36 l0 x10_2).f4.f1) ((rd_T36 l0 x10_2).f4.f2) ((rd_T36 l0 x10_2).f5) ((rd_T36 l0 0).f0) ((rd_T36 l0 0).f1) ((rd_T36 l0 0).f2) ((rd_T36 l0 0).f3) ((rd_T36 l0 0).f4.f0) ((rd_T36 l0 0).f4.f1) ((rd_T36 l0 0).f4.f2) ((rd_T36 l0 0).f5)).bind fun t306 => ((dormerref20_Same.f k2 ((rd_T36 l0 x10_2).f0) ((rd_T36 l0 x10_2).f1) ((rd_T36 l0 x10_2).f2) ((rd_T36 l0 x10_2).f3) ((rd_T36 l0 x10_2).f4.f0) ((rd_T36 l0 x10_2).f4.f1) ((rd_T36 l0 x10_2).f4.f2) ((rd_T36 l0 x10_2).f5) ((rd_T36 l0 0).f0) ((rd_T36 l0 0).f1) ((rd_T36 l0 0).f2) ((rd_T36 l0 0).f3) ((rd_T36 l0 0).f4.f0) ((rd_T36 l0 0).f4.f1) ((rd_T36 l0 0).f4.f2) ((rd_T36 l0 0).f5)).bind fun t309 => (if (t306 != t309) = true then (some false) else (dormerlaw20_ScriptTells.l0 k2 l0 l1 t291 t292 t293 t296 t297 (wrap64 (x10_2 + 1)))))) else (none))) = some r := H
                have A15 := Aside0.mk A150
                clear A150
                by_cases c16 : (t301 != t303) = true
                · rw [if_pos c16] at H
                  cases H.trans (congrArg some hR.out)
                · rw [if_neg c16] at H
                  have c16b0 : (t301 != t303) = false := by simpa using c16
                  (try (have c16b1 : decide (t301 = t303) = true := by simpa using c16))
                  (try (have c16b2 : (t301 == t303) = true := by simpa using c16))
                  clear c16
                  by_cases c20 : 0 < (l0.length : Int)
                  · rw [if_pos c20] at H
                    have c20b0 : decide (0 < (l0.length : Int)) = true := decide_eq_true c20
                    have c20b1 : decide (0 < l0.length) = true := decide_eq_true (by omega)
                    clear c20
                    replace H := Option.bind_eq_some_iff.mp H
                    obtain ⟨t306, A210, H⟩ := H
                    replace H : ((dormerref20_Same.f k2 ((rd_T36 l0 x10_2).f0) ((rd_T36 l0 x10_2).f1) ((rd_T36 l0 x10_2).f2) ((rd_T36 l0 x10_2).f3) ((rd_T36 l0 x10_2).f4.f0) ((rd_T36 l0 x10_2).f4.f1) ((rd_T36 l0 x10_2).f4.f2) ((rd_T36 l0 x10_2).f5) ((rd_T36 l0 0).f0) ((rd_T36 l0 0).f1) ((rd_T36 l0 0).f2) ((rd_T36 l0 0).f3) ((rd_T36 l0 0).f4.f0) ((rd_T36 l0 0).f4.f1) ((rd_T36 l0 0).f4.f2) ((rd_T36 l0 0).f5)).bind fun t309 => (if (t306 != t309) = true then (some false) else (dormerlaw20_ScriptTells.l0 k2 l0 l1 t291 t292 t293 t296 t297 (wrap64 (x10_2 + 1))))) = some r := H
                    have A21 := Aside0.mk A210
                    clear A210
                    replace H := Option.bind_eq_some_iff.mp H
                    obtain ⟨t309, A220, H⟩ := H
                    replace H : (if (t306 != t309) = true then (some false) else (dormerlaw20_ScriptTells.l0 k2 l0 l1 t291 t292 t293 t296 t297 (wrap64 (x10_2 + 1)))) = some r := H
                    have A22 := Aside0.mk A220
                    clear A220
                    by_cases c23 : (t306 != t309) = true
                    · rw [if_pos c23] at H
                      cases H.trans (congrArg some hR.out)
                    · rw [if_neg c23] at H
                      have c23b0 : (t306 != t309) = false := by simpa using c23
                      (try (have c23b1 : decide (t306 = t309) = true := by simpa using c23))
                      (try (have c23b2 : (t306 == t309) = true := by simpa using c23))
                      clear c23
                      have H' := Aside0.mk H
                      clear H
                      try go_wp2
                      have n0_ := Aside0.mk (Kd.R_drew HO_6.out)
                      have n1_ := Aside0.mk (Kd.R_drew HO_8.out)
                      have n2_ := Aside0.mk (below_drew1 HB.out)
                      clear HO_6
                      clear HO_8
                      clear HB
                      have HO_6 := n0_
                      have HO_8 := n1_
                      have HB := n2_
                      clear n0_ n1_ n2_
                      have p300 : 0 ≤ (x10_2 : Int) := of_decide_eq_true (by first | (with_reducible assumption) | assumption)
                      have q300 : x10_2 < (l0.length : Int) := of_decide_eq_true (by first | (with_reducible assumption) | assumption)
                      obtain ⟨ad300, A300_7, c300_7, e300, hx300_0, hx300_1, hx300_2, hx300_3, hx300_4, hx300_5, hx300_6, hx300_7, hl300_7, hi300_7⟩ := at_T36 HR0.out x10_2 p300 q300
                      have hw300_7 := hx300_7
                      have hw300_6 := hx300_6
                      have hw300_5 := hx300_5
                      have hw300_4 := hx300_4
                      have hw300_3 := hx300_3
                      have hw300_2 := hx300_2
                      have hw300_1 := hx300_1
                      have hw300_0 := hx300_0
                      cases e300
                      replace hx300_0 := (HB.out.cell (World.block_lt_of_cell? w _ hx300_0)).trans hx300_0
                      replace hx300_1 := (HB.out.cell (World.block_lt_of_cell? w _ hx300_1)).trans hx300_1
                      replace hx300_2 := (HB.out.cell (World.block_lt_of_cell? w _ hx300_2)).trans hx300_2
                      replace hx300_3 := (HB.out.cell (World.block_lt_of_cell? w _ hx300_3)).trans hx300_3
                      replace hx300_4 := (HB.out.cell (World.block_lt_of_cell? w _ hx300_4)).trans hx300_4
                      replace hx300_5 := (HB.out.cell (World.block_lt_of_cell? w _ hx300_5)).trans hx300_5
                      replace hx300_6 := (HB.out.cell (World.block_lt_of_cell? w _ hx300_6)).trans hx300_6
                      replace hx300_7 := (HB.out.cell (World.block_lt_of_cell? w _ hx300_7)).trans hx300_7
                      have HR300_7 := Aside0.mk hi300_7
                      have HC300_7 := Aside0.mk hl300_7
                      clear hi300_7 hl300_7
                      replace p300 := eq_true p300
                      replace q300 := eq_true q300
                      have p302 : 0 ≤ (x10_2 : Int) := of_decide_eq_true (by first | (with_reducible assumption) | assumption)
                      have q302 : x10_2 < (l0.length : Int) := of_decide_eq_true (by first | (with_reducible assumption) | assumption)
                      obtain ⟨ad302, A302_7, c302_7, e302, hx302_0, hx302_1, hx302_2, hx302_3, hx302_4, hx302_5, hx302_6, hx302_7, hl302_7, hi302_7⟩ := at_T36 HR0.out x10_2 p302 q302
                      have hw302_7 := hx302_7
                      have hw302_6 := hx302_6
                      have hw302_5 := hx302_5
                      have hw302_4 := hx302_4
                      have hw302_3 := hx302_3
                      have hw302_2 := hx302_2
                      have hw302_1 := hx302_1
                      have hw302_0 := hx302_0
                      obtain rfl : ad300 = ad302 := (by injection e302)
                      replace hx302_0 := (HB.out.cell (World.block_lt_of_cell? w _ hx302_0)).trans hx302_0
                      replace hx302_1 := (HB.out.cell (World.block_lt_of_cell? w _ hx302_1)).trans hx302_1
                      replace hx302_2 := (HB.out.cell (World.block_lt_of_cell? w _ hx302_2)).trans hx302_2
                      replace hx302_3 := (HB.out.cell (World.block_lt_of_cell? w _ hx302_3)).trans hx302_3
                      replace hx302_4 := (HB.out.cell (World.block_lt_of_cell? w _ hx302_4)).trans hx302_4
                      replace hx302_5 := (HB.out.cell (World.block_lt_of_cell? w _ hx302_5)).trans hx302_5
                      replace hx302_6 := (HB.out.cell (World.block_lt_of_cell? w _ hx302_6)).trans hx302_6
                      replace hx302_7 := (HB.out.cell (World.block_lt_of_cell? w _ hx302_7)).trans hx302_7
                      have HR302_7 := Aside0.mk hi302_7
                      have HC302_7 := Aside0.mk hl302_7
                      clear hi302_7 hl302_7
                      replace p302 := eq_true p302
                      replace q302 := eq_true q302
                      have ea_ := Option.some.inj (hx300_7.symm.trans hx302_7)
                      injection ea_ with ea_ en_ ec_
                      subst ea_
                      subst ec_
                      clear en_
                      have p304 : 0 ≤ (x10_2 : Int) := of_decide_eq_true (by first | (with_reducible assumption) | assumption)
                      have q304 : x10_2 < (l0.length : Int) := of_decide_eq_true (by first | (with_reducible assumption) | assumption)
                      obtain ⟨ad304, A304_7, c304_7, e304, hx304_0, hx304_1, hx304_2, hx304_3, hx304_4, hx304_5, hx304_6, hx304_7, hl304_7, hi304_7⟩ := at_T36 HR0.out x10_2 p304 q304
                      have hw304_7 := hx304_7
                      have hw304_6 := hx304_6
                      have hw304_5 := hx304_5
                      have hw304_4 := hx304_4
                      have hw304_3 := hx304_3
                      have hw304_2 := hx304_2
                      have hw304_1 := hx304_1
                      have hw304_0 := hx304_0
                      obtain rfl : ad300 = ad304 := (by injection e304)
                      have HeA304_ := Aside0.mk (show A300_7 = A304_7 ∧ c300_7 = c304_7 from (by have h_ := hw300_7.symm.trans hw304_7; injection h_ with h_; injection h_ with h1_ h2_ h3_; exact ⟨h1_, h3_⟩))
                      replace hx304_0 := (HB.out.cell (World.block_lt_of_cell? w _ hx304_0)).trans hx304_0
                      replace hx304_1 := (HB.out.cell (World.block_lt_of_cell? w _ hx304_1)).trans hx304_1
                      replace hx304_2 := (HB.out.cell (World.block_lt_of_cell? w _ hx304_2)).trans hx304_2
                      replace hx304_3 := (HB.out.cell (World.block_lt_of_cell? w _ hx304_3)).trans hx304_3
                      replace hx304_4 := (HB.out.cell (World.block_lt_of_cell? w _ hx304_4)).trans hx304_4
                      replace hx304_5 := (HB.out.cell (World.block_lt_of_cell? w _ hx304_5)).trans hx304_5
                      replace hx304_6 := (HB.out.cell (World.block_lt_of_cell? w _ hx304_6)).trans hx304_6
                      replace hx304_7 := (HB.out.cell (World.block_lt_of_cell? w _ hx304_7)).trans hx304_7
                      have HR304_7 := Aside0.mk hi304_7
                      have HC304_7 := Aside0.mk hl304_7
                      clear hi304_7 hl304_7
                      replace p304 := eq_true p304
                      replace q304 := eq_true q304
                      have p305 : 0 ≤ (0 : Int) := (by omega)
                      have q305 : 0 < (l0.length : Int) := of_decide_eq_true (by first | (with_reducible assumption) | assumption)
                      obtain ⟨ad305, A305_7, c305_7, e305, hx305_0, hx305_1, hx305_2, hx305_3, hx305_4, hx305_5, hx305_6, hx305_7, hl305_7, hi305_7⟩ := at_T36 HR0.out 0 p305 q305
                      have hw305_7 := hx305_7
                      (try rw [show ((0 : Int)).toNat = 0 from rfl] at hw305_7)
                      (try rw [show 0 * 8 = 0 from rfl] at hw305_7)
                      (try rw [Addr.add_zero'] at hw305_7)
                      have hw305_6 := hx305_6
                      (try rw [show ((0 : Int)).toNat = 0 from rfl] at hw305_6)
                      (try rw [show 0 * 8 = 0 from rfl] at hw305_6)
                      (try rw [Addr.add_zero'] at hw305_6)
                      have hw305_5 := hx305_5
                      (try rw [show ((0 : Int)).toNat = 0 from rfl] at hw305_5)
                      (try rw [show 0 * 8 = 0 from rfl] at hw305_5)
                      (try rw [Addr.add_zero'] at hw305_5)
                      have hw305_4 := hx305_4
                      (try rw [show ((0 : Int)).toNat = 0 from rfl] at hw305_4)
                      (try rw [show 0 * 8 = 0 from rfl] at hw305_4)
                      (try rw [Addr.add_zero'] at hw305_4)
                      have hw305_3 := hx305_3
                      (try rw [show ((0 : Int)).toNat = 0 from rfl] at hw305_3)
                      (try rw [show 0 * 8 = 0 from rfl] at hw305_3)
                      (try rw [Addr.add_zero'] at hw305_3)
                      have hw305_2 := hx305_2
                      (try rw [show ((0 : Int)).toNat = 0 from rfl] at hw305_2)
                      (try rw [show 0 * 8 = 0 from rfl] at hw305_2)
                      (try rw [Addr.add_zero'] at hw305_2)
                      have hw305_1 := hx305_1
                      (try rw [show ((0 : Int)).toNat = 0 from rfl] at hw305_1)
                      (try rw [show 0 * 8 = 0 from rfl] at hw305_1)
                      (try rw [Addr.add_zero'] at hw305_1)
                      have hw305_0 := hx305_0
                      (try rw [show ((0 : Int)).toNat = 0 from rfl] at hw305_0)
                      (try rw [show 0 * 8 = 0 from rfl] at hw305_0)
                      (try rw [Addr.add_zero'] at hw305_0)
                      obtain rfl : ad300 = ad305 := (by injection e305)
                      have qi305 : (0 < l0.length) = True := eq_true (by omega)
                      (try rw [show ((0 : Int)).toNat = 0 from rfl] at hx305_0)
                      (try rw [show 0 * 8 = 0 from rfl] at hx305_0)
                      (try rw [Addr.add_zero'] at hx305_0)
                      (try rw [show ((0 : Int)).toNat = 0 from rfl] at hx305_1)
                      (try rw [show 0 * 8 = 0 from rfl] at hx305_1)
                      (try rw [Addr.add_zero'] at hx305_1)
                      (try rw [show ((0 : Int)).toNat = 0 from rfl] at hx305_2)
                      (try rw [show 0 * 8 = 0 from rfl] at hx305_2)
                      (try rw [Addr.add_zero'] at hx305_2)
                      (try rw [show ((0 : Int)).toNat = 0 from rfl] at hx305_3)
                      (try rw [show 0 * 8 = 0 from rfl] at hx305_3)
                      (try rw [Addr.add_zero'] at hx305_3)
                      (try rw [show ((0 : Int)).toNat = 0 from rfl] at hx305_4)
                      (try rw [show 0 * 8 = 0 from rfl] at hx305_4)
                      (try rw [Addr.add_zero'] at hx305_4)
                      (try rw [show ((0 : Int)).toNat = 0 from rfl] at hx305_5)
                      (try rw [show 0 * 8 = 0 from rfl] at hx305_5)
                      (try rw [Addr.add_zero'] at hx305_5)
                      (try rw [show ((0 : Int)).toNat = 0 from rfl] at hx305_6)
                      (try rw [show 0 * 8 = 0 from rfl] at hx305_6)
                      (try rw [Addr.add_zero'] at hx305_6)
                      (try rw [show ((0 : Int)).toNat = 0 from rfl] at hx305_7)
                      (try rw [show 0 * 8 = 0 from rfl] at hx305_7)
                      (try rw [Addr.add_zero'] at hx305_7)
                      replace hx305_0 := (HB.out.cell (World.block_lt_of_cell? w _ hx305_0)).trans hx305_0
                      replace hx305_1 := (HB.out.cell (World.block_lt_of_cell? w _ hx305_1)).trans hx305_1
                      replace hx305_2 := (HB.out.cell (World.block_lt_of_cell? w _ hx305_2)).trans hx305_2
                      replace hx305_3 := (HB.out.cell (World.block_lt_of_cell? w _ hx305_3)).trans hx305_3
                      replace hx305_4 := (HB.out.cell (World.block_lt_of_cell? w _ hx305_4)).trans hx305_4
                      replace hx305_5 := (HB.out.cell (World.block_lt_of_cell? w _ hx305_5)).trans hx305_5
                      replace hx305_6 := (HB.out.cell (World.block_lt_of_cell? w _ hx305_6)).trans hx305_6
                      replace hx305_7 := (HB.out.cell (World.block_lt_of_cell? w _ hx305_7)).trans hx305_7
                      have HR305_7 := Aside0.mk hi305_7
                      have HC305_7 := Aside0.mk hl305_7
                      clear hi305_7 hl305_7
                      replace p305 := eq_true p305
                      replace q305 := eq_true q305
                      have p307 : 0 ≤ (x10_2 : Int) := of_decide_eq_true (by first | (with_reducible assumption) | assumption)
                      have q307 : x10_2 < (l0.length : Int) := of_decide_eq_true (by first | (with_reducible assumption) | assumption)
                      obtain ⟨ad307, A307_7, c307_7, e307, hx307_0, hx307_1, hx307_2, hx307_3, hx307_4, hx307_5, hx307_6, hx307_7, hl307_7, hi307_7⟩ := at_T36 HR0.out x10_2 p307 q307
                      have hw307_7 := hx307_7
                      have hw307_6 := hx307_6
                      have hw307_5 := hx307_5
                      have hw307_4 := hx307_4
                      have hw307_3 := hx307_3
                      have hw307_2 := hx307_2
                      have hw307_1 := hx307_1
                      have hw307_0 := hx307_0
                      obtain rfl : ad300 = ad307 := (by injection e307)
                      have HeA307_ := Aside0.mk (show A300_7 = A307_7 ∧ c300_7 = c307_7 from (by have h_ := hw300_7.symm.trans hw307_7; injection h_ with h_; injection h_ with h1_ h2_ h3_; exact ⟨h1_, h3_⟩))
                      replace hx307_0 := (HB.out.cell (World.block_lt_of_cell? w _ hx307_0)).trans hx307_0
                      replace hx307_1 := (HB.out.cell (World.block_lt_of_cell? w _ hx307_1)).trans hx307_1
                      replace hx307_2 := (HB.out.cell (World.block_lt_of_cell? w _ hx307_2)).trans hx307_2
                      replace hx307_3 := (HB.out.cell (World.block_lt_of_cell? w _ hx307_3)).trans hx307_3
                      replace hx307_4 := (HB.out.cell (World.block_lt_of_cell? w _ hx307_4)).trans hx307_4
                      replace hx307_5 := (HB.out.cell (World.block_lt_of_cell? w _ hx307_5)).trans hx307_5
                      replace hx307_6 := (HB.out.cell (World.block_lt_of_cell? w _ hx307_6)).trans hx307_6
                      replace hx307_7 := (HB.out.cell (World.block_lt_of_cell? w _ hx307_7)).trans hx307_7
                      have HR307_7 := Aside0.mk hi307_7
                      have HC307_7 := Aside0.mk hl307_7
                      clear hi307_7 hl307_7
                      replace p307 := eq_true p307
                      replace q307 := eq_true q307
                      have p308 : 0 ≤ (0 : Int) := (by omega)
                      have q308 : 0 < (l0.length : Int) := of_decide_eq_true (by first | (with_reducible assumption) | assumption)
                      obtain ⟨ad308, A308_7, c308_7, e308, hx308_0, hx308_1, hx308_2, hx308_3, hx308_4, hx308_5, hx308_6, hx308_7, hl308_7, hi308_7⟩ := at_T36 HR0.out 0 p308 q308
                      have hw308_7 := hx308_7
                      (try rw [show ((0 : Int)).toNat = 0 from rfl] at hw308_7)
                      (try rw [show 0 * 8 = 0 from rfl] at hw308_7)
                      (try rw [Addr.add_zero'] at hw308_7)
                      have hw308_6 := hx308_6
                      (try rw [show ((0 : Int)).toNat = 0 from rfl] at hw308_6)
                      (try rw [show 0 * 8 = 0 from rfl] at hw308_6)
                      (try rw [Addr.add_zero'] at hw308_6)
                      have hw308_5 := hx308_5
                      (try rw [show ((0 : Int)).toNat = 0 from rfl] at hw308_5)
                      (try rw [show 0 * 8 = 0 from rfl] at hw308_5)
                      (try rw [Addr.add_zero'] at hw308_5)
                      have hw308_4 := hx308_4
                      (try rw [show ((0 : Int)).toNat = 0 from rfl] at hw308_4)
                      (try rw [show 0 * 8 = 0 from rfl] at hw308_4)
                      (try rw [Addr.add_zero'] at hw308_4)
                      have hw308_3 := hx308_3
                      (try rw [show ((0 : Int)).toNat = 0 from rfl] at hw308_3)
                      (try rw [show 0 * 8 = 0 from rfl] at hw308_3)
                      (try rw [Addr.add_zero'] at hw308_3)
                      have hw308_2 := hx308_2
                      (try rw [show ((0 : Int)).toNat = 0 from rfl] at hw308_2)
                      (try rw [show 0 * 8 = 0 from rfl] at hw308_2)
                      (try rw [Addr.add_zero'] at hw308_2)
                      have hw308_1 := hx308_1
                      (try rw [show ((0 : Int)).toNat = 0 from rfl] at hw308_1)
                      (try rw [show 0 * 8 = 0 from rfl] at hw308_1)
                      (try rw [Addr.add_zero'] at hw308_1)
                      have hw308_0 := hx308_0
                      (try rw [show ((0 : Int)).toNat = 0 from rfl] at hw308_0)
                      (try rw [show 0 * 8 = 0 from rfl] at hw308_0)
                      (try rw [Addr.add_zero'] at hw308_0)
                      obtain rfl : ad300 = ad308 := (by injection e308)
                      have HeA308_ := Aside0.mk (show A305_7 = A308_7 ∧ c305_7 = c308_7 from (by have h_ := hw305_7.symm.trans hw308_7; injection h_ with h_; injection h_ with h1_ h2_ h3_; exact ⟨h1_, h3_⟩))
                      have qi308 : (0 < l0.length) = True := eq_true (by omega)
                      (try rw [show ((0 : Int)).toNat = 0 from rfl] at hx308_0)
                      (try rw [show 0 * 8 = 0 from rfl] at hx308_0)
                      (try rw [Addr.add_zero'] at hx308_0)
                      (try rw [show ((0 : Int)).toNat = 0 from rfl] at hx308_1)
                      (try rw [show 0 * 8 = 0 from rfl] at hx308_1)
                      (try rw [Addr.add_zero'] at hx308_1)
                      (try rw [show ((0 : Int)).toNat = 0 from rfl] at hx308_2)
                      (try rw [show 0 * 8 = 0 from rfl] at hx308_2)
                      (try rw [Addr.add_zero'] at hx308_2)
                      (try rw [show ((0 : Int)).toNat = 0 from rfl] at hx308_3)
                      (try rw [show 0 * 8 = 0 from rfl] at hx308_3)
                      (try rw [Addr.add_zero'] at hx308_3)
                      (try rw [show ((0 : Int)).toNat = 0 from rfl] at hx308_4)
                      (try rw [show 0 * 8 = 0 from rfl] at hx308_4)
                      (try rw [Addr.add_zero'] at hx308_4)
                      (try rw [show ((0 : Int)).toNat = 0 from rfl] at hx308_5)
                      (try rw [show 0 * 8 = 0 from rfl] at hx308_5)
                      (try rw [Addr.add_zero'] at hx308_5)
                      (try rw [show ((0 : Int)).toNat = 0 from rfl] at hx308_6)
                      (try rw [show 0 * 8 = 0 from rfl] at hx308_6)
                      (try rw [Addr.add_zero'] at hx308_6)
                      (try rw [show ((0 : Int)).toNat = 0 from rfl] at hx308_7)
                      (try rw [show 0 * 8 = 0 from rfl] at hx308_7)
                      (try rw [Addr.add_zero'] at hx308_7)
                      replace hx308_0 := (HB.out.cell (World.block_lt_of_cell? w _ hx308_0)).trans hx308_0
                      replace hx308_1 := (HB.out.cell (World.block_lt_of_cell? w _ hx308_1)).trans hx308_1
                      replace hx308_2 := (HB.out.cell (World.block_lt_of_cell? w _ hx308_2)).trans hx308_2
                      replace hx308_3 := (HB.out.cell (World.block_lt_of_cell? w _ hx308_3)).trans hx308_3
                      replace hx308_4 := (HB.out.cell (World.block_lt_of_cell? w _ hx308_4)).trans hx308_4
                      replace hx308_5 := (HB.out.cell (World.block_lt_of_cell? w _ hx308_5)).trans hx308_5
                      replace hx308_6 := (HB.out.cell (World.block_lt_of_cell? w _ hx308_6)).trans hx308_6
                      replace hx308_7 := (HB.out.cell (World.block_lt_of_cell? w _ hx308_7)).trans hx308_7
                      have HR308_7 := Aside0.mk hi308_7
                      have HC308_7 := Aside0.mk hl308_7
                      clear hi308_7 hl308_7
                      replace p308 := eq_true p308
                      replace q308 := eq_true q308
                      refine start_ (n := 30) (S := fun w' => w'.cell? (ad300.add ((x10_2).toNat * 8)) = some (.int .i64 ((rd_T36 l0 x10_2).f0)) ∧ w'.cell? ⟨(ad300.add ((x10_2).toNat * 8)).block, (ad300.add ((x10_2).toNat * 8)).off + 1, none⟩ = some (.int .u64 ((rd_T36 l0 x10_2).f1)) ∧ w'.cell? ⟨(ad300.add ((x10_2).toNat * 8)).block, (ad300.add ((x10_2).toNat * 8)).off + 2, none⟩ = some (.int .i64 ((rd_T36 l0 x10_2).f2)) ∧ w'.cell? ⟨(ad300.add ((x10_2).toNat * 8)).block, (ad300.add ((x10_2).toNat * 8)).off + 3, none⟩ = some (.int .u64 ((rd_T36 l0 x10_2).f3)) ∧ w'.cell? ⟨(ad300.add ((x10_2).toNat * 8)).block, (ad300.add ((x10_2).toNat * 8)).off + 4, none⟩ = some (.int .i64 ((rd_T36 l0 x10_2).f4.f0)) ∧ w'.cell? ⟨(ad300.add ((x10_2).toNat * 8)).block, (ad300.add ((x10_2).toNat * 8)).off + 5, none⟩ = some (.bool ((rd_T36 l0 x10_2).f4.f1)) ∧ w'.cell? ⟨(ad300.add ((x10_2).toNat * 8)).block, (ad300.add ((x10_2).toNat * 8)).off + 6, none⟩ = some (.bool ((rd_T36 l0 x10_2).f4.f2)) ∧ w'.cell? ⟨(ad300.add ((x10_2).toNat * 8)).block, (ad300.add ((x10_2).toNat * 8)).off + 7, none⟩ = some (.slice A300_7 ((rd_T36 l0 x10_2).f5).length c300_7) ∧ w'.cell? (ad300.add ((x10_2).toNat * 8)) = some (.int .i64 ((rd_T36 l0 x10_2).f0)) ∧ w'.cell? ⟨(ad300.add ((x10_2).toNat * 8)).block, (ad300.add ((x10_2).toNat * 8)).off + 1, none⟩ = some (.int .u64 ((rd_T36 l0 x10_2).f1)) ∧ w'.cell? ⟨(ad300.add ((x10_2).toNat * 8)).block, (ad300.add ((x10_2).toNat * 8)).off + 2, none⟩ = some (.int .i64 ((rd_T36 l0 x10_2).f2)) ∧ w'.cell? ⟨(ad300.add ((x10_2).toNat * 8)).block, (ad300.add ((x10_2).toNat * 8)).off + 3, none⟩ = some (.int .u64 ((rd_T36 l0 x10_2).f3)) ∧ w'.cell? ⟨(ad300.add ((x10_2).toNat * 8)).block, (ad300.add ((x10_2).toNat * 8)).off + 4, none⟩ = some (.int .i64 ((rd_T36 l0 x10_2).f4.f0)) ∧ w'.cell? ⟨(ad300.add ((x10_2).toNat * 8)).block, (ad300.add ((x10_2).toNat * 8)).off + 5, none⟩ = some (.bool ((rd_T36 l0 x10_2).f4.f1)) ∧ w'.cell? ⟨(ad300.add ((x10_2).toNat * 8)).block, (ad300.add ((x10_2).toNat * 8)).off + 6, none⟩ = some (.bool ((rd_T36 l0 x10_2).f4.f2)) ∧ w'.cell? ⟨(ad300.add ((x10_2).toNat * 8)).block, (ad300.add ((x10_2).toNat * 8)).off + 7, none⟩ = some (.slice A300_7 ((rd_T36 l0 x10_2).f5).length c300_7) ∧ w'.cell? (ad300.add ((x10_2).toNat * 8)) = some (.int .i64 ((rd_T36 l0 x10_2).f0)) ∧ w'.cell? ⟨(ad300.add ((x10_2).toNat * 8)).block, (ad300.add ((x10_2).toNat * 8)).off + 1, none⟩ = some (.int .u64 ((rd_T36 l0 x10_2).f1)) ∧ w'.cell? ⟨(ad300.add ((x10_2).toNat * 8)).block, (ad300.add ((x10_2).toNat * 8)).off + 2, none⟩ = some (.int .i64 ((rd_T36 l0 x10_2).f2)) ∧ w'.cell? ⟨(ad300.add ((x10_2).toNat * 8)).block, (ad300.add ((x10_2).toNat * 8)).off + 3, none⟩ = some (.int .u64 ((rd_T36 l0 x10_2).f3)) ∧ w'.cell? ⟨(ad300.add ((x10_2).toNat * 8)).block, (ad300.add ((x10_2).toNat * 8)).off + 4, none⟩ = some (.int .i64 ((rd_T36 l0 x10_2).f4.f0)) ∧ w'.cell? ⟨(ad300.add ((x10_2).toNat * 8)).block, (ad300.add ((x10_2).toNat * 8)).off + 5, none⟩ = some (.bool ((rd_T36 l0 x10_2).f4.f1)) ∧ w'.cell? ⟨(ad300.add ((x10_2).toNat * 8)).block, (ad300.add ((x10_2).toNat * 8)).off + 6, none⟩ = some (.bool ((rd_T36 l0 x10_2).f4.f2)) ∧ w'.cell? ⟨(ad300.add ((x10_2).toNat * 8)).block, (ad300.add ((x10_2).toNat * 8)).off + 7, none⟩ = some (.slice A304_7 ((rd_T36 l0 x10_2).f5).length c304_7) ∧ w'.cell? ad300 = some (.int .i64 ((rd_T36 l0 0).f0)) ∧ w'.cell? ⟨ad300.block, ad300.off + 1, none⟩ = some (.int .u64 ((rd_T36 l0 0).f1)) ∧ w'.cell? ⟨ad300.block, ad300.off + 2, none⟩ = some (.int .i64 ((rd_T36 l0 0).f2)) ∧ w'.cell? ⟨ad300.block, ad300.off + 3, none⟩ = some (.int .u64 ((rd_T36 l0 0).f3)) ∧ w'.cell? ⟨ad300.block, ad300.off + 4, none⟩ = some (.int .i64 ((rd_T36 l0 0).f4.f0)) ∧ w'.cell? ⟨ad300.block, ad300.off + 5, none⟩ = some (.bool ((rd_T36 l0 0).f4.f1)) ∧ w'.cell? ⟨ad300.block, ad300.off + 6, none⟩ = some (.bool ((rd_T36 l0 0).f4.f2)) ∧ w'.cell? ⟨ad300.block, ad300.off + 7, none⟩ = some (.slice A305_7 ((rd_T36 l0 0).f5).length c305_7) ∧ w'.cell? (ad300.add ((x10_2).toNat * 8)) = some (.int .i64 ((rd_T36 l0 x10_2).f0)) ∧ w'.cell? ⟨(ad300.add ((x10_2).toNat * 8)).block, (ad300.add ((x10_2).toNat * 8)).off + 1, none⟩ = some (.int .u64 ((rd_T36 l0 x10_2).f1)) ∧ w'.cell? ⟨(ad300.add ((x10_2).toNat * 8)).block, (ad300.add ((x10_2).toNat * 8)).off + 2, none⟩ = some (.int .i64 ((rd_T36 l0 x10_2).f2)) ∧ w'.cell? ⟨(ad300.add ((x10_2).toNat * 8)).block, (ad300.add ((x10_2).toNat * 8)).off + 3, none⟩ = some (.int .u64 ((rd_T36 l0 x10_2).f3)) ∧ w'.cell? ⟨(ad300.add ((x10_2).toNat * 8)).block, (ad300.add ((x10_2).toNat * 8)).off + 4, none⟩ = some (.int .i64 ((rd_T36 l0 x10_2).f4.f0)) ∧ w'.cell? ⟨(ad300.add ((x10_2).toNat * 8)).block, (ad300.add ((x10_2).toNat * 8)).off + 5, none⟩ = some (.bool ((rd_T36 l0 x10_2).f4.f1)) ∧ w'.cell? ⟨(ad300.add ((x10_2).toNat * 8)).block, (ad300.add ((x10_2).toNat * 8)).off + 6, none⟩ = some (.bool ((rd_T36 l0 x10_2).f4.f2)) ∧ w'.cell? ⟨(ad300.add ((x10_2).toNat * 8)).block, (ad300.add ((x10_2).toNat * 8)).off + 7, none⟩ = some (.slice A307_7 ((rd_T36 l0 x10_2).f5).length c307_7) ∧ w'.cell? ad300 = some (.int .i64 ((rd_T36 l0 0).f0)) ∧ w'.cell? ⟨ad300.block, ad300.off + 1, none⟩ = some (.int .u64 ((rd_T36 l0 0).f1)) ∧ w'.cell? ⟨ad300.block, ad300.off + 2, none⟩ = some (.int .i64 ((rd_T36 l0 0).f2)) ∧ w'.cell? ⟨ad300.block, ad300.off + 3, none⟩ = some (.int .u64 ((rd_T36 l0 0).f3)) ∧ w'.cell? ⟨ad300.block, ad300.off + 4, none⟩ = some (.int .i64 ((rd_T36 l0 0).f4.f0)) ∧ w'.cell? ⟨ad300.block, ad300.off + 5, none⟩ = some (.bool ((rd_T36 l0 0).f4.f1)) ∧ w'.cell? ⟨ad300.block, ad300.off + 6, none⟩ = some (.bool ((rd_T36 l0 0).f4.f2)) ∧ w'.cell? ⟨ad300.block, ad300.off + 7, none⟩ = some (.slice A308_7 ((rd_T36 l0 0).f5).length c308_7)) (ds := []) #[false, false, false, false, false, false, false, false, false, false, false, false, false, false, false, false, false, false, false, false, false, false, false, false, false, false, false, false, false, false] (by kernel_rfl) rfl rfl ⟨((HB.out.cell (World.block_lt_of_cell? w _ hw300_0)).trans hw300_0), ((HB.out.cell (World.block_lt_of_cell? w _ hw300_1)).trans hw300_1), ((HB.out.cell (World.block_lt_of_cell? w _ hw300_2)).trans hw300_2), ((HB.out.cell (World.block_lt_of_cell? w _ hw300_3)).trans hw300_3), ((HB.out.cell (World.block_lt_of_cell? w _ hw300_4)).trans hw300_4), ((HB.out.cell (World.block_lt_of_cell? w _ hw300_5)).trans hw300_5), ((HB.out.cell (World.block_lt_of_cell? w _ hw300_6)).trans hw300_6), ((HB.out.cell (World.block_lt_of_cell? w _ hw300_7)).trans hw300_7), ((HB.out.cell (World.block_lt_of_cell? w _ hw302_0)).trans hw302_0), ((HB.out.cell (World.block_lt_of_cell? w _ hw302_1)).trans hw302_1), ((HB.out.cell (World.block_lt_of_cell? w _ hw302_2)).trans hw302_2), ((HB.out.cell (World.block_lt_of_cell? w _ hw302_3)).trans hw302_3), ((HB.out.cell (World.block_lt_of_cell? w _ hw302_4)).trans hw302_4), ((HB.out.cell (World.block_lt_of_cell? w _ hw302_5)).trans hw302_5), ((HB.out.cell (World.block_lt_of_cell? w _ hw302_6)).trans hw302_6), ((HB.out.cell (World.block_lt_of_cell? w _ hw302_7)).trans hw302_7), ((HB.out.cell (World.block_lt_of_cell? w _ hw304_0)).trans hw304_0), ((HB.out.cell (World.block_lt_of_cell? w _ hw304_1)).trans hw304_1), ((HB.out.cell (World.block_lt_of_cell? w _ hw304_2)).trans hw304_2), ((HB.out.cell (World.block_lt_of_cell? w _ hw304_3)).trans hw304_3), ((HB.out.cell (World.block_lt_of_cell? w _ hw304_4)).trans hw304_4), ((HB.out.cell (World.block_lt_of_cell? w _ hw304_5)).trans hw304_5), ((HB.out.cell (World.block_lt_of_cell? w _ hw304_6)).trans hw304_6), ((HB.out.cell (World.block_lt_of_cell? w _ hw304_7)).trans hw304_7), ((HB.out.cell (World.block_lt_of_cell? w _ hw305_0)).trans hw305_0), ((HB.out.cell (World.block_lt_of_cell? w _ hw305_1)).trans hw305_1), ((HB.out.cell (World.block_lt_of_cell? w _ hw305_2)).trans hw305_2), ((HB.out.cell (World.block_lt_of_cell? w _ hw305_3)).trans hw305_3), ((HB.out.cell (World.block_lt_of_cell? w _ hw305_4)).trans hw305_4), ((HB.out.cell (World.block_lt_of_cell? w _ hw305_5)).trans hw305_5), ((HB.out.cell (World.block_lt_of_cell? w _ hw305_6)).trans hw305_6), ((HB.out.cell (World.block_lt_of_cell? w _ hw305_7)).trans hw305_7), ((HB.out.cell (World.block_lt_of_cell? w _ hw307_0)).trans hw307_0), ((HB.out.cell (World.block_lt_of_cell? w _ hw307_1)).trans hw307_1), ((HB.out.cell (World.block_lt_of_cell? w _ hw307_2)).trans hw307_2), ((HB.out.cell (World.block_lt_of_cell? w _ hw307_3)).trans hw307_3), ((HB.out.cell (World.block_lt_of_cell? w _ hw307_4)).trans hw307_4), ((HB.out.cell (World.block_lt_of_cell? w _ hw307_5)).trans hw307_5), ((HB.out.cell (World.block_lt_of_cell? w _ hw307_6)).trans hw307_6), ((HB.out.cell (World.block_lt_of_cell? w _ hw307_7)).trans hw307_7), ((HB.out.cell (World.block_lt_of_cell? w _ hw308_0)).trans hw308_0), ((HB.out.cell (World.block_lt_of_cell? w _ hw308_1)).trans hw308_1), ((HB.out.cell (World.block_lt_of_cell? w _ hw308_2)).trans hw308_2), ((HB.out.cell (World.block_lt_of_cell? w _ hw308_3)).trans hw308_3), ((HB.out.cell (World.block_lt_of_cell? w _ hw308_4)).trans hw308_4), ((HB.out.cell (World.block_lt_of_cell? w _ hw308_5)).trans hw308_5), ((HB.out.cell (World.block_lt_of_cell? w _ hw308_6)).trans hw308_6), ((HB.out.cell (World.block_lt_of_cell? w _ hw308_7)).trans hw308_7)⟩ (fun hHeld => ?_); refine with_tabW dormerlaw20_ScriptTells.tab9 dormerlaw20_ScriptTells.bits9 (fun HT_ HW_ => ?_)
                      generalize wr.drew = w29 at HO_6 HO_8 HB HR300_7 HR302_7 HR304_7 HR305_7 HR307_7 HR308_7 hx300_0 hx300_1 hx300_2 hx300_3 hx300_4 hx300_5 hx300_6 hx300_7 hx302_0 hx302_1 hx302_2 hx302_3 hx302_4 hx302_5 hx302_6 hx302_7 hx304_0 hx304_1 hx304_2 hx304_3 hx304_4 hx304_5 hx304_6 hx304_7 hx305_0 hx305_1 hx305_2 hx305_3 hx305_4 hx305_5 hx305_6 hx305_7 hx307_0 hx307_1 hx307_2 hx307_3 hx307_4 hx307_5 hx307_6 hx307_7 hx308_0 hx308_1 hx308_2 hx308_3 hx308_4 hx308_5 hx308_6 hx308_7 hHeld ⊢
                      refine pure_ (i := 0) (N := some 37) (v := ?_) (a' := ?_) #[true, false, false, false, false, false, false, false, false, false, false, false, false, false, false, false, false, false, false, false, false, false, false, false, false, false, false, false, false, false] rfl rfl (any_of HT_.out (by kernel_rfl)) (fun _ _ _ h => h) (Or.inl ⟨by rfl, ?_⟩) ?_ ?_
                      rotate_left
                      · intro w'
                        go_simp
                        with_reducible rfl
                      rotate_left
                      · simp only [Act.put, List.setIfInBounds_toArray, List.set_cons_zero, List.set_cons_succ, i64_w, i32_w]
                        rfl
                      refine pure_ (i := 1) (N := some 38) (v := ?_) (a' := ?_) #[true, true, false, false, false, false, false, false, false, false, false, false, false, false, false, false, false, false, false, false, false, false, false, false, false, false, false, false, false, false] rfl rfl (any_of HT_.out (by kernel_rfl)) (fun _ _ _ h => h) (Or.inl ⟨by rfl, ?_⟩) ?_ ?_
                      rotate_left
                      · intro w'
                        go_simp
                        with_reducible rfl
                      rotate_left
                      · simp only [Act.put, List.setIfInBounds_toArray, List.set_cons_zero, List.set_cons_succ, i64_w, i32_w]
                        rfl
                      refine pure_ (i := 2) (N := some 39) (v := ?_) (a' := ?_) #[true, true, true, false, false, false, false, false, false, false, false, false, false, false, false, false, false, false, false, false, false, false, false, false, false, false, false, false, false, false] rfl rfl (any_of HT_.out (by kernel_rfl)) (fun _ _ _ h => h) (Or.inl ⟨by rfl, ?_⟩) ?_ ?_
                      rotate_left
                      · intro w'
                        go_simp
                        with_reducible rfl
                      rotate_left
                      · simp only [Act.put, List.setIfInBounds_toArray, List.set_cons_zero, List.set_cons_succ, i64_w, i32_w]
                        rfl
                      refine pure_ (i := 5) (N := some 42) (v := ?_) (a' := ?_) #[true, true, true, false, false, true, false, false, false, false, false, false, false, false, false, false, false, false, false, false, false, false, false, false, false, false, false, false, false, false] rfl rfl (any_of HT_.out (by kernel_rfl)) (fun _ _ _ h => h) (Or.inl ⟨by rfl, ?_⟩) ?_ ?_
                      rotate_left
                      · intro w'
                        go_simp
                        with_reducible rfl
                      rotate_left
                      · simp only [Act.put, List.setIfInBounds_toArray, List.set_cons_zero, List.set_cons_succ, i64_w, i32_w]
                        rfl
                      refine pure_ (i := 6) (N := some 43) (v := ?_) (a' := ?_) #[true, true, true, false, false, true, true, false, false, false, false, false, false, false, false, false, false, false, false, false, false, false, false, false, false, false, false, false, false, false] rfl rfl (any_of HT_.out (by kernel_rfl)) (fun _ _ _ h => h) (Or.inl ⟨by rfl, ?_⟩) ?_ ?_
                      rotate_left
                      · intro w'
                        go_simp
                        with_reducible rfl
                      rotate_left
                      · simp only [Act.put, List.setIfInBounds_toArray, List.set_cons_zero, List.set_cons_succ, i64_w, i32_w]
                        rfl
                      refine pure_ (i := 7) (N := some 44) (v := ?_) (a' := ?_) #[true, true, true, false, false, true, true, true, false, false, false, false, false, false, false, false, false, false, false, false, false, false, false, false, false, false, false, false, false, false] rfl rfl (any_of HT_.out (by kernel_rfl)) (fun _ _ _ h => h) (Or.inl ⟨by rfl, ?_⟩) ?_ ?_
                      rotate_left
                      · intro w'
                        go_simp
                        with_reducible rfl
                      rotate_left
                      · simp only [Act.put, List.setIfInBounds_toArray, List.set_cons_zero, List.set_cons_succ, i64_w, i32_w]
                        rfl
                      refine take_ (i := 3) (N := some 40) (v := ?_) (a' := ?_) #[true, true, true, true, false, true, true, true, false, false, false, false, false, false, false, false, false, false, false, false, false, false, false, false, false, false, false, false, false, false] rfl rfl (take_ofW HT_.out HW_.out (by kernel_rfl)) (fun _ _ _ h => h) (Or.inl ⟨by rfl, ?_⟩) hHeld ?_ ?_
                      rotate_left
                      · rintro w' ⟨s0, s1, s2, s3, s4, s5, s6, s7, s8, s9, s10, s11, s12, s13, s14, s15, s16, s17, s18, s19, s20, s21, s22, s23, s24, s25, s26, s27, s28, s29, s30, s31, s32, s33, s34, s35, s36, s37, s38, s39, s40, s41, s42, s43, s44, s45, s46, s47⟩
                        go_simp
                        with_reducible rfl
                      rotate_left
                      · simp only [Act.put, List.setIfInBounds_toArray, List.set_cons_zero, List.set_cons_succ, i64_w, i32_w]
                        rfl
                      refine take_ (i := 8) (N := some 45) (v := ?_) (a' := ?_) #[true, true, true, true, false, true, true, true, true, false, false, false, false, false, false, false, false, false, false, false, false, false, false, false, false, false, false, false, false, false] rfl rfl (take_ofW HT_.out HW_.out (by kernel_rfl)) (fun _ _ _ h => h) (Or.inl ⟨by rfl, ?_⟩) hHeld ?_ ?_
                      rotate_left
                      · rintro w' ⟨s0, s1, s2, s3, s4, s5, s6, s7, s8, s9, s10, s11, s12, s13, s14, s15, s16, s17, s18, s19, s20, s21, s22, s23, s24, s25, s26, s27, s28, s29, s30, s31, s32, s33, s34, s35, s36, s37, s38, s39, s40, s41, s42, s43, s44, s45, s46, s47⟩
                        go_simp
                        with_reducible rfl
                      rotate_left
                      · simp only [Act.put, List.setIfInBounds_toArray, List.set_cons_zero, List.set_cons_succ, i64_w, i32_w]
                        rfl
                      refine one_ (i := 4) (N := some 41) #[true, true, true, true, true, true, true, true, true, false, false, false, false, false, false, false, false, false, false, false, false, false, false, false, false, false, false, false, false, false] rfl rfl (one_of HT_.out (by kernel_rfl)) (by decide) (fun K hK => ?_)
                      refine goes_ Try.func12 (by kernel_rfl) rfl #[.agg #[.int .i64 ((rd_T36 l0 x10_2).f0), .int .u64 ((rd_T36 l0 x10_2).f1), .int .i64 ((rd_T36 l0 x10_2).f2), .int .u64 ((rd_T36 l0 x10_2).f3), .int .i64 ((rd_T36 l0 x10_2).f4.f0), .bool ((rd_T36 l0 x10_2).f4.f1), .bool ((rd_T36 l0 x10_2).f4.f2), .slice A300_7 ((rd_T36 l0 x10_2).f5).length c300_7]] (by rfl) rfl rfl (by (try simp only [List.map_toArray, List.map_cons, List.map_nil]); first | done | rfl | (simp only [List.length_drop, List.length_take]; rfl)) ?_
                      with_reducible refine (script_May.calls k2 ((rd_T36 l0 x10_2).f0) ((rd_T36 l0 x10_2).f1) ((rd_T36 l0 x10_2).f2) ((rd_T36 l0 x10_2).f3) ((rd_T36 l0 x10_2).f4.f0) ((rd_T36 l0 x10_2).f4.f1) ((rd_T36 l0 x10_2).f4.f2) _ _ ((rd_T36 l0 x10_2).f5) t301 _ ?side1 ?side2 A14.out).mono ?_
                      (case side1 => repeat (first | exact (Kd.C_below HR300_7.out HB.out) | (with_reducible refine Kd.C_alloc ?_ _) | (with_reducible refine Kd.C_drewN ?_ _) | (with_reducible refine Kd.C_drew ?_)))
                      (case side2 => exact HC300_7.out)
                      rintro e w30 ⟨rfl, hb⟩
                      refine ⟨_, rfl, ?_⟩
                      have n0_ := Aside0.mk (Kd.R_below (by (with_reducible repeat (first | apply Kd.R_alloc | apply Kd.R_drewN | apply Kd.R_drew)); exact HO_6.out) hb)
                      have n1_ := Aside0.mk (Kd.R_below (by (with_reducible repeat (first | apply Kd.R_alloc | apply Kd.R_drewN | apply Kd.R_drew)); exact HO_8.out) hb)
                      have n2_ := Aside0.mk (below_step (by repeat (first | (with_reducible first | exact HB.out | apply below_alloc | apply pw_below_drewN | apply below_drew1) | exact HB.out)) hb)
                      clear HO_6
                      clear HO_8
                      clear HB
                      have HO_6 := n0_
                      have HO_8 := n1_
                      have HB := n2_
                      clear n0_ n1_ n2_
                      (try clear hb)
                      (try clear hb2)
                      (try clear hk)
                      (try clear hi)
                      refine hK.out _ _ ⟨((HB.out.cell (World.block_lt_of_cell? w _ hw300_0)).trans hw300_0), ((HB.out.cell (World.block_lt_of_cell? w _ hw300_1)).trans hw300_1), ((HB.out.cell (World.block_lt_of_cell? w _ hw300_2)).trans hw300_2), ((HB.out.cell (World.block_lt_of_cell? w _ hw300_3)).trans hw300_3), ((HB.out.cell (World.block_lt_of_cell? w _ hw300_4)).trans hw300_4), ((HB.out.cell (World.block_lt_of_cell? w _ hw300_5)).trans hw300_5), ((HB.out.cell (World.block_lt_of_cell? w _ hw300_6)).trans hw300_6), ((HB.out.cell (World.block_lt_of_cell? w _ hw300_7)).trans hw300_7), ((HB.out.cell (World.block_lt_of_cell? w _ hw302_0)).trans hw302_0), ((HB.out.cell (World.block_lt_of_cell? w _ hw302_1)).trans hw302_1), ((HB.out.cell (World.block_lt_of_cell? w _ hw302_2)).trans hw302_2), ((HB.out.cell (World.block_lt_of_cell? w _ hw302_3)).trans hw302_3), ((HB.out.cell (World.block_lt_of_cell? w _ hw302_4)).trans hw302_4), ((HB.out.cell (World.block_lt_of_cell? w _ hw302_5)).trans hw302_5), ((HB.out.cell (World.block_lt_of_cell? w _ hw302_6)).trans hw302_6), ((HB.out.cell (World.block_lt_of_cell? w _ hw302_7)).trans hw302_7), ((HB.out.cell (World.block_lt_of_cell? w _ hw304_0)).trans hw304_0), ((HB.out.cell (World.block_lt_of_cell? w _ hw304_1)).trans hw304_1), ((HB.out.cell (World.block_lt_of_cell? w _ hw304_2)).trans hw304_2), ((HB.out.cell (World.block_lt_of_cell? w _ hw304_3)).trans hw304_3), ((HB.out.cell (World.block_lt_of_cell? w _ hw304_4)).trans hw304_4), ((HB.out.cell (World.block_lt_of_cell? w _ hw304_5)).trans hw304_5), ((HB.out.cell (World.block_lt_of_cell? w _ hw304_6)).trans hw304_6), ((HB.out.cell (World.block_lt_of_cell? w _ hw304_7)).trans hw304_7), ((HB.out.cell (World.block_lt_of_cell? w _ hw305_0)).trans hw305_0), ((HB.out.cell (World.block_lt_of_cell? w _ hw305_1)).trans hw305_1), ((HB.out.cell (World.block_lt_of_cell? w _ hw305_2)).trans hw305_2), ((HB.out.cell (World.block_lt_of_cell? w _ hw305_3)).trans hw305_3), ((HB.out.cell (World.block_lt_of_cell? w _ hw305_4)).trans hw305_4), ((HB.out.cell (World.block_lt_of_cell? w _ hw305_5)).trans hw305_5), ((HB.out.cell (World.block_lt_of_cell? w _ hw305_6)).trans hw305_6), ((HB.out.cell (World.block_lt_of_cell? w _ hw305_7)).trans hw305_7), ((HB.out.cell (World.block_lt_of_cell? w _ hw307_0)).trans hw307_0), ((HB.out.cell (World.block_lt_of_cell? w _ hw307_1)).trans hw307_1), ((HB.out.cell (World.block_lt_of_cell? w _ hw307_2)).trans hw307_2), ((HB.out.cell (World.block_lt_of_cell? w _ hw307_3)).trans hw307_3), ((HB.out.cell (World.block_lt_of_cell? w _ hw307_4)).trans hw307_4), ((HB.out.cell (World.block_lt_of_cell? w _ hw307_5)).trans hw307_5), ((HB.out.cell (World.block_lt_of_cell? w _ hw307_6)).trans hw307_6), ((HB.out.cell (World.block_lt_of_cell? w _ hw307_7)).trans hw307_7), ((HB.out.cell (World.block_lt_of_cell? w _ hw308_0)).trans hw308_0), ((HB.out.cell (World.block_lt_of_cell? w _ hw308_1)).trans hw308_1), ((HB.out.cell (World.block_lt_of_cell? w _ hw308_2)).trans hw308_2), ((HB.out.cell (World.block_lt_of_cell? w _ hw308_3)).trans hw308_3), ((HB.out.cell (World.block_lt_of_cell? w _ hw308_4)).trans hw308_4), ((HB.out.cell (World.block_lt_of_cell? w _ hw308_5)).trans hw308_5), ((HB.out.cell (World.block_lt_of_cell? w _ hw308_6)).trans hw308_6), ((HB.out.cell (World.block_lt_of_cell? w _ hw308_7)).trans hw308_7)⟩ (fun hHeld => ?_)
                      clear hK K
                      refine norm_ (a' := ?_) ?_ ?_
                      rotate_left
                      · show Act.put _ (some 41) _ = _
                        simp only [Act.put, List.setIfInBounds_toArray, List.set_cons_zero, List.set_cons_succ, i64_w, i32_w]
                        rfl
                      refine one_ (i := 9) (N := some 46) #[true, true, true, true, true, true, true, true, true, true, false, false, false, false, false, false, false, false, false, false, false, false, false, false, false, false, false, false, false, false] rfl rfl (one_of HT_.out (by kernel_rfl)) (by decide) (fun K hK => ?_)
                      refine goes_ Try.func13 (by kernel_rfl) rfl #[.agg #[.int .i64 ((rd_T36 l0 x10_2).f0), .int .u64 ((rd_T36 l0 x10_2).f1), .int .i64 ((rd_T36 l0 x10_2).f2), .int .u64 ((rd_T36 l0 x10_2).f3), .int .i64 ((rd_T36 l0 x10_2).f4.f0), .bool ((rd_T36 l0 x10_2).f4.f1), .bool ((rd_T36 l0 x10_2).f4.f2), .slice A300_7 ((rd_T36 l0 x10_2).f5).length c300_7]] (by rfl) rfl rfl (by (try simp only [List.map_toArray, List.map_cons, List.map_nil]); first | done | rfl | (simp only [List.length_drop, List.length_take]; rfl)) ?_
                      with_reducible refine (dormerref20_May.calls k2 ((rd_T36 l0 x10_2).f0) ((rd_T36 l0 x10_2).f1) ((rd_T36 l0 x10_2).f2) ((rd_T36 l0 x10_2).f3) ((rd_T36 l0 x10_2).f4.f0) ((rd_T36 l0 x10_2).f4.f1) ((rd_T36 l0 x10_2).f4.f2) _ _ ((rd_T36 l0 x10_2).f5) t303 _ ?side1 ?side2 A15.out).mono ?_
                      (case side1 => repeat (first | exact (Kd.C_below HR302_7.out HB.out) | (with_reducible refine Kd.C_alloc ?_ _) | (with_reducible refine Kd.C_drewN ?_ _) | (with_reducible refine Kd.C_drew ?_)))
                      (case side2 => exact HC302_7.out)
                      rintro e w31 ⟨rfl, hb⟩
                      refine ⟨_, rfl, ?_⟩
                      have n0_ := Aside0.mk (Kd.R_below (by (with_reducible repeat (first | apply Kd.R_alloc | apply Kd.R_drewN | apply Kd.R_drew)); exact HO_6.out) hb)
                      have n1_ := Aside0.mk (Kd.R_below (by (with_reducible repeat (first | apply Kd.R_alloc | apply Kd.R_drewN | apply Kd.R_drew)); exact HO_8.out) hb)
                      have n2_ := Aside0.mk (below_step (by repeat (first | (with_reducible first | exact HB.out | apply below_alloc | apply pw_below_drewN | apply below_drew1) | exact HB.out)) hb)
                      clear HO_6
                      clear HO_8
                      clear HB
                      have HO_6 := n0_
                      have HO_8 := n1_
                      have HB := n2_
                      clear n0_ n1_ n2_
                      (try clear hb)
                      (try clear hb2)
                      (try clear hk)
                      (try clear hi)
                      refine hK.out _ _ ⟨((HB.out.cell (World.block_lt_of_cell? w _ hw300_0)).trans hw300_0), ((HB.out.cell (World.block_lt_of_cell? w _ hw300_1)).trans hw300_1), ((HB.out.cell (World.block_lt_of_cell? w _ hw300_2)).trans hw300_2), ((HB.out.cell (World.block_lt_of_cell? w _ hw300_3)).trans hw300_3), ((HB.out.cell (World.block_lt_of_cell? w _ hw300_4)).trans hw300_4), ((HB.out.cell (World.block_lt_of_cell? w _ hw300_5)).trans hw300_5), ((HB.out.cell (World.block_lt_of_cell? w _ hw300_6)).trans hw300_6), ((HB.out.cell (World.block_lt_of_cell? w _ hw300_7)).trans hw300_7), ((HB.out.cell (World.block_lt_of_cell? w _ hw302_0)).trans hw302_0), ((HB.out.cell (World.block_lt_of_cell? w _ hw302_1)).trans hw302_1), ((HB.out.cell (World.block_lt_of_cell? w _ hw302_2)).trans hw302_2), ((HB.out.cell (World.block_lt_of_cell? w _ hw302_3)).trans hw302_3), ((HB.out.cell (World.block_lt_of_cell? w _ hw302_4)).trans hw302_4), ((HB.out.cell (World.block_lt_of_cell? w _ hw302_5)).trans hw302_5), ((HB.out.cell (World.block_lt_of_cell? w _ hw302_6)).trans hw302_6), ((HB.out.cell (World.block_lt_of_cell? w _ hw302_7)).trans hw302_7), ((HB.out.cell (World.block_lt_of_cell? w _ hw304_0)).trans hw304_0), ((HB.out.cell (World.block_lt_of_cell? w _ hw304_1)).trans hw304_1), ((HB.out.cell (World.block_lt_of_cell? w _ hw304_2)).trans hw304_2), ((HB.out.cell (World.block_lt_of_cell? w _ hw304_3)).trans hw304_3), ((HB.out.cell (World.block_lt_of_cell? w _ hw304_4)).trans hw304_4), ((HB.out.cell (World.block_lt_of_cell? w _ hw304_5)).trans hw304_5), ((HB.out.cell (World.block_lt_of_cell? w _ hw304_6)).trans hw304_6), ((HB.out.cell (World.block_lt_of_cell? w _ hw304_7)).trans hw304_7), ((HB.out.cell (World.block_lt_of_cell? w _ hw305_0)).trans hw305_0), ((HB.out.cell (World.block_lt_of_cell? w _ hw305_1)).trans hw305_1), ((HB.out.cell (World.block_lt_of_cell? w _ hw305_2)).trans hw305_2), ((HB.out.cell (World.block_lt_of_cell? w _ hw305_3)).trans hw305_3), ((HB.out.cell (World.block_lt_of_cell? w _ hw305_4)).trans hw305_4), ((HB.out.cell (World.block_lt_of_cell? w _ hw305_5)).trans hw305_5), ((HB.out.cell (World.block_lt_of_cell? w _ hw305_6)).trans hw305_6), ((HB.out.cell (World.block_lt_of_cell? w _ hw305_7)).trans hw305_7), ((HB.out.cell (World.block_lt_of_cell? w _ hw307_0)).trans hw307_0), ((HB.out.cell (World.block_lt_of_cell? w _ hw307_1)).trans hw307_1), ((HB.out.cell (World.block_lt_of_cell? w _ hw307_2)).trans hw307_2), ((HB.out.cell (World.block_lt_of_cell? w _ hw307_3)).trans hw307_3), ((HB.out.cell (World.block_lt_of_cell? w _ hw307_4)).trans hw307_4), ((HB.out.cell (World.block_lt_of_cell? w _ hw307_5)).trans hw307_5), ((HB.out.cell (World.block_lt_of_cell? w _ hw307_6)).trans hw307_6), ((HB.out.cell (World.block_lt_of_cell? w _ hw307_7)).trans hw307_7), ((HB.out.cell (World.block_lt_of_cell? w _ hw308_0)).trans hw308_0), ((HB.out.cell (World.block_lt_of_cell? w _ hw308_1)).trans hw308_1), ((HB.out.cell (World.block_lt_of_cell? w _ hw308_2)).trans hw308_2), ((HB.out.cell (World.block_lt_of_cell? w _ hw308_3)).trans hw308_3), ((HB.out.cell (World.block_lt_of_cell? w _ hw308_4)).trans hw308_4), ((HB.out.cell (World.block_lt_of_cell? w _ hw308_5)).trans hw308_5), ((HB.out.cell (World.block_lt_of_cell? w _ hw308_6)).trans hw308_6), ((HB.out.cell (World.block_lt_of_cell? w _ hw308_7)).trans hw308_7)⟩ (fun hHeld => ?_)
                      clear hK K
                      refine norm_ (a' := ?_) ?_ ?_
                      rotate_left
                      · show Act.put _ (some 46) _ = _
                        simp only [Act.put, List.setIfInBounds_toArray, List.set_cons_zero, List.set_cons_succ, i64_w, i32_w]
                        rfl
                      refine pure_ (i := 10) (N := some 47) (v := ?_) (a' := ?_) #[true, true, true, true, true, true, true, true, true, true, true, false, false, false, false, false, false, false, false, false, false, false, false, false, false, false, false, false, false, false] rfl rfl (any_of HT_.out (by kernel_rfl)) (fun _ _ _ h => h) (Or.inl ⟨by rfl, ?_⟩) ?_ ?_
                      rotate_left
                      · intro w'
                        go_simp
                        with_reducible rfl
                      rotate_left
                      · simp only [Act.put, List.setIfInBounds_toArray, List.set_cons_zero, List.set_cons_succ, i64_w, i32_w]
                        rfl
                      refine pure_ (i := 11) (N := some 48) (v := ?_) (a' := ?_) #[true, true, true, true, true, true, true, true, true, true, true, true, false, false, false, false, false, false, false, false, false, false, false, false, false, false, false, false, false, false] rfl rfl (any_of HT_.out (by kernel_rfl)) (fun _ _ _ h => h) (Or.inl ⟨by rfl, ?_⟩) ?_ ?_
                      rotate_left
                      · intro w'
                        go_simp
                        with_reducible rfl
                      rotate_left
                      · simp only [Act.put, List.setIfInBounds_toArray, List.set_cons_zero, List.set_cons_succ, i64_w, i32_w]
                        rfl
                      refine pure_ (i := 12) (N := some 49) (v := ?_) (a' := ?_) #[true, true, true, true, true, true, true, true, true, true, true, true, true, false, false, false, false, false, false, false, false, false, false, false, false, false, false, false, false, false] rfl rfl (any_of HT_.out (by kernel_rfl)) (fun _ _ _ h => h) (Or.inl ⟨by rfl, ?_⟩) ?_ ?_
                      rotate_left
                      · intro w'
                        go_simp
                        with_reducible rfl
                      rotate_left
                      · simp only [Act.put, List.setIfInBounds_toArray, List.set_cons_zero, List.set_cons_succ, i64_w, i32_w]
                        rfl
                      refine pure_ (i := 13) (N := some 50) (v := ?_) (a' := ?_) #[true, true, true, true, true, true, true, true, true, true, true, true, true, true, false, false, false, false, false, false, false, false, false, false, false, false, false, false, false, false] rfl rfl (any_of HT_.out (by kernel_rfl)) (fun _ _ _ h => h) (Or.inl ⟨by rfl, ?_⟩) ?_ ?_
                      rotate_left
                      · intro w'
                        go_simp
                        with_reducible rfl
                      rotate_left
                      · simp only [Act.put, List.setIfInBounds_toArray, List.set_cons_zero, List.set_cons_succ, i64_w, i32_w]
                        rfl
                      refine pure_ (i := 14) (N := some 51) (v := ?_) (a' := ?_) #[true, true, true, true, true, true, true, true, true, true, true, true, true, true, true, false, false, false, false, false, false, false, false, false, false, false, false, false, false, false] rfl rfl (any_of HT_.out (by kernel_rfl)) (fun _ _ _ h => h) (Or.inl ⟨by rfl, ?_⟩) ?_ ?_
                      rotate_left
                      · intro w'
                        go_simp
                        with_reducible rfl
                      rotate_left
                      · simp only [Act.put, List.setIfInBounds_toArray, List.set_cons_zero, List.set_cons_succ, i64_w, i32_w]
                        rfl
                      refine pure_ (i := 16) (N := some 53) (v := ?_) (a' := ?_) #[true, true, true, true, true, true, true, true, true, true, true, true, true, true, true, false, true, false, false, false, false, false, false, false, false, false, false, false, false, false] rfl rfl (any_of HT_.out (by kernel_rfl)) (fun _ _ _ h => h) (Or.inl ⟨by rfl, ?_⟩) ?_ ?_
                      rotate_left
                      · intro w'
                        go_simp
                        with_reducible rfl
                      rotate_left
                      · simp only [Act.put, List.setIfInBounds_toArray, List.set_cons_zero, List.set_cons_succ, i64_w, i32_w]
                        rfl
                      refine pure_ (i := 17) (N := some 54) (v := ?_) (a' := ?_) #[true, true, true, true, true, true, true, true, true, true, true, true, true, true, true, false, true, true, false, false, false, false, false, false, false, false, false, false, false, false] rfl rfl (any_of HT_.out (by kernel_rfl)) (fun _ _ _ h => h) (Or.inl ⟨by rfl, ?_⟩) ?_ ?_
                      rotate_left
                      · intro w'
                        go_simp
                        with_reducible rfl
                      rotate_left
                      · simp only [Act.put, List.setIfInBounds_toArray, List.set_cons_zero, List.set_cons_succ, i64_w, i32_w]
                        rfl
                      refine pure_ (i := 20) (N := some 57) (v := ?_) (a' := ?_) #[true, true, true, true, true, true, true, true, true, true, true, true, true, true, true, false, true, true, false, false, true, false, false, false, false, false, false, false, false, false] rfl rfl (any_of HT_.out (by kernel_rfl)) (fun _ _ _ h => h) (Or.inl ⟨by rfl, ?_⟩) ?_ ?_
                      rotate_left
                      · intro w'
                        go_simp
                        with_reducible rfl
                      rotate_left
                      · simp only [Act.put, List.setIfInBounds_toArray, List.set_cons_zero, List.set_cons_succ, i64_w, i32_w]
                        rfl
                      refine pure_ (i := 21) (N := some 58) (v := ?_) (a' := ?_) #[true, true, true, true, true, true, true, true, true, true, true, true, true, true, true, false, true, true, false, false, true, true, false, false, false, false, false, false, false, false] rfl rfl (any_of HT_.out (by kernel_rfl)) (fun _ _ _ h => h) (Or.inl ⟨by rfl, ?_⟩) ?_ ?_
                      rotate_left
                      · intro w'
                        go_simp
                        with_reducible rfl
                      rotate_left
                      · simp only [Act.put, List.setIfInBounds_toArray, List.set_cons_zero, List.set_cons_succ, i64_w, i32_w]
                        rfl
                      refine pure_ (i := 22) (N := some 59) (v := ?_) (a' := ?_) #[true, true, true, true, true, true, true, true, true, true, true, true, true, true, true, false, true, true, false, false, true, true, true, false, false, false, false, false, false, false] rfl rfl (any_of HT_.out (by kernel_rfl)) (fun _ _ _ h => h) (Or.inl ⟨by rfl, ?_⟩) ?_ ?_
                      rotate_left
                      · intro w'
                        go_simp
                        with_reducible rfl
                      rotate_left
                      · simp only [Act.put, List.setIfInBounds_toArray, List.set_cons_zero, List.set_cons_succ, i64_w, i32_w]
                        rfl
                      refine pure_ (i := 24) (N := some 61) (v := ?_) (a' := ?_) #[true, true, true, true, true, true, true, true, true, true, true, true, true, true, true, false, true, true, false, false, true, true, true, false, true, false, false, false, false, false] rfl rfl (any_of HT_.out (by kernel_rfl)) (fun _ _ _ h => h) (Or.inl ⟨by rfl, ?_⟩) ?_ ?_
                      rotate_left
                      · intro w'
                        go_simp
                        with_reducible rfl
                      rotate_left
                      · simp only [Act.put, List.setIfInBounds_toArray, List.set_cons_zero, List.set_cons_succ, i64_w, i32_w]
                        rfl
                      refine pure_ (i := 25) (N := some 62) (v := ?_) (a' := ?_) #[true, true, true, true, true, true, true, true, true, true, true, true, true, true, true, false, true, true, false, false, true, true, true, false, true, true, false, false, false, false] rfl rfl (any_of HT_.out (by kernel_rfl)) (fun _ _ _ h => h) (Or.inl ⟨by rfl, ?_⟩) ?_ ?_
                      rotate_left
                      · intro w'
                        go_simp
                        with_reducible rfl
                      rotate_left
                      · simp only [Act.put, List.setIfInBounds_toArray, List.set_cons_zero, List.set_cons_succ, i64_w, i32_w]
                        rfl
                      refine take_ (i := 15) (N := some 52) (v := ?_) (a' := ?_) #[true, true, true, true, true, true, true, true, true, true, true, true, true, true, true, true, true, true, false, false, true, true, true, false, true, true, false, false, false, false] rfl rfl (take_ofW HT_.out HW_.out (by kernel_rfl)) (fun _ _ _ h => h) (Or.inl ⟨by rfl, ?_⟩) hHeld ?_ ?_
                      rotate_left
                      · rintro w' ⟨s0, s1, s2, s3, s4, s5, s6, s7, s8, s9, s10, s11, s12, s13, s14, s15, s16, s17, s18, s19, s20, s21, s22, s23, s24, s25, s26, s27, s28, s29, s30, s31, s32, s33, s34, s35, s36, s37, s38, s39, s40, s41, s42, s43, s44, s45, s46, s47⟩
                        go_simp
                        with_reducible rfl
                      rotate_left
                      · simp only [Act.put, List.setIfInBounds_toArray, List.set_cons_zero, List.set_cons_succ, i64_w, i32_w]
                        rfl
                      refine take_ (i := 18) (N := some 55) (v := ?_) (a' := ?_) #[true, true, true, true, true, true, true, true, true, true, true, true, true, true, true, true, true, true, true, false, true, true, true, false, true, true, false, false, false, false] rfl rfl (take_ofW HT_.out HW_.out (by kernel_rfl)) (fun _ _ _ h => h) (Or.inl ⟨by rfl, ?_⟩) hHeld ?_ ?_
                      rotate_left
                      · rintro w' ⟨s0, s1, s2, s3, s4, s5, s6, s7, s8, s9, s10, s11, s12, s13, s14, s15, s16, s17, s18, s19, s20, s21, s22, s23, s24, s25, s26, s27, s28, s29, s30, s31, s32, s33, s34, s35, s36, s37, s38, s39, s40, s41, s42, s43, s44, s45, s46, s47⟩
                        go_simp
                        with_reducible rfl
                      rotate_left
                      · simp only [Act.put, List.setIfInBounds_toArray, List.set_cons_zero, List.set_cons_succ, i64_w, i32_w]
                        rfl
                      refine take_ (i := 23) (N := some 60) (v := ?_) (a' := ?_) #[true, true, true, true, true, true, true, true, true, true, true, true, true, true, true, true, true, true, true, false, true, true, true, true, true, true, false, false, false, false] rfl rfl (take_ofW HT_.out HW_.out (by kernel_rfl)) (fun _ _ _ h => h) (Or.inl ⟨by rfl, ?_⟩) hHeld ?_ ?_
                      rotate_left
                      · rintro w' ⟨s0, s1, s2, s3, s4, s5, s6, s7, s8, s9, s10, s11, s12, s13, s14, s15, s16, s17, s18, s19, s20, s21, s22, s23, s24, s25, s26, s27, s28, s29, s30, s31, s32, s33, s34, s35, s36, s37, s38, s39, s40, s41, s42, s43, s44, s45, s46, s47⟩
                        go_simp
                        with_reducible rfl
                      rotate_left
                      · simp only [Act.put, List.setIfInBounds_toArray, List.set_cons_zero, List.set_cons_succ, i64_w, i32_w]
                        rfl
                      refine take_ (i := 26) (N := some 63) (v := ?_) (a' := ?_) #[true, true, true, true, true, true, true, true, true, true, true, true, true, true, true, true, true, true, true, false, true, true, true, true, true, true, true, false, false, false] rfl rfl (take_ofW HT_.out HW_.out (by kernel_rfl)) (fun _ _ _ h => h) (Or.inl ⟨by rfl, ?_⟩) hHeld ?_ ?_
                      rotate_left
                      · rintro w' ⟨s0, s1, s2, s3, s4, s5, s6, s7, s8, s9, s10, s11, s12, s13, s14, s15, s16, s17, s18, s19, s20, s21, s22, s23, s24, s25, s26, s27, s28, s29, s30, s31, s32, s33, s34, s35, s36, s37, s38, s39, s40, s41, s42, s43, s44, s45, s46, s47⟩
                        go_simp
                        with_reducible rfl
                      rotate_left
                      · simp only [Act.put, List.setIfInBounds_toArray, List.set_cons_zero, List.set_cons_succ, i64_w, i32_w]
                        rfl
                      refine one_ (i := 19) (N := some 56) #[true, true, true, true, true, true, true, true, true, true, true, true, true, true, true, true, true, true, true, true, true, true, true, true, true, true, true, false, false, false] rfl rfl (one_of HT_.out (by kernel_rfl)) (by decide) (fun K hK => ?_)
                      refine goes_ Try.func14 (by kernel_rfl) rfl #[.agg #[.int .i64 ((rd_T36 l0 x10_2).f0), .int .u64 ((rd_T36 l0 x10_2).f1), .int .i64 ((rd_T36 l0 x10_2).f2), .int .u64 ((rd_T36 l0 x10_2).f3), .int .i64 ((rd_T36 l0 x10_2).f4.f0), .bool ((rd_T36 l0 x10_2).f4.f1), .bool ((rd_T36 l0 x10_2).f4.f2), .slice A304_7 ((rd_T36 l0 x10_2).f5).length c304_7], .agg #[.int .i64 ((rd_T36 l0 0).f0), .int .u64 ((rd_T36 l0 0).f1), .int .i64 ((rd_T36 l0 0).f2), .int .u64 ((rd_T36 l0 0).f3), .int .i64 ((rd_T36 l0 0).f4.f0), .bool ((rd_T36 l0 0).f4.f1), .bool ((rd_T36 l0 0).f4.f2), .slice A305_7 ((rd_T36 l0 0).f5).length c305_7]] (by rfl) rfl rfl (by (try simp only [List.map_toArray, List.map_cons, List.map_nil]); first | done | rfl | (rw [← HeA304_.out.1, ← HeA304_.out.2]; rfl) | (simp only [List.length_drop, List.length_take]; rfl)) ?_
                      with_reducible refine (script_Same.calls k2 ((rd_T36 l0 x10_2).f0) ((rd_T36 l0 x10_2).f1) ((rd_T36 l0 x10_2).f2) ((rd_T36 l0 x10_2).f3) ((rd_T36 l0 x10_2).f4.f0) ((rd_T36 l0 x10_2).f4.f1) ((rd_T36 l0 x10_2).f4.f2) _ _ ((rd_T36 l0 x10_2).f5) ((rd_T36 l0 0).f0) ((rd_T36 l0 0).f1) ((rd_T36 l0 0).f2) ((rd_T36 l0 0).f3) ((rd_T36 l0 0).f4.f0) ((rd_T36 l0 0).f4.f1) ((rd_T36 l0 0).f4.f2) _ _ ((rd_T36 l0 0).f5) t306 _ ?side1 ?side2 ?side3 ?side4 A21.out).mono ?_
                      (case side1 => repeat (first | exact (Kd.C_below HR304_7.out HB.out) | (with_reducible refine Kd.C_alloc ?_ _) | (with_reducible refine Kd.C_drewN ?_ _) | (with_reducible refine Kd.C_drew ?_)))
                      (case side2 => exact HC304_7.out)
                      (case side3 => repeat (first | exact (Kd.C_below HR305_7.out HB.out) | (with_reducible refine Kd.C_alloc ?_ _) | (with_reducible refine Kd.C_drewN ?_ _) | (with_reducible refine Kd.C_drew ?_)))
                      (case side4 => exact HC305_7.out)
                      rintro e w32 ⟨rfl, hb⟩
                      refine ⟨_, rfl, ?_⟩
                      have n0_ := Aside0.mk (Kd.R_below (by (with_reducible repeat (first | apply Kd.R_alloc | apply Kd.R_drewN | apply Kd.R_drew)); exact HO_6.out) hb)
                      have n1_ := Aside0.mk (Kd.R_below (by (with_reducible repeat (first | apply Kd.R_alloc | apply Kd.R_drewN | apply Kd.R_drew)); exact HO_8.out) hb)
                      have n2_ := Aside0.mk (below_step (by repeat (first | (with_reducible first | exact HB.out | apply below_alloc | apply pw_below_drewN | apply below_drew1) | exact HB.out)) hb)
                      clear HO_6
                      clear HO_8
                      clear HB
                      have HO_6 := n0_
                      have HO_8 := n1_
                      have HB := n2_
                      clear n0_ n1_ n2_
                      (try clear hb)
                      (try clear hb2)
                      (try clear hk)
                      (try clear hi)
                      refine hK.out _ _ ⟨((HB.out.cell (World.block_lt_of_cell? w _ hw300_0)).trans hw300_0), ((HB.out.cell (World.block_lt_of_cell? w _ hw300_1)).trans hw300_1), ((HB.out.cell (World.block_lt_of_cell? w _ hw300_2)).trans hw300_2), ((HB.out.cell (World.block_lt_of_cell? w _ hw300_3)).trans hw300_3), ((HB.out.cell (World.block_lt_of_cell? w _ hw300_4)).trans hw300_4), ((HB.out.cell (World.block_lt_of_cell? w _ hw300_5)).trans hw300_5), ((HB.out.cell (World.block_lt_of_cell? w _ hw300_6)).trans hw300_6), ((HB.out.cell (World.block_lt_of_cell? w _ hw300_7)).trans hw300_7), ((HB.out.cell (World.block_lt_of_cell? w _ hw302_0)).trans hw302_0), ((HB.out.cell (World.block_lt_of_cell? w _ hw302_1)).trans hw302_1), ((HB.out.cell (World.block_lt_of_cell? w _ hw302_2)).trans hw302_2), ((HB.out.cell (World.block_lt_of_cell? w _ hw302_3)).trans hw302_3), ((HB.out.cell (World.block_lt_of_cell? w _ hw302_4)).trans hw302_4), ((HB.out.cell (World.block_lt_of_cell? w _ hw302_5)).trans hw302_5), ((HB.out.cell (World.block_lt_of_cell? w _ hw302_6)).trans hw302_6), ((HB.out.cell (World.block_lt_of_cell? w _ hw302_7)).trans hw302_7), ((HB.out.cell (World.block_lt_of_cell? w _ hw304_0)).trans hw304_0), ((HB.out.cell (World.block_lt_of_cell? w _ hw304_1)).trans hw304_1), ((HB.out.cell (World.block_lt_of_cell? w _ hw304_2)).trans hw304_2), ((HB.out.cell (World.block_lt_of_cell? w _ hw304_3)).trans hw304_3), ((HB.out.cell (World.block_lt_of_cell? w _ hw304_4)).trans hw304_4), ((HB.out.cell (World.block_lt_of_cell? w _ hw304_5)).trans hw304_5), ((HB.out.cell (World.block_lt_of_cell? w _ hw304_6)).trans hw304_6), ((HB.out.cell (World.block_lt_of_cell? w _ hw304_7)).trans hw304_7), ((HB.out.cell (World.block_lt_of_cell? w _ hw305_0)).trans hw305_0), ((HB.out.cell (World.block_lt_of_cell? w _ hw305_1)).trans hw305_1), ((HB.out.cell (World.block_lt_of_cell? w _ hw305_2)).trans hw305_2), ((HB.out.cell (World.block_lt_of_cell? w _ hw305_3)).trans hw305_3), ((HB.out.cell (World.block_lt_of_cell? w _ hw305_4)).trans hw305_4), ((HB.out.cell (World.block_lt_of_cell? w _ hw305_5)).trans hw305_5), ((HB.out.cell (World.block_lt_of_cell? w _ hw305_6)).trans hw305_6), ((HB.out.cell (World.block_lt_of_cell? w _ hw305_7)).trans hw305_7), ((HB.out.cell (World.block_lt_of_cell? w _ hw307_0)).trans hw307_0), ((HB.out.cell (World.block_lt_of_cell? w _ hw307_1)).trans hw307_1), ((HB.out.cell (World.block_lt_of_cell? w _ hw307_2)).trans hw307_2), ((HB.out.cell (World.block_lt_of_cell? w _ hw307_3)).trans hw307_3), ((HB.out.cell (World.block_lt_of_cell? w _ hw307_4)).trans hw307_4), ((HB.out.cell (World.block_lt_of_cell? w _ hw307_5)).trans hw307_5), ((HB.out.cell (World.block_lt_of_cell? w _ hw307_6)).trans hw307_6), ((HB.out.cell (World.block_lt_of_cell? w _ hw307_7)).trans hw307_7), ((HB.out.cell (World.block_lt_of_cell? w _ hw308_0)).trans hw308_0), ((HB.out.cell (World.block_lt_of_cell? w _ hw308_1)).trans hw308_1), ((HB.out.cell (World.block_lt_of_cell? w _ hw308_2)).trans hw308_2), ((HB.out.cell (World.block_lt_of_cell? w _ hw308_3)).trans hw308_3), ((HB.out.cell (World.block_lt_of_cell? w _ hw308_4)).trans hw308_4), ((HB.out.cell (World.block_lt_of_cell? w _ hw308_5)).trans hw308_5), ((HB.out.cell (World.block_lt_of_cell? w _ hw308_6)).trans hw308_6), ((HB.out.cell (World.block_lt_of_cell? w _ hw308_7)).trans hw308_7)⟩ (fun hHeld => ?_)
                      clear hK K
                      refine norm_ (a' := ?_) ?_ ?_
                      rotate_left
                      · show Act.put _ (some 56) _ = _
                        simp only [Act.put, List.setIfInBounds_toArray, List.set_cons_zero, List.set_cons_succ, i64_w, i32_w]
                        rfl
                      refine one_ (i := 27) (N := some 64) #[true, true, true, true, true, true, true, true, true, true, true, true, true, true, true, true, true, true, true, true, true, true, true, true, true, true, true, true, false, false] rfl rfl (one_of HT_.out (by kernel_rfl)) (by decide) (fun K hK => ?_)
                      refine goes_ Try.func15 (by kernel_rfl) rfl #[.agg #[.int .i64 ((rd_T36 l0 x10_2).f0), .int .u64 ((rd_T36 l0 x10_2).f1), .int .i64 ((rd_T36 l0 x10_2).f2), .int .u64 ((rd_T36 l0 x10_2).f3), .int .i64 ((rd_T36 l0 x10_2).f4.f0), .bool ((rd_T36 l0 x10_2).f4.f1), .bool ((rd_T36 l0 x10_2).f4.f2), .slice A307_7 ((rd_T36 l0 x10_2).f5).length c307_7], .agg #[.int .i64 ((rd_T36 l0 0).f0), .int .u64 ((rd_T36 l0 0).f1), .int .i64 ((rd_T36 l0 0).f2), .int .u64 ((rd_T36 l0 0).f3), .int .i64 ((rd_T36 l0 0).f4.f0), .bool ((rd_T36 l0 0).f4.f1), .bool ((rd_T36 l0 0).f4.f2), .slice A308_7 ((rd_T36 l0 0).f5).length c308_7]] (by rfl) rfl rfl (by (try simp only [List.map_toArray, List.map_cons, List.map_nil]); first | done | rfl | (rw [← HeA307_.out.1, ← HeA307_.out.2, ← HeA308_.out.1, ← HeA308_.out.2]; rfl) | (simp only [List.length_drop, List.length_take]; rfl)) ?_
                      with_reducible refine (dormerref20_Same.calls k2 ((rd_T36 l0 x10_2).f0) ((rd_T36 l0 x10_2).f1) ((rd_T36 l0 x10_2).f2) ((rd_T36 l0 x10_2).f3) ((rd_T36 l0 x10_2).f4.f0) ((rd_T36 l0 x10_2).f4.f1) ((rd_T36 l0 x10_2).f4.f2) _ _ ((rd_T36 l0 x10_2).f5) ((rd_T36 l0 0).f0) ((rd_T36 l0 0).f1) ((rd_T36 l0 0).f2) ((rd_T36 l0 0).f3) ((rd_T36 l0 0).f4.f0) ((rd_T36 l0 0).f4.f1) ((rd_T36 l0 0).f4.f2) _ _ ((rd_T36 l0 0).f5) t309 _ ?side1 ?side2 ?side3 ?side4 A22.out).mono ?_
                      (case side1 => repeat (first | exact (Kd.C_below HR307_7.out HB.out) | (with_reducible refine Kd.C_alloc ?_ _) | (with_reducible refine Kd.C_drewN ?_ _) | (with_reducible refine Kd.C_drew ?_)))
                      (case side2 => exact HC307_7.out)
                      (case side3 => repeat (first | exact (Kd.C_below HR308_7.out HB.out) | (with_reducible refine Kd.C_alloc ?_ _) | (with_reducible refine Kd.C_drewN ?_ _) | (with_reducible refine Kd.C_drew ?_)))
                      (case side4 => exact HC308_7.out)
                      rintro e w33 ⟨rfl, hb⟩
                      refine ⟨_, rfl, ?_⟩
                      have n0_ := Aside0.mk (Kd.R_below (by (with_reducible repeat (first | apply Kd.R_alloc | apply Kd.R_drewN | apply Kd.R_drew)); exact HO_6.out) hb)
                      have n1_ := Aside0.mk (Kd.R_below (by (with_reducible repeat (first | apply Kd.R_alloc | apply Kd.R_drewN | apply Kd.R_drew)); exact HO_8.out) hb)
                      have n2_ := Aside0.mk (below_step (by repeat (first | (with_reducible first | exact HB.out | apply below_alloc | apply pw_below_drewN | apply below_drew1) | exact HB.out)) hb)
                      clear HO_6
                      clear HO_8
                      clear HB
                      have HO_6 := n0_
                      have HO_8 := n1_
                      have HB := n2_
                      clear n0_ n1_ n2_
                      (try clear hb)
                      (try clear hb2)
                      (try clear hk)
                      (try clear hi)
                      refine hK.out _ _ ⟨((HB.out.cell (World.block_lt_of_cell? w _ hw300_0)).trans hw300_0), ((HB.out.cell (World.block_lt_of_cell? w _ hw300_1)).trans hw300_1), ((HB.out.cell (World.block_lt_of_cell? w _ hw300_2)).trans hw300_2), ((HB.out.cell (World.block_lt_of_cell? w _ hw300_3)).trans hw300_3), ((HB.out.cell (World.block_lt_of_cell? w _ hw300_4)).trans hw300_4), ((HB.out.cell (World.block_lt_of_cell? w _ hw300_5)).trans hw300_5), ((HB.out.cell (World.block_lt_of_cell? w _ hw300_6)).trans hw300_6), ((HB.out.cell (World.block_lt_of_cell? w _ hw300_7)).trans hw300_7), ((HB.out.cell (World.block_lt_of_cell? w _ hw302_0)).trans hw302_0), ((HB.out.cell (World.block_lt_of_cell? w _ hw302_1)).trans hw302_1), ((HB.out.cell (World.block_lt_of_cell? w _ hw302_2)).trans hw302_2), ((HB.out.cell (World.block_lt_of_cell? w _ hw302_3)).trans hw302_3), ((HB.out.cell (World.block_lt_of_cell? w _ hw302_4)).trans hw302_4), ((HB.out.cell (World.block_lt_of_cell? w _ hw302_5)).trans hw302_5), ((HB.out.cell (World.block_lt_of_cell? w _ hw302_6)).trans hw302_6), ((HB.out.cell (World.block_lt_of_cell? w _ hw302_7)).trans hw302_7), ((HB.out.cell (World.block_lt_of_cell? w _ hw304_0)).trans hw304_0), ((HB.out.cell (World.block_lt_of_cell? w _ hw304_1)).trans hw304_1), ((HB.out.cell (World.block_lt_of_cell? w _ hw304_2)).trans hw304_2), ((HB.out.cell (World.block_lt_of_cell? w _ hw304_3)).trans hw304_3), ((HB.out.cell (World.block_lt_of_cell? w _ hw304_4)).trans hw304_4), ((HB.out.cell (World.block_lt_of_cell? w _ hw304_5)).trans hw304_5), ((HB.out.cell (World.block_lt_of_cell? w _ hw304_6)).trans hw304_6), ((HB.out.cell (World.block_lt_of_cell? w _ hw304_7)).trans hw304_7), ((HB.out.cell (World.block_lt_of_cell? w _ hw305_0)).trans hw305_0), ((HB.out.cell (World.block_lt_of_cell? w _ hw305_1)).trans hw305_1), ((HB.out.cell (World.block_lt_of_cell? w _ hw305_2)).trans hw305_2), ((HB.out.cell (World.block_lt_of_cell? w _ hw305_3)).trans hw305_3), ((HB.out.cell (World.block_lt_of_cell? w _ hw305_4)).trans hw305_4), ((HB.out.cell (World.block_lt_of_cell? w _ hw305_5)).trans hw305_5), ((HB.out.cell (World.block_lt_of_cell? w _ hw305_6)).trans hw305_6), ((HB.out.cell (World.block_lt_of_cell? w _ hw305_7)).trans hw305_7), ((HB.out.cell (World.block_lt_of_cell? w _ hw307_0)).trans hw307_0), ((HB.out.cell (World.block_lt_of_cell? w _ hw307_1)).trans hw307_1), ((HB.out.cell (World.block_lt_of_cell? w _ hw307_2)).trans hw307_2), ((HB.out.cell (World.block_lt_of_cell? w _ hw307_3)).trans hw307_3), ((HB.out.cell (World.block_lt_of_cell? w _ hw307_4)).trans hw307_4), ((HB.out.cell (World.block_lt_of_cell? w _ hw307_5)).trans hw307_5), ((HB.out.cell (World.block_lt_of_cell? w _ hw307_6)).trans hw307_6), ((HB.out.cell (World.block_lt_of_cell? w _ hw307_7)).trans hw307_7), ((HB.out.cell (World.block_lt_of_cell? w _ hw308_0)).trans hw308_0), ((HB.out.cell (World.block_lt_of_cell? w _ hw308_1)).trans hw308_1), ((HB.out.cell (World.block_lt_of_cell? w _ hw308_2)).trans hw308_2), ((HB.out.cell (World.block_lt_of_cell? w _ hw308_3)).trans hw308_3), ((HB.out.cell (World.block_lt_of_cell? w _ hw308_4)).trans hw308_4), ((HB.out.cell (World.block_lt_of_cell? w _ hw308_5)).trans hw308_5), ((HB.out.cell (World.block_lt_of_cell? w _ hw308_6)).trans hw308_6), ((HB.out.cell (World.block_lt_of_cell? w _ hw308_7)).trans hw308_7)⟩ (fun hHeld => ?_)
                      clear hK K
                      refine norm_ (a' := ?_) ?_ ?_
                      rotate_left
                      · show Act.put _ (some 64) _ = _
                        simp only [Act.put, List.setIfInBounds_toArray, List.set_cons_zero, List.set_cons_succ, i64_w, i32_w]
                        rfl
                      refine pure_ (i := 28) (N := some 65) (v := ?_) (a' := ?_) #[true, true, true, true, true, true, true, true, true, true, true, true, true, true, true, true, true, true, true, true, true, true, true, true, true, true, true, true, true, false] rfl rfl (any_of HT_.out (by kernel_rfl)) (fun _ _ _ h => h) (Or.inl ⟨by rfl, ?_⟩) ?_ ?_
                      rotate_left
                      · intro w'
                        go_simp
                        with_reducible rfl
                      rotate_left
                      · simp only [Act.put, List.setIfInBounds_toArray, List.set_cons_zero, List.set_cons_succ, i64_w, i32_w]
                        rfl
                      refine pure_ (i := 29) (N := some 66) (v := ?_) (a' := ?_) #[true, true, true, true, true, true, true, true, true, true, true, true, true, true, true, true, true, true, true, true, true, true, true, true, true, true, true, true, true, true] rfl rfl (any_of HT_.out (by kernel_rfl)) (fun _ _ _ h => h) (Or.inl ⟨by rfl, ?_⟩) ?_ ?_
                      rotate_left
                      · intro w'
                        go_simp
                        with_reducible rfl
                      rotate_left
                      · simp only [Act.put, List.setIfInBounds_toArray, List.set_cons_zero, List.set_cons_succ, i64_w, i32_w]
                        rfl
                      refine done_ (done_of HT_.out (by kernel_rfl)) ?_
                      try go_wp2
                      go_roundg k2
                      case measure => have := HJ3.out; have := HK2.out; omega
                      case rel => exact ⟨(wrap64 (x10_2 + 1)), (by first | rfl | (simp; done) | (simp [*]; done)), H', ⟨by have := HJ3.out; have := HK2.out; omega⟩, ⟨by (with_reducible repeat (first | apply Kd.R_alloc | apply Kd.R_drewN | apply Kd.R_drew)); exact HO_6.out⟩, ⟨by (with_reducible repeat (first | apply Kd.R_alloc | apply Kd.R_drewN | apply Kd.R_drew)); exact HO_8.out⟩, ⟨by repeat (first | (with_reducible first | exact HB.out | apply below_alloc | apply pw_below_drewN | apply below_drew1) | exact HB.out)⟩⟩
                  · rw [if_neg c20] at H
                    exact absurd H (by simp)
              · rw [if_neg c13] at H
                exact absurd H (by simp)
            · rw [if_neg c12] at H
              have c12b0 : decide (x10_2 < (l0.length : Int)) = false := decide_eq_false c12
              clear c12
              by_cases c34 : t291 = true
              · subst c34
                have H1 : (if (strOfNums t292).toList = (strOfNums t296).toList then (if t293 = t297 then ((script_Decode.f k2 l1).bind fun t310 => ((dormerref20_Decode.f k2 l1).bind fun t313 => ((dormerref20_List.f k2 t310 t313).bind fun t316 => (if t316 = true then ((script_Quiet.f k2 l0).bind fun t317 => ((dormerref20_Quiet.f k2 l0).bind fun t320 => ((dormerref20_List.f k2 t317 t320).bind fun t323 => (some t323)))) else (some false))))) else (some false)) else (some false)) = some r := by rw [if_pos rfl] at H; exact H
                clear H
                have H := H1
                clear H1
                by_cases c35 : (strOfNums t292).toList = (strOfNums t296).toList
                · rw [if_pos c35] at H
                  have c35b0 : ((strOfNums t292).toList == (strOfNums t296).toList) = true := beq_iff_eq.mpr c35
                  have c35b1 : ((strOfNums t292).toList != (strOfNums t296).toList) = false := bne_eq_false_iff_eq.mpr c35
                  clear c35
                  by_cases c36 : t293 = t297
                  · rw [if_pos c36] at H
                    have c36b0 : (t293 == t297) = true := beq_iff_eq.mpr c36
                    have c36b1 : (t293 != t297) = false := bne_eq_false_iff_eq.mpr c36
                    clear c36
                    replace H := Option.bind_eq_some_iff.mp H
                    obtain ⟨t310, A370, H⟩ := H
                    replace H : ((dormerref20_Decode.f k2 l1).bind fun t313 => ((dormerref20_List.f k2 t310 t313).bind fun t316 => (if t316 = true then ((script_Quiet.f k2 l0).bind fun t317 => ((dormerref20_Quiet.f k2 l0).bind fun t320 => ((dormerref20_List.f k2 t317 t320).bind fun t323 => (some t323)))) else (some false)))) = some r := H
                    have A37 := Aside0.mk A370
                    clear A370
                    replace H := Option.bind_eq_some_iff.mp H
                    obtain ⟨t313, A380, H⟩ := H
                    replace H : ((dormerref20_List.f k2 t310 t313).bind fun t316 => (if t316 = true then ((script_Quiet.f k2 l0).bind fun t317 => ((dormerref20_Quiet.f k2 l0).bind fun t320 => ((dormerref20_List.f k2 t317 t320).bind fun t323 => (some t323)))) else (some false))) = some r := H
                    have A38 := Aside0.mk A380
                    clear A380
                    replace H := Option.bind_eq_some_iff.mp H
                    obtain ⟨t316, A390, H⟩ := H
                    replace H : (if t316 = true then ((script_Quiet.f k2 l0).bind fun t317 => ((dormerref20_Quiet.f k2 l0).bind fun t320 => ((dormerref20_List.f k2 t317 t320).bind fun t323 => (some t323)))) else (some false)) = some r := H
                    have A39 := Aside0.mk A390
                    clear A390
                    by_cases c40 : t316 = true
                    · subst c40
                      have H1 : ((script_Quiet.f k2 l0).bind fun t317 => ((dormerref20_Quiet.f k2 l0).bind fun t320 => ((dormerref20_List.f k2 t317 t320).bind fun t323 => (some t323)))) = some r := by rw [if_pos rfl] at H; exact H
                      clear H
                      have H := H1
                      clear H1
                      replace H := Option.bind_eq_some_iff.mp H
                      obtain ⟨t317, A410, H⟩ := H
                      replace H : ((dormerref20_Quiet.f k2 l0).bind fun t320 => ((dormerref20_List.f k2 t317 t320).bind fun t323 => (some t323))) = some r := H
                      have A41 := Aside0.mk A410
                      clear A410
                      replace H := Option.bind_eq_some_iff.mp H
                      obtain ⟨t320, A420, H⟩ := H
                      replace H : ((dormerref20_List.f k2 t317 t320).bind fun t323 => (some t323)) = some r := H
                      have A42 := Aside0.mk A420
                      clear A420
                      replace H := Option.bind_eq_some_iff.mp H
                      obtain ⟨t323, A430, H⟩ := H
                      replace H : (some t323) = some r := H
                      have A43 := Aside0.mk A430
                      clear A430
                      obtain rfl := Option.some.inj H
                      have hcv44 := own_string (P := Try.prog) Try.underlying23 Try.underlying5 Try.underlying9 (Kd.own_of_R HO_6.out)
                      have hcv45 := own_string (P := Try.prog) Try.underlying23 Try.underlying5 Try.underlying9 (Kd.own_of_R HO_8.out)
                      go_wp2_with (first | (go_at_call 17; (with_reducible refine (script_Decode.calls k2 (fun k_ => k_ < w.heap.size) _ _ l1 t310 _ ?side1 A37.out).mono ?_); (case side1 => exact Kd.V_mk HC1.out (Kd.F_below (Kd.C_F (Kd.heap_int .u8) HR1.out) (by repeat (first | (with_reducible first | exact HB.out | apply below_alloc | apply pw_below_drewN | apply below_drew1) | exact HB.out)))); rintro e w46 ⟨v311, rfl, ho0, hb⟩; have n0_ := Aside0.mk (Kd.R_below (by (with_reducible repeat (first | apply Kd.R_alloc | apply Kd.R_drewN | apply Kd.R_drew)); exact HO_6.out) hb); have n1_ := Aside0.mk (Kd.R_below (by (with_reducible repeat (first | apply Kd.R_alloc | apply Kd.R_drewN | apply Kd.R_drew)); exact HO_8.out) hb); have n2_ := Aside0.mk (Kd.S_lower (Kd.S_mono (ok' := fun k_ => True) ho0 (fun _ hk_ => trivial)) (below_size (by repeat (first | (with_reducible first | exact HB.out | apply below_alloc | apply pw_below_drewN | apply below_drew1) | exact HB.out)))); have n3_ := Aside0.mk (below_step (by repeat (first | (with_reducible first | exact HB.out | apply below_alloc | apply pw_below_drewN | apply below_drew1) | exact HB.out)) hb); clear HO_6; clear HO_8; clear HB; have HO_6 := n0_; have HO_8 := n1_; have HO312 := n2_; have HB := n3_; clear n0_ n1_ n2_ n3_; (try clear hb); (try clear hb2); (try clear hk); (try clear hi); (try clear ho0)) | (go_at_call 18; (with_reducible refine (dormerref20_Decode.calls k2 _ _ l1 t313 _ ?side1 ?side2 A38.out).mono ?_); (case side1 => repeat (first | exact (Kd.C_below HR1.out HB.out) | (with_reducible refine Kd.C_alloc ?_ _) | (with_reducible refine Kd.C_drewN ?_ _) | (with_reducible refine Kd.C_drew ?_))); (case side2 => exact HC1.out); rintro e w47 ⟨v314, rfl, ho0, hb⟩; have n0_ := Aside0.mk (Kd.R_below (by (with_reducible repeat (first | apply Kd.R_alloc | apply Kd.R_drewN | apply Kd.R_drew)); exact HO_6.out) hb); have n1_ := Aside0.mk (Kd.R_below (by (with_reducible repeat (first | apply Kd.R_alloc | apply Kd.R_drewN | apply Kd.R_drew)); exact HO_8.out) hb); have n2_ := Aside0.mk (Kd.S_elder' (by (with_reducible repeat (first | apply Kd.S_alloc | apply Kd.S_drewN | apply Kd.S_drew)); exact HO312.out) (Kd.S_base ho0) hb); have n3_ := Aside0.mk (Kd.S_lower (Kd.S_new' ho0 (Kd.S_lt (by (with_reducible repeat (first | apply Kd.S_alloc | apply Kd.S_drewN | apply Kd.S_drew)); exact HO312.out))) (below_size (by repeat (first | (with_reducible first | exact HB.out | apply below_alloc | apply pw_below_drewN | apply below_drew1) | exact HB.out)))); have n4_ := Aside0.mk (below_step (by repeat (first | (with_reducible first | exact HB.out | apply below_alloc | apply pw_below_drewN | apply below_drew1) | exact HB.out)) hb); clear HO_6; clear HO_8; clear HO312; clear HB; have HO_6 := n0_; have HO_8 := n1_; have HO312 := n2_; have HO315 := n3_; have HB := n4_; clear n0_ n1_ n2_ n3_ n4_; (try clear hb); (try clear hb2); (try clear hk); (try clear hi); (try clear ho0); obtain ⟨Ao48, co48, eo48⟩ := Kd.S_slice HO312.out; subst eo48; obtain ⟨Ao49, co49, eo49⟩ := Kd.S_slice HO315.out; subst eo49) | (go_at_call 16; (with_reducible refine (dormerref20_List.calls k2 _ _ t310 _ _ t313 true _ ?side1 ?side2 ?side3 ?side4 A39.out).mono ?_); (case side1 => repeat (first | exact (Kd.S_reads' HO312.out).2.2 | (with_reducible refine Kd.C_alloc ?_ _) | (with_reducible refine Kd.C_drewN ?_ _) | (with_reducible refine Kd.C_drew ?_))); (case side2 => exact (Kd.S_reads' HO312.out).2.1); (case side3 => repeat (first | exact (Kd.S_reads' HO315.out).2.2 | (with_reducible refine Kd.C_alloc ?_ _) | (with_reducible refine Kd.C_drewN ?_ _) | (with_reducible refine Kd.C_drew ?_))); (case side4 => exact (Kd.S_reads' HO315.out).2.1); rintro e w50 ⟨rfl, hb⟩; have n0_ := Aside0.mk (Kd.R_below (by (with_reducible repeat (first | apply Kd.R_alloc | apply Kd.R_drewN | apply Kd.R_drew)); exact HO_6.out) hb); have n1_ := Aside0.mk (Kd.R_below (by (with_reducible repeat (first | apply Kd.R_alloc | apply Kd.R_drewN | apply Kd.R_drew)); exact HO_8.out) hb); have n2_ := Aside0.mk (Kd.S_below (by (with_reducible repeat (first | apply Kd.S_alloc | apply Kd.S_drewN | apply Kd.S_drew)); exact HO312.out) hb); have n3_ := Aside0.mk (Kd.S_below (by (with_reducible repeat (first | apply Kd.S_alloc | apply Kd.S_drewN | apply Kd.S_drew)); exact HO315.out) hb); have n4_ := Aside0.mk (below_step (by repeat (first | (with_reducible first | exact HB.out | apply below_alloc | apply pw_below_drewN | apply below_drew1) | exact HB.out)) hb); clear HO_6; clear HO_8; clear HO312; clear HO315; clear HB; have HO_6 := n0_; have HO_8 := n1_; have HO312 := n2_; have HO315 := n3_; have HB := n4_; clear n0_ n1_ n2_ n3_ n4_; (try clear hb); (try clear hb2); (try clear hk); (try clear hi)) | (go_at_call 19; (with_reducible refine (script_Quiet.calls k2 _ _ l0 t317 _ ?side1 ?side2 A41.out).mono ?_); (case side1 => repeat (first | exact (Kd.C_below HR0.out HB.out) | (with_reducible refine Kd.C_alloc ?_ _) | (with_reducible refine Kd.C_drewN ?_ _) | (with_reducible refine Kd.C_drew ?_))); (case side2 => exact HC0.out); rintro e w51 ⟨v318, rfl, ho0, hb⟩; have n0_ := Aside0.mk (Kd.R_below (by (with_reducible repeat (first | apply Kd.R_alloc | apply Kd.R_drewN | apply Kd.R_drew)); exact HO_6.out) hb); have n1_ := Aside0.mk (Kd.R_below (by (with_reducible repeat (first | apply Kd.R_alloc | apply Kd.R_drewN | apply Kd.R_drew)); exact HO_8.out) hb); have n2_ := Aside0.mk (Kd.S_elder' (by (with_reducible repeat (first | apply Kd.S_alloc | apply Kd.S_drewN | apply Kd.S_drew)); exact HO312.out) (Kd.S_base ho0) hb); have n3_ := Aside0.mk (Kd.S_elder' (by (with_reducible repeat (first | apply Kd.S_alloc | apply Kd.S_drewN | apply Kd.S_drew)); exact HO315.out) (Kd.S_base ho0) hb); have n4_ := Aside0.mk (Kd.S_lower (Kd.S_new' (Kd.S_new' ho0 (Kd.S_lt (by (with_reducible repeat (first | apply Kd.S_alloc | apply Kd.S_drewN | apply Kd.S_drew)); exact HO312.out))) (Kd.S_lt (by (with_reducible repeat (first | apply Kd.S_alloc | apply Kd.S_drewN | apply Kd.S_drew)); exact HO315.out))) (below_size (by repeat (first | (with_reducible first | exact HB.out | apply below_alloc | apply pw_below_drewN | apply below_drew1) | exact HB.out)))); have n5_ := Aside0.mk (below_step (by repeat (first | (with_reducible first | exact HB.out | apply below_alloc | apply pw_below_drewN | apply below_drew1) | exact HB.out)) hb); clear HO_6; clear HO_8; clear HO312; clear HO315; clear HB; have HO_6 := n0_; have HO_8 := n1_; have HO312 := n2_; have HO315 := n3_; have HO319 := n4_; have HB := n5_; clear n0_ n1_ n2_ n3_ n4_ n5_; (try clear hb); (try clear hb2); (try clear hk); (try clear hi); (try clear ho0)) | (go_at_call 20; (with_reducible refine (dormerref20_Quiet.calls k2 _ _ l0 t320 _ ?side1 ?side2 A42.out).mono ?_); (case side1 => repeat (first | exact (Kd.C_below HR0.out HB.out) | (with_reducible refine Kd.C_alloc ?_ _) | (with_reducible refine Kd.C_drewN ?_ _) | (with_reducible refine Kd.C_drew ?_))); (case side2 => exact HC0.out); rintro e w52 ⟨v321, rfl, ho0, hb⟩; have n0_ := Aside0.mk (Kd.R_below (by (with_reducible repeat (first | apply Kd.R_alloc | apply Kd.R_drewN | apply Kd.R_drew)); exact HO_6.out) hb); have n1_ := Aside0.mk (Kd.R_below (by (with_reducible repeat (first | apply Kd.R_alloc | apply Kd.R_drewN | apply Kd.R_drew)); exact HO_8.out) hb); have n2_ := Aside0.mk (Kd.S_elder' (by (with_reducible repeat (first | apply Kd.S_alloc | apply Kd.S_drewN | apply Kd.S_drew)); exact HO312.out) (Kd.S_base ho0) hb); have n3_ := Aside0.mk (Kd.S_elder' (by (with_reducible repeat (first | apply Kd.S_alloc | apply Kd.S_drewN | apply Kd.S_drew)); exact HO315.out) (Kd.S_base ho0) hb); have n4_ := Aside0.mk (Kd.S_elder' (by (with_reducible repeat (first | apply Kd.S_alloc | apply Kd.S_drewN | apply Kd.S_drew)); exact HO319.out) (Kd.S_base ho0) hb); have n5_ := Aside0.mk (Kd.S_lower (Kd.S_new' (Kd.S_new' (Kd.S_new' ho0 (Kd.S_lt (by (with_reducible repeat (first | apply Kd.S_alloc | apply Kd.S_drewN | apply Kd.S_drew)); exact HO312.out))) (Kd.S_lt (by (with_reducible repeat (first | apply Kd.S_alloc | apply Kd.S_drewN | apply Kd.S_drew)); exact HO315.out))) (Kd.S_lt (by (with_reducible repeat (first | apply Kd.S_alloc | apply Kd.S_drewN | apply Kd.S_drew)); exact HO319.out))) (below_size (by repeat (first | (with_reducible first | exact HB.out | apply below_alloc | apply pw_below_drewN | apply below_drew1) | exact HB.out)))); have n6_ := Aside0.mk (below_step (by repeat (first | (with_reducible first | exact HB.out | apply below_alloc | apply pw_below_drewN | apply below_drew1) | exact HB.out)) hb); clear HO_6; clear HO_8; clear HO312; clear HO315; clear HO319; clear HB; have HO_6 := n0_; have HO_8 := n1_; have HO312 := n2_; have HO315 := n3_; have HO319 := n4_; have HO322 := n5_; have HB := n6_; clear n0_ n1_ n2_ n3_ n4_ n5_ n6_; (try clear hb); (try clear hb2); (try clear hk); (try clear hi); (try clear ho0); obtain ⟨Ao53, co53, eo53⟩ := Kd.S_slice HO319.out; subst eo53; obtain ⟨Ao54, co54, eo54⟩ := Kd.S_slice HO322.out; subst eo54) | (go_at_call 16; (with_reducible refine (dormerref20_List.calls k2 _ _ t317 _ _ t320 t323 _ ?side1 ?side2 ?side3 ?side4 A43.out).mono ?_); (case side1 => repeat (first | exact (Kd.S_reads' HO319.out).2.2 | (with_reducible refine Kd.C_alloc ?_ _) | (with_reducible refine Kd.C_drewN ?_ _) | (with_reducible refine Kd.C_drew ?_))); (case side2 => exact (Kd.S_reads' HO319.out).2.1); (case side3 => repeat (first | exact (Kd.S_reads' HO322.out).2.2 | (with_reducible refine Kd.C_alloc ?_ _) | (with_reducible refine Kd.C_drewN ?_ _) | (with_reducible refine Kd.C_drew ?_))); (case side4 => exact (Kd.S_reads' HO322.out).2.1); rintro e w55 ⟨rfl, hb⟩; have n0_ := Aside0.mk (Kd.R_below (by (with_reducible repeat (first | apply Kd.R_alloc | apply Kd.R_drewN | apply Kd.R_drew)); exact HO_6.out) hb); have n1_ := Aside0.mk (Kd.R_below (by (with_reducible repeat (first | apply Kd.R_alloc | apply Kd.R_drewN | apply Kd.R_drew)); exact HO_8.out) hb); have n2_ := Aside0.mk (Kd.S_below (by (with_reducible repeat (first | apply Kd.S_alloc | apply Kd.S_drewN | apply Kd.S_drew)); exact HO312.out) hb); have n3_ := Aside0.mk (Kd.S_below (by (with_reducible repeat (first | apply Kd.S_alloc | apply Kd.S_drewN | apply Kd.S_drew)); exact HO315.out) hb); have n4_ := Aside0.mk (Kd.S_below (by (with_reducible repeat (first | apply Kd.S_alloc | apply Kd.S_drewN | apply Kd.S_drew)); exact HO319.out) hb); have n5_ := Aside0.mk (Kd.S_below (by (with_reducible repeat (first | apply Kd.S_alloc | apply Kd.S_drewN | apply Kd.S_drew)); exact HO322.out) hb); have n6_ := Aside0.mk (below_step (by repeat (first | (with_reducible first | exact HB.out | apply below_alloc | apply pw_below_drewN | apply below_drew1) | exact HB.out)) hb); clear HO_6; clear HO_8; clear HO312; clear HO315; clear HO319; clear HO322; clear HB; have HO_6 := n0_; have HO_8 := n1_; have HO312 := n2_; have HO315 := n3_; have HO319 := n4_; have HO322 := n5_; have HB := n6_; clear n0_ n1_ n2_ n3_ n4_ n5_ n6_; (try clear hb); (try clear hb2); (try clear hk); (try clear hi)))
                      go_ret
                      exact ⟨by first | rfl | (simp [errW_none, errW_some] <;> rfl) | (simp [*, errW_none, errW_some] <;> rfl), by repeat (first | (with_reducible first | exact HB.out | apply below_alloc | apply pw_below_drewN | apply below_drew1) | exact HB.out)⟩
                    · replace c40 := Bool.eq_false_iff.mpr c40
                      subst c40
                      have H1 : (some false) = some r := by rw [if_neg (show ¬ (false = true) by decide)] at H; exact H
                      clear H
                      have H := H1
                      clear H1
                      obtain rfl := Option.some.inj H
                      have hcv56 := own_string (P := Try.prog) Try.underlying23 Try.underlying5 Try.underlying9 (Kd.own_of_R HO_6.out)
                      have hcv57 := own_string (P := Try.prog) Try.underlying23 Try.underlying5 Try.underlying9 (Kd.own_of_R HO_8.out)
                      go_wp2_with (first | (go_at_call 17; (with_reducible refine (script_Decode.calls k2 (fun k_ => k_ < w.heap.size) _ _ l1 t310 _ ?side1 A37.out).mono ?_); (case side1 => exact Kd.V_mk HC1.out (Kd.F_below (Kd.C_F (Kd.heap_int .u8) HR1.out) (by repeat (first | (with_reducible first | exact HB.out | apply below_alloc | apply pw_below_drewN | apply below_drew1) | exact HB.out)))); rintro e w58 ⟨v311, rfl, ho0, hb⟩; have n0_ := Aside0.mk (Kd.R_below (by (with_reducible repeat (first | apply Kd.R_alloc | apply Kd.R_drewN | apply Kd.R_drew)); exact HO_6.out) hb); have n1_ := Aside0.mk (Kd.R_below (by (with_reducible repeat (first | apply Kd.R_alloc | apply Kd.R_drewN | apply Kd.R_drew)); exact HO_8.out) hb); have n2_ := Aside0.mk (Kd.S_lower (Kd.S_mono (ok' := fun k_ => True) ho0 (fun _ hk_ => trivial)) (below_size (by repeat (first | (with_reducible first | exact HB.out | apply below_alloc | apply pw_below_drewN | apply below_drew1) | exact HB.out)))); have n3_ := Aside0.mk (below_step (by repeat (first | (with_reducible first | exact HB.out | apply below_alloc | apply pw_below_drewN | apply below_drew1) | exact HB.out)) hb); clear HO_6; clear HO_8; clear HB; have HO_6 := n0_; have HO_8 := n1_; have HO312 := n2_; have HB := n3_; clear n0_ n1_ n2_ n3_; (try clear hb); (try clear hb2); (try clear hk); (try clear hi); (try clear ho0)) | (go_at_call 18; (with_reducible refine (dormerref20_Decode.calls k2 _ _ l1 t313 _ ?side1 ?side2 A38.out).mono ?_); (case side1 => repeat (first | exact (Kd.C_below HR1.out HB.out) | (with_reducible refine Kd.C_alloc ?_ _) | (with_reducible refine Kd.C_drewN ?_ _) | (with_reducible refine Kd.C_drew ?_))); (case side2 => exact HC1.out); rintro e w59 ⟨v314, rfl, ho0, hb⟩; have n0_ := Aside0.mk (Kd.R_below (by (with_reducible repeat (first | apply Kd.R_alloc | apply Kd.R_drewN | apply Kd.R_drew)); exact HO_6.out) hb); have n1_ := Aside0.mk (Kd.R_below (by (with_reducible repeat (first | apply Kd.R_alloc | apply Kd.R_drewN | apply Kd.R_drew)); exact HO_8.out) hb); have n2_ := Aside0.mk (Kd.S_elder' (by (with_reducible repeat (first | apply Kd.S_alloc | apply Kd.S_drewN | apply Kd.S_drew)); exact HO312.out) (Kd.S_base ho0) hb); have n3_ := Aside0.mk (Kd.S_lower (Kd.S_new' ho0 (Kd.S_lt (by (with_reducible repeat (first | apply Kd.S_alloc | apply Kd.S_drewN | apply Kd.S_drew)); exact HO312.out))) (below_size (by repeat (first | (with_reducible first | exact HB.out | apply below_alloc | apply pw_below_drewN | apply below_drew1) | exact HB.out)))); have n4_ := Aside0.mk (below_step (by repeat (first | (with_reducible first | exact HB.out | apply below_alloc | apply pw_below_drewN | apply below_drew1) | exact HB.out)) hb); clear HO_6; clear HO_8; clear HO312; clear HB; have HO_6 := n0_; have HO_8 := n1_; have HO312 := n2_; have HO315 := n3_; have HB := n4_; clear n0_ n1_ n2_ n3_ n4_; (try clear hb); (try clear hb2); (try clear hk); (try clear hi); (try clear ho0); obtain ⟨Ao60, co60, eo60⟩ := Kd.S_slice HO312.out; subst eo60; obtain ⟨Ao61, co61, eo61⟩ := Kd.S_slice HO315.out; subst eo61) | (go_at_call 16; (with_reducible refine (dormerref20_List.calls k2 _ _ t310 _ _ t313 false _ ?side1 ?side2 ?side3 ?side4 A39.out).mono ?_); (case side1 => repeat (first | exact (Kd.S_reads' HO312.out).2.2 | (with_reducible refine Kd.C_alloc ?_ _) | (with_reducible refine Kd.C_drewN ?_ _) | (with_reducible refine Kd.C_drew ?_))); (case side2 => exact (Kd.S_reads' HO312.out).2.1); (case side3 => repeat (first | exact (Kd.S_reads' HO315.out).2.2 | (with_reducible refine Kd.C_alloc ?_ _) | (with_reducible refine Kd.C_drewN ?_ _) | (with_reducible refine Kd.C_drew ?_))); (case side4 => exact (Kd.S_reads' HO315.out).2.1); rintro e w62 ⟨rfl, hb⟩; have n0_ := Aside0.mk (Kd.R_below (by (with_reducible repeat (first | apply Kd.R_alloc | apply Kd.R_drewN | apply Kd.R_drew)); exact HO_6.out) hb); have n1_ := Aside0.mk (Kd.R_below (by (with_reducible repeat (first | apply Kd.R_alloc | apply Kd.R_drewN | apply Kd.R_drew)); exact HO_8.out) hb); have n2_ := Aside0.mk (Kd.S_below (by (with_reducible repeat (first | apply Kd.S_alloc | apply Kd.S_drewN | apply Kd.S_drew)); exact HO312.out) hb); have n3_ := Aside0.mk (Kd.S_below (by (with_reducible repeat (first | apply Kd.S_alloc | apply Kd.S_drewN | apply Kd.S_drew)); exact HO315.out) hb); have n4_ := Aside0.mk (below_step (by repeat (first | (with_reducible first | exact HB.out | apply below_alloc | apply pw_below_drewN | apply below_drew1) | exact HB.out)) hb); clear HO_6; clear HO_8; clear HO312; clear HO315; clear HB; have HO_6 := n0_; have HO_8 := n1_; have HO312 := n2_; have HO315 := n3_; have HB := n4_; clear n0_ n1_ n2_ n3_ n4_; (try clear hb); (try clear hb2); (try clear hk); (try clear hi)))
                      go_ret
                      exact ⟨by first | rfl | (simp [errW_none, errW_some] <;> rfl) | (simp [*, errW_none, errW_some] <;> rfl), by repeat (first | (with_reducible first | exact HB.out | apply below_alloc | apply pw_below_drewN | apply below_drew1) | exact HB.out)⟩
                  · rw [if_neg c36] at H
                    have c36b0 : (t293 == t297) = false := beq_eq_false_iff_ne.mpr c36
                    have c36b1 : (t293 != t297) = true := bne_iff_ne.mpr c36
                    obtain rfl := Option.some.inj H
                    have hcv63 := own_string (P := Try.prog) Try.underlying23 Try.underlying5 Try.underlying9 (Kd.own_of_R HO_6.out)
                    have hcv64 := own_string (P := Try.prog) Try.underlying23 Try.underlying5 Try.underlying9 (Kd.own_of_R HO_8.out)
                    go_wp2
                    go_ret
                    exact ⟨by first | rfl | (simp [errW_none, errW_some] <;> rfl) | (simp [*, errW_none, errW_some] <;> rfl), by repeat (first | (with_reducible first | exact HB.out | apply below_alloc | apply pw_below_drewN | apply below_drew1) | exact HB.out)⟩
                · rw [if_neg c35] at H
                  have c35b0 : ((strOfNums t292).toList == (strOfNums t296).toList) = false := beq_eq_false_iff_ne.mpr c35
                  have c35b1 : ((strOfNums t292).toList != (strOfNums t296).toList) = true := bne_iff_ne.mpr c35
                  obtain rfl := Option.some.inj H
                  have hcv65 := own_string (P := Try.prog) Try.underlying23 Try.underlying5 Try.underlying9 (Kd.own_of_R HO_6.out)
                  have hcv66 := own_string (P := Try.prog) Try.underlying23 Try.underlying5 Try.underlying9 (Kd.own_of_R HO_8.out)
                  go_wp2
                  go_ret
                  exact ⟨by first | rfl | (simp [errW_none, errW_some] <;> rfl) | (simp [*, errW_none, errW_some] <;> rfl), by repeat (first | (with_reducible first | exact HB.out | apply below_alloc | apply pw_below_drewN | apply below_drew1) | exact HB.out)⟩
              · replace c34 := Bool.eq_false_iff.mpr c34
                subst c34
                have H1 : (some false) = some r := by rw [if_neg (show ¬ (false = true) by decide)] at H; exact H
                clear H
                have H := H1
                clear H1
                obtain rfl := Option.some.inj H
                go_wp2
                go_ret
                exact ⟨by first | rfl | (simp [errW_none, errW_some] <;> rfl) | (simp [*, errW_none, errW_some] <;> rfl), by repeat (first | (with_reducible first | exact HB.out | apply below_alloc | apply pw_below_drewN | apply below_drew1) | exact HB.out)⟩

end Go.Proofs.Ytlccjklljlddhaa.Fn
