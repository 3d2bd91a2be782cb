-- Out of print.py's text (see NOTES.md), turned by lawtext.py.
import Derived.Test.YtpbgehgbonilgaaFnx
namespace Go.Proofs.Ytpbgehgbonilgaa.Fn
open Go.RowKit Go.Proofs.YtpbgehgbonilgaaW.PrintWords Go.Proofs.YtpbgehgbonilgaaW.PrintLast Go.Proofs.YtpbgehgbonilgaaW.PrintMore
attribute [local go_sem] max2_int min2_int max_two min_two max_three min_three max_four min_four   -- for this text's walks alone
set_option linter.unusedVariables false
set_option linter.unusedSimpArgs false

/-! ### dormerlaw01_FieldBits: function 7 -/
def dormerlaw01_FieldBits.l0 : Nat → Int → Bool → Bool → Int → Bool → Int → Int → Int → Option (Bool)
  | 0, _, _, _, _, _, _, _, _ => none
  | k + 1, x0, x2, x7, x8, x9, x10, x11, x12 => if x12 ≥ 0 then ((field_Bit.f x0 x12).bind fun t118 => (if t118 = true then (dormerlaw01_FieldBits.l0 k x0 x2 x7 x8 x9 x10 (IntKind.u64.wrap ((IntKind.u64.wrap (2 * x11)) + 1)) (wrap64 (x12 - 1))) else (dormerlaw01_FieldBits.l0 k x0 x2 x7 x8 x9 x10 (IntKind.u64.wrap (2 * x11)) (wrap64 (x12 - 1))))) else (if x7 = true then (if x11 = x0 then ((field_Bit.f x10 x8).bind fun t119 => (if (t119 == x2) = true then ((field_With.f x10 x8 x9).bind fun t120 => (if t120 = x0 then ((field_Get.f x0 x8 1).bind fun t121 => (if ((t121 == 1) == x9) = true then ((field_Mask.f x8 1).bind fun t122 => (if 0 ≤ (IntKind.u64.wrap (x8)) then (if t122 = (shl .u64 1 (IntKind.u64.wrap (x8))) then ((field_Mask.f 0 64).bind fun t123 => (some (t123 == 18446744073709551615))) else (some false)) else (none))) else (some false))) else (some false))) else (some false))) else (some false)) else (some false))
def dormerlaw01_FieldBits.f (k : Nat) (a0 : Int) (a1 : Int) (a2 : Bool) : Option (Bool) := (dormerlaw01_awake.f).bind fun t115 => ((field_Bit.f a0 (wrap64 (Int.tmod a1 64))).bind fun t116 => ((field_With.f a0 (wrap64 (Int.tmod a1 64)) a2).bind fun t117 => (dormerlaw01_FieldBits.l0 k a0 a2 t115 (wrap64 (Int.tmod a1 64)) t116 t117 0 63)))
theorem dormerlaw01_FieldBits.mono_l : ∀ k, (∀ y0 y1 y2 y3 y4 y5 y6 y7, LeO (dormerlaw01_FieldBits.l0 k y0 y1 y2 y3 y4 y5 y6 y7) (dormerlaw01_FieldBits.l0 (k + 1) y0 y1 y2 y3 y4 y5 y6 y7))
  | 0 => fun _ _ _ _ _ _ _ _ r h => by simp [dormerlaw01_FieldBits.l0] at h
  | k + 1 => by
    have ih0 := dormerlaw01_FieldBits.mono_l k
    · intro y0 y1 y2 y3 y4 y5 y6 y7
      unfold dormerlaw01_FieldBits.l0
      repeat' first
      | (with_reducible exact ih0 _ _ _ _ _ _ _ _)
      | (with_reducible exact LeO.refl _)
      | (with_reducible exact LeO.none _)
      | (with_reducible refine LeO.ite ?_ ?_)
      | (with_reducible refine LeO.bind ?_ (fun _ => ?_))
      | exact ih0 _ _ _ _ _ _ _ _
      | exact LeO.none _
      | refine LeO.ite ?_ ?_
      | refine LeO.bind ?_ (fun _ => ?_)
theorem dormerlaw01_FieldBits.mono : ∀ a0 a1 a2 k, LeO (dormerlaw01_FieldBits.f k a0 a1 a2) (dormerlaw01_FieldBits.f (k + 1) a0 a1 a2) := by
  intro a0 a1 a2 k
  have ih0 := dormerlaw01_FieldBits.mono_l k
  unfold dormerlaw01_FieldBits.f
  repeat' first
      | (with_reducible exact ih0 _ _ _ _ _ _ _ _)
      | (with_reducible exact LeO.refl _)
      | (with_reducible exact LeO.none _)
      | (with_reducible refine LeO.ite ?_ ?_)
      | (with_reducible refine LeO.bind ?_ (fun _ => ?_))
      | exact ih0 _ _ _ _ _ _ _ _
      | exact LeO.none _
      | refine LeO.ite ?_ ?_
      | refine LeO.bind ?_ (fun _ => ?_)
set_option maxHeartbeats 8000000 in
set_option maxRecDepth 100000 in
theorem dormerlaw01_FieldBits.calls (k : Nat) (a0 : Int) (a1 : Int) (a2 : Bool) (r : Bool) (w : World) (h : dormerlaw01_FieldBits.f k a0 a1 a2 = some r) :
    Calls Try.prog 7 #[.int .u64 a0, .int .u8 a1, .bool a2] w fun e w' => e = .returned (.bool r) ∧ Drawn0 w w' := by
  have H : ((dormerlaw01_awake.f).bind fun t115 => ((field_Bit.f a0 (wrap64 (Int.tmod a1 64))).bind fun t116 => ((field_With.f a0 (wrap64 (Int.tmod a1 64)) a2).bind fun t117 => (dormerlaw01_FieldBits.l0 k a0 a2 t115 (wrap64 (Int.tmod a1 64)) t116 t117 0 63)))) = some r := h
  clear h
  replace H := Option.bind_eq_some_iff.mp H
  obtain ⟨t115, A40, H⟩ := H
  replace H : ((field_Bit.f a0 (wrap64 (Int.tmod a1 64))).bind fun t116 => ((field_With.f a0 (wrap64 (Int.tmod a1 64)) a2).bind fun t117 => (dormerlaw01_FieldBits.l0 k a0 a2 t115 (wrap64 (Int.tmod a1 64)) t116 t117 0 63))) = some r := H
  have A4 := Aside0.mk A40
  clear A40
  replace H := Option.bind_eq_some_iff.mp H
  obtain ⟨t116, A50, H⟩ := H
  replace H : ((field_With.f a0 (wrap64 (Int.tmod a1 64)) a2).bind fun t117 => (dormerlaw01_FieldBits.l0 k a0 a2 t115 (wrap64 (Int.tmod a1 64)) t116 t117 0 63)) = some r := H
  have A5 := Aside0.mk A50
  clear A50
  replace H := Option.bind_eq_some_iff.mp H
  obtain ⟨t117, A60, H⟩ := H
  replace H : (dormerlaw01_FieldBits.l0 k a0 a2 t115 (wrap64 (Int.tmod a1 64)) t116 t117 0 63) = some r := H
  have A6 := Aside0.mk A60
  clear A60
  have H' := Aside0.mk H
  clear H
  go_enter Try.func7, Try.ntmps7
  go_wp2_with (first | ((with_reducible refine gate_callee (f := 15) rfl ?_); refine goesL_ (some 13) rfl rfl Try.func15 (by kernel_rfl) rfl #[] rfl (by (try simp only [List.map_toArray, List.map_cons, List.map_nil]); first | done | rfl | (simp only [List.length_drop, List.length_take]; rfl)) ?_; (with_reducible refine (dormerlaw01_awake.calls  t115 _ A4.out).mono ?_); rintro e w' ⟨rfl, ⟨nd, rfl⟩⟩; refine ⟨_, rfl, ?_⟩) | ((with_reducible refine gate_callee (f := 20) rfl ?_); refine goesL_ (some 19) rfl rfl Try.func20 (by kernel_rfl) rfl #[.int .u64 a0, .int .i64 (wrap64 (Int.tmod a1 64))] rfl (by (try simp only [List.map_toArray, List.map_cons, List.map_nil]); first | done | rfl | (simp only [List.length_drop, List.length_take]; rfl)) ?_; (with_reducible refine (field_Bit.calls a0 (wrap64 (Int.tmod a1 64)) t116 _ A5.out).mono ?_); rintro e w' ⟨rfl, ⟨nd, rfl⟩⟩; refine ⟨_, rfl, ?_⟩) | ((with_reducible refine gate_callee (f := 24) rfl ?_); refine goesL_ (some 23) rfl rfl Try.func24 (by kernel_rfl) rfl #[.int .u64 a0, .int .i64 (wrap64 (Int.tmod a1 64)), .bool a2] rfl (by (try simp only [List.map_toArray, List.map_cons, List.map_nil]); first | done | rfl | (simp only [List.length_drop, List.length_take]; rfl)) ?_; (with_reducible refine (field_With.calls a0 (wrap64 (Int.tmod a1 64)) a2 t117 _ A6.out).mono ?_); rintro e w' ⟨rfl, ⟨nd, rfl⟩⟩; refine ⟨_, rfl, ?_⟩))
  go_loopg [11, 12] k (fun kq v11 v12 w' => ∃ (x11_1 : Int) (x12_1 : Int), v11 = .int .u64 x11_1 ∧ v12 = .int .i64 x12_1 ∧ Aside0 (dormerlaw01_FieldBits.l0 kq a0 a2 t115 (wrap64 (Int.tmod a1 64)) t116 t117 x11_1 x12_1 = some r) ∧ Aside0 (kq ≤ k) ∧ Drawn0 w w')
  case atStart => exact ⟨(0), (63), (by first | rfl | (simp; done) | (simp [*]; done)), (by first | rfl | (simp; done) | (simp [*]; done)), H', ⟨Nat.le_refl _⟩, by repeat (first | exact Drawn0.refl _ | apply Drawn0.step)⟩
  case round =>
    clear H'
    try clear c1
    try clear c2
    try clear p2
    try clear p6
    obtain ⟨x11_1, x12_1, rfl, rfl, HA, HK1, ⟨m1, rfl⟩⟩ := hrel
    cases gk with
    | zero => exact absurd HA.out (by simp [dormerlaw01_FieldBits.l0])
    | succ k1 =>
      have H := HA.out
      clear HA
      simp only [dormerlaw01_FieldBits.l0] at H
      by_cases c7 : x12_1 ≥ 0
      · rw [if_pos c7] at H
        have c7b0 : decide (0 ≤ x12_1) = true := decide_eq_true c7
        clear c7
        replace H := Option.bind_eq_some_iff.mp H
        obtain ⟨t118, A80, H⟩ := H
        replace H : (if t118 = true then (dormerlaw01_FieldBits.l0 k1 a0 a2 t115 (wrap64 (Int.tmod a1 64)) t116 t117 (IntKind.u64.wrap ((IntKind.u64.wrap (2 * x11_1)) + 1)) (wrap64 (x12_1 - 1))) else (dormerlaw01_FieldBits.l0 k1 a0 a2 t115 (wrap64 (Int.tmod a1 64)) t116 t117 (IntKind.u64.wrap (2 * x11_1)) (wrap64 (x12_1 - 1)))) = some r := H
        have A8 := Aside0.mk A80
        clear A80
        by_cases c9 : t118 = true
        · subst c9
          have H1 : (dormerlaw01_FieldBits.l0 k1 a0 a2 t115 (wrap64 (Int.tmod a1 64)) t116 t117 (IntKind.u64.wrap ((IntKind.u64.wrap (2 * x11_1)) + 1)) (wrap64 (x12_1 - 1))) = some r := by rw [if_pos rfl] at H; exact H
          clear H
          have H := H1
          clear H1
          have H' := Aside0.mk H
          clear H
          go_wp2_with (first | ((with_reducible refine gate_callee (f := 20) rfl ?_); refine goesL_ (some 32) rfl rfl Try.func20 (by kernel_rfl) rfl #[.int .u64 a0, .int .i64 x12_1] rfl (by (try simp only [List.map_toArray, List.map_cons, List.map_nil]); first | done | rfl | (simp only [List.length_drop, List.length_take]; rfl)) ?_; (with_reducible refine (field_Bit.calls a0 x12_1 true _ A8.out).mono ?_); rintro e w' ⟨rfl, ⟨nd, rfl⟩⟩; refine ⟨_, rfl, ?_⟩))
          go_roundg k1
          case measure => have := HK1.out; omega
          case rel => exact ⟨(IntKind.u64.wrap ((IntKind.u64.wrap (2 * x11_1)) + 1)), (wrap64 (x12_1 - 1)), (by first | rfl | (simp; done) | (simp [*]; done)), (by first | rfl | (simp; done) | (simp [*]; done)), H', ⟨by have := HK1.out; omega⟩, by repeat (first | exact Drawn0.refl _ | apply Drawn0.step)⟩
        · replace c9 := Bool.eq_false_iff.mpr c9
          subst c9
          have H1 : (dormerlaw01_FieldBits.l0 k1 a0 a2 t115 (wrap64 (Int.tmod a1 64)) t116 t117 (IntKind.u64.wrap (2 * x11_1)) (wrap64 (x12_1 - 1))) = some r := by rw [if_neg (show ¬ (false = true) by decide)] at H; exact H
          clear H
          have H := H1
          clear H1
          have H' := Aside0.mk H
          clear H
          go_wp2_with (first | ((with_reducible refine gate_callee (f := 20) rfl ?_); refine goesL_ (some 32) rfl rfl Try.func20 (by kernel_rfl) rfl #[.int .u64 a0, .int .i64 x12_1] rfl (by (try simp only [List.map_toArray, List.map_cons, List.map_nil]); first | done | rfl | (simp only [List.length_drop, List.length_take]; rfl)) ?_; (with_reducible refine (field_Bit.calls a0 x12_1 false _ A8.out).mono ?_); rintro e w' ⟨rfl, ⟨nd, rfl⟩⟩; refine ⟨_, rfl, ?_⟩))
          go_roundg k1
          case measure => have := HK1.out; omega
          case rel => exact ⟨(IntKind.u64.wrap (2 * x11_1)), (wrap64 (x12_1 - 1)), (by first | rfl | (simp; done) | (simp [*]; done)), (by first | rfl | (simp; done) | (simp [*]; done)), H', ⟨by have := HK1.out; omega⟩, by repeat (first | exact Drawn0.refl _ | apply Drawn0.step)⟩
      · rw [if_neg c7] at H
        have c7b0 : decide (0 ≤ x12_1) = false := decide_eq_false c7
        clear c7
        by_cases c10 : t115 = true
        · subst c10
          have H1 : (if x11_1 = a0 then ((field_Bit.f t117 (wrap64 (Int.tmod a1 64))).bind fun t119 => (if (t119 == a2) = true then ((field_With.f t117 (wrap64 (Int.tmod a1 64)) t116).bind fun t120 => (if t120 = a0 then ((field_Get.f a0 (wrap64 (Int.tmod a1 64)) 1).bind fun t121 => (if ((t121 == 1) == t116) = true then ((field_Mask.f (wrap64 (Int.tmod a1 64)) 1).bind fun t122 => (if 0 ≤ (IntKind.u64.wrap ((wrap64 (Int.tmod a1 64)))) then (if t122 = (shl .u64 1 (IntKind.u64.wrap ((wrap64 (Int.tmod a1 64))))) then ((field_Mask.f 0 64).bind fun t123 => (some (t123 == 18446744073709551615))) else (some false)) else (none))) else (some false))) else (some false))) else (some false))) else (some false)) = some r := by rw [if_pos rfl] at H; exact H
          clear H
          have H := H1
          clear H1
          by_cases c11 : x11_1 = a0
          · rw [if_pos c11] at H
            have c11b0 : (x11_1 == a0) = true := beq_iff_eq.mpr c11
            have c11b1 : (x11_1 != a0) = false := bne_eq_false_iff_eq.mpr c11
            clear c11
            replace H := Option.bind_eq_some_iff.mp H
            obtain ⟨t119, A120, H⟩ := H
            replace H : (if (t119 == a2) = true then ((field_With.f t117 (wrap64 (Int.tmod a1 64)) t116).bind fun t120 => (if t120 = a0 then ((field_Get.f a0 (wrap64 (Int.tmod a1 64)) 1).bind fun t121 => (if ((t121 == 1) == t116) = true then ((field_Mask.f (wrap64 (Int.tmod a1 64)) 1).bind fun t122 => (if 0 ≤ (IntKind.u64.wrap ((wrap64 (Int.tmod a1 64)))) then (if t122 = (shl .u64 1 (IntKind.u64.wrap ((wrap64 (Int.tmod a1 64))))) then ((field_Mask.f 0 64).bind fun t123 => (some (t123 == 18446744073709551615))) else (some false)) else (none))) else (some false))) else (some false))) else (some false)) = some r := H
            have A12 := Aside0.mk A120
            clear A120
            by_cases c13 : (t119 == a2) = true
            · rw [if_pos c13] at H
              have c13b0 : (t119 == a2) = true := c13
              (try (have c13b1 : decide (t119 = a2) = true := by simpa using c13))
              (try (have c13b2 : (t119 == a2) = true := by simpa using c13))
              clear c13
              replace H := Option.bind_eq_some_iff.mp H
              obtain ⟨t120, A140, H⟩ := H
              replace H : (if t120 = a0 then ((field_Get.f a0 (wrap64 (Int.tmod a1 64)) 1).bind fun t121 => (if ((t121 == 1) == t116) = true then ((field_Mask.f (wrap64 (Int.tmod a1 64)) 1).bind fun t122 => (if 0 ≤ (IntKind.u64.wrap ((wrap64 (Int.tmod a1 64)))) then (if t122 = (shl .u64 1 (IntKind.u64.wrap ((wrap64 (Int.tmod a1 64))))) then ((field_Mask.f 0 64).bind fun t123 => (some (t123 == 18446744073709551615))) else (some false)) else (none))) else (some false))) else (some false)) = some r := H
              have A14 := Aside0.mk A140
              clear A140
              by_cases c15 : t120 = a0
              · rw [if_pos c15] at H
                have c15b0 : (t120 == a0) = true := beq_iff_eq.mpr c15
                have c15b1 : (t120 != a0) = false := bne_eq_false_iff_eq.mpr c15
                clear c15
                replace H := Option.bind_eq_some_iff.mp H
                obtain ⟨t121, A160, H⟩ := H
                replace H : (if ((t121 == 1) == t116) = true then ((field_Mask.f (wrap64 (Int.tmod a1 64)) 1).bind fun t122 => (if 0 ≤ (IntKind.u64.wrap ((wrap64 (Int.tmod a1 64)))) then (if t122 = (shl .u64 1 (IntKind.u64.wrap ((wrap64 (Int.tmod a1 64))))) then ((field_Mask.f 0 64).bind fun t123 => (some (t123 == 18446744073709551615))) else (some false)) else (none))) else (some false)) = some r := H
                have A16 := Aside0.mk A160
                clear A160
                by_cases c17 : ((t121 == 1) == t116) = true
                · rw [if_pos c17] at H
                  have c17b0 : ((t121 == 1) == t116) = true := c17
                  (try (have c17b1 : decide ((t121 == 1) = t116) = true := by simpa using c17))
                  (try (have c17b2 : ((t121 == 1) == t116) = true := by simpa using c17))
                  clear c17
                  replace H := Option.bind_eq_some_iff.mp H
                  obtain ⟨t122, A180, H⟩ := H
                  replace H : (if 0 ≤ (IntKind.u64.wrap ((wrap64 (Int.tmod a1 64)))) then (if t122 = (shl .u64 1 (IntKind.u64.wrap ((wrap64 (Int.tmod a1 64))))) then ((field_Mask.f 0 64).bind fun t123 => (some (t123 == 18446744073709551615))) else (some false)) else (none)) = some r := H
                  have A18 := Aside0.mk A180
                  clear A180
                  obtain ⟨ji19, hji19⟩ : ∃ j_ : Int, (IntKind.u64.wrap ((wrap64 (Int.tmod a1 64)))) = j_ := ⟨_, rfl⟩
                  replace H : (if 0 ≤ (ji19) then (if t122 = (shl .u64 1 (ji19)) then ((field_Mask.f 0 64).bind fun t123 => (some (t123 == 18446744073709551615))) else (some false)) else (none)) = some r := by first | (rw [hji19] at H; exact H) | (simp only [hji19] at H ⊢; exact H)
                  (try rw [hji19] at A12)
                  (try rw [hji19] at A14)
                  (try rw [hji19] at A16)
                  (try rw [hji19] at A18)
                  by_cases c20 : 0 ≤ (ji19)
                  · rw [if_pos c20] at H
                    have c20b0 := eq_true c20
                    have c20b1 : decide (0 ≤ (ji19)) = true := decide_eq_true c20
                    clear c20
                    obtain ⟨ji21, hji21⟩ : ∃ j_ : Int, (shl .u64 1 (ji19)) = j_ := ⟨_, rfl⟩
                    replace H : (if t122 = (ji21) then ((field_Mask.f 0 64).bind fun t123 => (some (t123 == 18446744073709551615))) else (some false)) = some r := by first | (rw [hji21] at H; exact H) | (simp only [hji21] at H ⊢; exact H)
                    (try rw [hji21] at A12)
                    (try rw [hji21] at A14)
                    (try rw [hji21] at A16)
                    (try rw [hji21] at A18)
                    have hji21_ : (IntKind.u64.wrap (1 * 2 ^ min (ji19).toNat 64)) = ji21 := hji21
                    have hji21z : (ji19) ≤ 64 → (IntKind.u64.wrap (1 * 2 ^ (ji19).toNat)) = ji21 := shl_small hji21
                    have hji21u : (IntKind.u64.wrap (2 ^ min (ji19).toNat 64)) = ji21 := by have h_ := hji21_; rw [Int.one_mul] at h_; exact h_
                    have hji21v : (ji19) ≤ 64 → (IntKind.u64.wrap (2 ^ (ji19).toNat)) = ji21 := fun hle_ => by have h_ := hji21z hle_; rw [Int.one_mul] at h_; exact h_
                    by_cases c22 : t122 = (ji21)
                    · rw [if_pos c22] at H
                      have c22b0 : (t122 == (ji21)) = true := beq_iff_eq.mpr c22
                      have c22b1 : (t122 != (ji21)) = false := bne_eq_false_iff_eq.mpr c22
                      clear c22
                      replace H := Option.bind_eq_some_iff.mp H
                      obtain ⟨t123, A230, H⟩ := H
                      replace H : (some (t123 == 18446744073709551615)) = some r := H
                      have A23 := Aside0.mk A230
                      clear A230
                      obtain rfl := Option.some.inj H
                      go_wp2_with (first | (go_at_call 20; (with_reducible refine (field_Bit.calls t117 (wrap64 (Int.tmod a1 64)) t119 _ A12.out).mono ?_); rintro e w' ⟨rfl, ⟨nd, rfl⟩⟩) | (go_at_call 24; (with_reducible refine (field_With.calls t117 (wrap64 (Int.tmod a1 64)) t116 t120 _ A14.out).mono ?_); rintro e w' ⟨rfl, ⟨nd, rfl⟩⟩) | (go_at_call 18; (with_reducible refine (field_Get.calls a0 (wrap64 (Int.tmod a1 64)) 1 t121 _ A16.out).mono ?_); rintro e w' ⟨rfl, ⟨nd, rfl⟩⟩) | (go_at_call 16; (with_reducible refine (field_Mask.calls (wrap64 (Int.tmod a1 64)) 1 t122 _ A18.out).mono ?_); rintro e w' ⟨rfl, ⟨nd, rfl⟩⟩) | (go_at_call 16; (with_reducible refine (field_Mask.calls 0 64 t123 _ A23.out).mono ?_); rintro e w' ⟨rfl, ⟨nd, rfl⟩⟩))
                      go_ret
                      exact ⟨by first | rfl | (simp; done) | (simp only [← hji19, ← hji21] <;> (first | rfl | simp)) | (simp [*]; done), by repeat (first | exact Drawn0.refl _ | apply Drawn0.step)⟩
                    · rw [if_neg c22] at H
                      have c22b0 : (t122 == (ji21)) = false := beq_eq_false_iff_ne.mpr c22
                      have c22b1 : (t122 != (ji21)) = true := bne_iff_ne.mpr c22
                      obtain rfl := Option.some.inj H
                      go_wp2_with (first | (go_at_call 20; (with_reducible refine (field_Bit.calls t117 (wrap64 (Int.tmod a1 64)) t119 _ A12.out).mono ?_); rintro e w' ⟨rfl, ⟨nd, rfl⟩⟩) | (go_at_call 24; (with_reducible refine (field_With.calls t117 (wrap64 (Int.tmod a1 64)) t116 t120 _ A14.out).mono ?_); rintro e w' ⟨rfl, ⟨nd, rfl⟩⟩) | (go_at_call 18; (with_reducible refine (field_Get.calls a0 (wrap64 (Int.tmod a1 64)) 1 t121 _ A16.out).mono ?_); rintro e w' ⟨rfl, ⟨nd, rfl⟩⟩) | (go_at_call 16; (with_reducible refine (field_Mask.calls (wrap64 (Int.tmod a1 64)) 1 t122 _ A18.out).mono ?_); rintro e w' ⟨rfl, ⟨nd, rfl⟩⟩))
                      go_ret
                      exact ⟨by first | rfl | (simp; done) | (simp only [← hji19, ← hji21] <;> (first | rfl | simp)) | (simp [*]; done), by repeat (first | exact Drawn0.refl _ | apply Drawn0.step)⟩
                  · rw [if_neg c20] at H
                    exact absurd H (by simp)
                · rw [if_neg c17] at H
                  have c17b0 : ((t121 == 1) == t116) = false := by simpa using c17
                  (try (have c17b1 : decide ((t121 == 1) = t116) = false := by simpa using c17))
                  (try (have c17b2 : ((t121 == 1) == t116) = false := by simpa using c17))
                  (try (have c17b3 : ¬ ((t121 == 1) = t116) := by simpa using c17))
                  clear c17
                  obtain rfl := Option.some.inj H
                  go_wp2_with (first | (go_at_call 20; (with_reducible refine (field_Bit.calls t117 (wrap64 (Int.tmod a1 64)) t119 _ A12.out).mono ?_); rintro e w' ⟨rfl, ⟨nd, rfl⟩⟩) | (go_at_call 24; (with_reducible refine (field_With.calls t117 (wrap64 (Int.tmod a1 64)) t116 t120 _ A14.out).mono ?_); rintro e w' ⟨rfl, ⟨nd, rfl⟩⟩) | (go_at_call 18; (with_reducible refine (field_Get.calls a0 (wrap64 (Int.tmod a1 64)) 1 t121 _ A16.out).mono ?_); rintro e w' ⟨rfl, ⟨nd, rfl⟩⟩))
                  go_ret
                  exact ⟨by first | rfl | (simp; done) | (simp [*]; done), by repeat (first | exact Drawn0.refl _ | apply Drawn0.step)⟩
              · rw [if_neg c15] at H
                have c15b0 : (t120 == a0) = false := beq_eq_false_iff_ne.mpr c15
                have c15b1 : (t120 != a0) = true := bne_iff_ne.mpr c15
                obtain rfl := Option.some.inj H
                go_wp2_with (first | (go_at_call 20; (with_reducible refine (field_Bit.calls t117 (wrap64 (Int.tmod a1 64)) t119 _ A12.out).mono ?_); rintro e w' ⟨rfl, ⟨nd, rfl⟩⟩) | (go_at_call 24; (with_reducible refine (field_With.calls t117 (wrap64 (Int.tmod a1 64)) t116 t120 _ A14.out).mono ?_); rintro e w' ⟨rfl, ⟨nd, rfl⟩⟩))
                go_ret
                exact ⟨by first | rfl | (simp; done) | (simp [*]; done), by repeat (first | exact Drawn0.refl _ | apply Drawn0.step)⟩
            · rw [if_neg c13] at H
              have c13b0 : (t119 == a2) = false := by simpa using c13
              (try (have c13b1 : decide (t119 = a2) = false := by simpa using c13))
              (try (have c13b2 : (t119 == a2) = false := by simpa using c13))
              (try (have c13b3 : ¬ (t119 = a2) := by simpa using c13))
              clear c13
              obtain rfl := Option.some.inj H
              go_wp2_with (first | (go_at_call 20; (with_reducible refine (field_Bit.calls t117 (wrap64 (Int.tmod a1 64)) t119 _ A12.out).mono ?_); rintro e w' ⟨rfl, ⟨nd, rfl⟩⟩))
              go_ret
              exact ⟨by first | rfl | (simp; done) | (simp [*]; done), by repeat (first | exact Drawn0.refl _ | apply Drawn0.step)⟩
          · rw [if_neg c11] at H
            have c11b0 : (x11_1 == a0) = false := beq_eq_false_iff_ne.mpr c11
            have c11b1 : (x11_1 != a0) = true := bne_iff_ne.mpr c11
            obtain rfl := Option.some.inj H
            go_wp2
            go_ret
            exact ⟨by first | rfl | (simp; done) | (simp [*]; done), by repeat (first | exact Drawn0.refl _ | apply Drawn0.step)⟩
        · replace c10 := Bool.eq_false_iff.mpr c10
          subst c10
          have H1 : (some false) = some r := by rw [if_neg (show ¬ (false = true) by decide)] at H; exact H
          clear H
          have H := H1
          clear H1
          obtain rfl := Option.some.inj H
          go_wp2
          go_ret
          exact ⟨by first | rfl | (simp; done) | (simp [*]; done), by repeat (first | exact Drawn0.refl _ | apply Drawn0.step)⟩

/-- THE ONE PURE STATEMENT of dormerlaw01_FieldBits: yours. -/
def dormerlaw01_FieldBits.Pure : Prop := ∀ (a0 : Int) (a1 : Int) (a2 : Bool), (Lit.int .u64 a0).wf = true → (Lit.int .u8 a1).wf = true → ∃ k, dormerlaw01_FieldBits.f k a0 a1 a2 = some true
theorem dormerlaw01_FieldBits.walk (P : dormerlaw01_FieldBits.Pure) (a0 : Int) (a1 : Int) (a2 : Bool) (w : World) (w0 : (Lit.int .u64 a0).wf = true) (w1 : (Lit.int .u8 a1).wf = true) :
    Calls Try.prog 7 #[.int .u64 a0, .int .u8 a1, .bool a2] w fun e w' => e = .returned (.bool true) ∧ Below w.heap.size w w' := by
  obtain ⟨k, h⟩ := P a0 a1 a2 w0 w1
  refine (dormerlaw01_FieldBits.calls k a0 a1 a2 true w h).mono ?_
  rintro e w' ⟨rfl, hd⟩
  exact ⟨rfl, hd.below⟩

end Go.Proofs.Ytpbgehgbonilgaa.Fn
