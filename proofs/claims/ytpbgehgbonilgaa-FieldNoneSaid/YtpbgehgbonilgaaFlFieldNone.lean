-- Out of print.py's text (see NOTES.md), turned by lawtext.py.
import Derived.Test.YtpbgehgbonilgaaFnx
namespace Go.Proofs.Ytpbgehgbonilgaa.Fn
open Go.RowKit Go.Proofs.YtpbgehgbonilgaaW.PrintWords Go.Proofs.YtpbgehgbonilgaaW.PrintLast Go.Proofs.YtpbgehgbonilgaaW.PrintMore
attribute [local go_sem] max2_int min2_int max_two min_two max_three min_three max_four min_four   -- for this text's walks alone
set_option linter.unusedVariables false
set_option linter.unusedSimpArgs false

/-! ### dormerlaw01_FieldNone: function 8 -/
def dormerlaw01_FieldNone.f (a0 : Int) (a1 : Int) (a2 : Int) : Option (Bool) := (dormerlaw01_awake.f).bind fun t115 => (if t115 = true then ((field_Get.f a0 (wrap64 ((wrap64 (Int.tmod a1 64)) + 1)) (wrap64 ((wrap64 (65 - (wrap64 ((wrap64 (Int.tmod a1 64)) + 1)))) + (wrap64 (a2))))).bind fun t116 => (if t116 = 0 then ((field_Set.f a0 (wrap64 ((wrap64 (Int.tmod a1 64)) + 1)) (wrap64 ((wrap64 (65 - (wrap64 ((wrap64 (Int.tmod a1 64)) + 1)))) + (wrap64 (a2)))) (Go.bits .xor .u64 IntKind.u64.max a0)).bind fun t117 => (if t117 = a0 then ((field_Mask.f (wrap64 ((wrap64 (Int.tmod a1 64)) + 1)) (wrap64 ((wrap64 (65 - (wrap64 ((wrap64 (Int.tmod a1 64)) + 1)))) + (wrap64 (a2))))).bind fun t118 => (if t118 = 0 then ((field_Get.f a0 (wrap64 (-(wrap64 ((wrap64 (Int.tmod a1 64)) + 1)))) 3).bind fun t119 => (if t119 = 0 then ((field_Set.f a0 (Int.tmod (wrap64 ((wrap64 (Int.tmod a1 64)) + 1)) 64) 0 (Go.bits .xor .u64 IntKind.u64.max a0)).bind fun t120 => (if t120 = a0 then ((field_With.f a0 (wrap64 (64 + (wrap64 (a2)))) true).bind fun t121 => (if t121 = a0 then ((field_Bit.f a0 (wrap64 (-(wrap64 ((wrap64 (Int.tmod a1 64)) + 1))))).bind fun t122 => (some (!t122))) else (some false))) else (some false))) else (some false))) else (some false))) else (some false))) else (some false))) else (some false))
set_option maxHeartbeats 8000000 in
set_option maxRecDepth 100000 in
theorem dormerlaw01_FieldNone.calls (a0 : Int) (a1 : Int) (a2 : Int) (r : Bool) (w : World) (h : dormerlaw01_FieldNone.f a0 a1 a2 = some r) :
    Calls Try.prog 8 #[.int .u64 a0, .int .u8 a1, .int .u8 a2] w fun e w' => e = .returned (.bool r) ∧ Drawn0 w w' := by
  have H : ((dormerlaw01_awake.f).bind fun t115 => (if t115 = true then ((field_Get.f a0 (wrap64 ((wrap64 (Int.tmod a1 64)) + 1)) (wrap64 ((wrap64 (65 - (wrap64 ((wrap64 (Int.tmod a1 64)) + 1)))) + (wrap64 (a2))))).bind fun t116 => (if t116 = 0 then ((field_Set.f a0 (wrap64 ((wrap64 (Int.tmod a1 64)) + 1)) (wrap64 ((wrap64 (65 - (wrap64 ((wrap64 (Int.tmod a1 64)) + 1)))) + (wrap64 (a2)))) (Go.bits .xor .u64 IntKind.u64.max a0)).bind fun t117 => (if t117 = a0 then ((field_Mask.f (wrap64 ((wrap64 (Int.tmod a1 64)) + 1)) (wrap64 ((wrap64 (65 - (wrap64 ((wrap64 (Int.tmod a1 64)) + 1)))) + (wrap64 (a2))))).bind fun t118 => (if t118 = 0 then ((field_Get.f a0 (wrap64 (-(wrap64 ((wrap64 (Int.tmod a1 64)) + 1)))) 3).bind fun t119 => (if t119 = 0 then ((field_Set.f a0 (Int.tmod (wrap64 ((wrap64 (Int.tmod a1 64)) + 1)) 64) 0 (Go.bits .xor .u64 IntKind.u64.max a0)).bind fun t120 => (if t120 = a0 then ((field_With.f a0 (wrap64 (64 + (wrap64 (a2)))) true).bind fun t121 => (if t121 = a0 then ((field_Bit.f a0 (wrap64 (-(wrap64 ((wrap64 (Int.tmod a1 64)) + 1))))).bind fun t122 => (some (!t122))) else (some false))) else (some false))) else (some false))) else (some false))) else (some false))) else (some false))) else (some false))) = some r := h
  clear h
  replace H := Option.bind_eq_some_iff.mp H
  obtain ⟨t115, A40, H⟩ := H
  replace H : (if t115 = true then ((field_Get.f a0 (wrap64 ((wrap64 (Int.tmod a1 64)) + 1)) (wrap64 ((wrap64 (65 - (wrap64 ((wrap64 (Int.tmod a1 64)) + 1)))) + (wrap64 (a2))))).bind fun t116 => (if t116 = 0 then ((field_Set.f a0 (wrap64 ((wrap64 (Int.tmod a1 64)) + 1)) (wrap64 ((wrap64 (65 - (wrap64 ((wrap64 (Int.tmod a1 64)) + 1)))) + (wrap64 (a2)))) (Go.bits .xor .u64 IntKind.u64.max a0)).bind fun t117 => (if t117 = a0 then ((field_Mask.f (wrap64 ((wrap64 (Int.tmod a1 64)) + 1)) (wrap64 ((wrap64 (65 - (wrap64 ((wrap64 (Int.tmod a1 64)) + 1)))) + (wrap64 (a2))))).bind fun t118 => (if t118 = 0 then ((field_Get.f a0 (wrap64 (-(wrap64 ((wrap64 (Int.tmod a1 64)) + 1)))) 3).bind fun t119 => (if t119 = 0 then ((field_Set.f a0 (Int.tmod (wrap64 ((wrap64 (Int.tmod a1 64)) + 1)) 64) 0 (Go.bits .xor .u64 IntKind.u64.max a0)).bind fun t120 => (if t120 = a0 then ((field_With.f a0 (wrap64 (64 + (wrap64 (a2)))) true).bind fun t121 => (if t121 = a0 then ((field_Bit.f a0 (wrap64 (-(wrap64 ((wrap64 (Int.tmod a1 64)) + 1))))).bind fun t122 => (some (!t122))) else (some false))) else (some false))) else (some false))) else (some false))) else (some false))) else (some false))) else (some false)) = some r := H
  have A4 := Aside0.mk A40
  clear A40
  by_cases c5 : t115 = true
  · subst c5
    have H1 : ((field_Get.f a0 (wrap64 ((wrap64 (Int.tmod a1 64)) + 1)) (wrap64 ((wrap64 (65 - (wrap64 ((wrap64 (Int.tmod a1 64)) + 1)))) + (wrap64 (a2))))).bind fun t116 => (if t116 = 0 then ((field_Set.f a0 (wrap64 ((wrap64 (Int.tmod a1 64)) + 1)) (wrap64 ((wrap64 (65 - (wrap64 ((wrap64 (Int.tmod a1 64)) + 1)))) + (wrap64 (a2)))) (Go.bits .xor .u64 IntKind.u64.max a0)).bind fun t117 => (if t117 = a0 then ((field_Mask.f (wrap64 ((wrap64 (Int.tmod a1 64)) + 1)) (wrap64 ((wrap64 (65 - (wrap64 ((wrap64 (Int.tmod a1 64)) + 1)))) + (wrap64 (a2))))).bind fun t118 => (if t118 = 0 then ((field_Get.f a0 (wrap64 (-(wrap64 ((wrap64 (Int.tmod a1 64)) + 1)))) 3).bind fun t119 => (if t119 = 0 then ((field_Set.f a0 (Int.tmod (wrap64 ((wrap64 (Int.tmod a1 64)) + 1)) 64) 0 (Go.bits .xor .u64 IntKind.u64.max a0)).bind fun t120 => (if t120 = a0 then ((field_With.f a0 (wrap64 (64 + (wrap64 (a2)))) true).bind fun t121 => (if t121 = a0 then ((field_Bit.f a0 (wrap64 (-(wrap64 ((wrap64 (Int.tmod a1 64)) + 1))))).bind fun t122 => (some (!t122))) else (some false))) else (some false))) else (some false))) else (some false))) else (some false))) else (some false))) = some r := by rw [if_pos rfl] at H; exact H
    clear H
    have H := H1
    clear H1
    replace H := Option.bind_eq_some_iff.mp H
    obtain ⟨t116, A60, H⟩ := H
    replace H : (if t116 = 0 then ((field_Set.f a0 (wrap64 ((wrap64 (Int.tmod a1 64)) + 1)) (wrap64 ((wrap64 (65 - (wrap64 ((wrap64 (Int.tmod a1 64)) + 1)))) + (wrap64 (a2)))) (Go.bits .xor .u64 IntKind.u64.max a0)).bind fun t117 => (if t117 = a0 then ((field_Mask.f (wrap64 ((wrap64 (Int.tmod a1 64)) + 1)) (wrap64 ((wrap64 (65 - (wrap64 ((wrap64 (Int.tmod a1 64)) + 1)))) + (wrap64 (a2))))).bind fun t118 => (if t118 = 0 then ((field_Get.f a0 (wrap64 (-(wrap64 ((wrap64 (Int.tmod a1 64)) + 1)))) 3).bind fun t119 => (if t119 = 0 then ((field_Set.f a0 (Int.tmod (wrap64 ((wrap64 (Int.tmod a1 64)) + 1)) 64) 0 (Go.bits .xor .u64 IntKind.u64.max a0)).bind fun t120 => (if t120 = a0 then ((field_With.f a0 (wrap64 (64 + (wrap64 (a2)))) true).bind fun t121 => (if t121 = a0 then ((field_Bit.f a0 (wrap64 (-(wrap64 ((wrap64 (Int.tmod a1 64)) + 1))))).bind fun t122 => (some (!t122))) else (some false))) else (some false))) else (some false))) else (some false))) else (some false))) else (some false)) = some r := H
    have A6 := Aside0.mk A60
    clear A60
    by_cases c7 : t116 = 0
    · rw [if_pos c7] at H
      have c7b0 : (t116 == 0) = true := beq_iff_eq.mpr c7
      have c7b1 : (t116 != 0) = false := bne_eq_false_iff_eq.mpr c7
      clear c7
      replace H := Option.bind_eq_some_iff.mp H
      obtain ⟨t117, A80, H⟩ := H
      replace H : (if t117 = a0 then ((field_Mask.f (wrap64 ((wrap64 (Int.tmod a1 64)) + 1)) (wrap64 ((wrap64 (65 - (wrap64 ((wrap64 (Int.tmod a1 64)) + 1)))) + (wrap64 (a2))))).bind fun t118 => (if t118 = 0 then ((field_Get.f a0 (wrap64 (-(wrap64 ((wrap64 (Int.tmod a1 64)) + 1)))) 3).bind fun t119 => (if t119 = 0 then ((field_Set.f a0 (Int.tmod (wrap64 ((wrap64 (Int.tmod a1 64)) + 1)) 64) 0 (Go.bits .xor .u64 IntKind.u64.max a0)).bind fun t120 => (if t120 = a0 then ((field_With.f a0 (wrap64 (64 + (wrap64 (a2)))) true).bind fun t121 => (if t121 = a0 then ((field_Bit.f a0 (wrap64 (-(wrap64 ((wrap64 (Int.tmod a1 64)) + 1))))).bind fun t122 => (some (!t122))) else (some false))) else (some false))) else (some false))) else (some false))) else (some false)) = some r := H
      have A8 := Aside0.mk A80
      clear A80
      by_cases c9 : t117 = a0
      · rw [if_pos c9] at H
        have c9b0 : (t117 == a0) = true := beq_iff_eq.mpr c9
        have c9b1 : (t117 != a0) = false := bne_eq_false_iff_eq.mpr c9
        clear c9
        replace H := Option.bind_eq_some_iff.mp H
        obtain ⟨t118, A100, H⟩ := H
        replace H : (if t118 = 0 then ((field_Get.f a0 (wrap64 (-(wrap64 ((wrap64 (Int.tmod a1 64)) + 1)))) 3).bind fun t119 => (if t119 = 0 then ((field_Set.f a0 (Int.tmod (wrap64 ((wrap64 (Int.tmod a1 64)) + 1)) 64) 0 (Go.bits .xor .u64 IntKind.u64.max a0)).bind fun t120 => (if t120 = a0 then ((field_With.f a0 (wrap64 (64 + (wrap64 (a2)))) true).bind fun t121 => (if t121 = a0 then ((field_Bit.f a0 (wrap64 (-(wrap64 ((wrap64 (Int.tmod a1 64)) + 1))))).bind fun t122 => (some (!t122))) else (some false))) else (some false))) else (some false))) else (some false)) = some r := H
        have A10 := Aside0.mk A100
        clear A100
        by_cases c11 : t118 = 0
        · rw [if_pos c11] at H
          have c11b0 : (t118 == 0) = true := beq_iff_eq.mpr c11
          have c11b1 : (t118 != 0) = false := bne_eq_false_iff_eq.mpr c11
          clear c11
          replace H := Option.bind_eq_some_iff.mp H
          obtain ⟨t119, A120, H⟩ := H
          replace H : (if t119 = 0 then ((field_Set.f a0 (Int.tmod (wrap64 ((wrap64 (Int.tmod a1 64)) + 1)) 64) 0 (Go.bits .xor .u64 IntKind.u64.max a0)).bind fun t120 => (if t120 = a0 then ((field_With.f a0 (wrap64 (64 + (wrap64 (a2)))) true).bind fun t121 => (if t121 = a0 then ((field_Bit.f a0 (wrap64 (-(wrap64 ((wrap64 (Int.tmod a1 64)) + 1))))).bind fun t122 => (some (!t122))) else (some false))) else (some false))) else (some false)) = some r := H
          have A12 := Aside0.mk A120
          clear A120
          by_cases c13 : t119 = 0
          · rw [if_pos c13] at H
            have c13b0 : (t119 == 0) = true := beq_iff_eq.mpr c13
            have c13b1 : (t119 != 0) = false := bne_eq_false_iff_eq.mpr c13
            clear c13
            replace H := Option.bind_eq_some_iff.mp H
            obtain ⟨t120, A140, H⟩ := H
            replace H : (if t120 = a0 then ((field_With.f a0 (wrap64 (64 + (wrap64 (a2)))) true).bind fun t121 => (if t121 = a0 then ((field_Bit.f a0 (wrap64 (-(wrap64 ((wrap64 (Int.tmod a1 64)) + 1))))).bind fun t122 => (some (!t122))) else (some false))) else (some false)) = some r := H
            have A14 := Aside0.mk A140
            clear A140
            by_cases c15 : t120 = a0
            · rw [if_pos c15] at H
              have c15b0 : (t120 == a0) = true := beq_iff_eq.mpr c15
              have c15b1 : (t120 != a0) = false := bne_eq_false_iff_eq.mpr c15
              clear c15
              replace H := Option.bind_eq_some_iff.mp H
              obtain ⟨t121, A160, H⟩ := H
              replace H : (if t121 = a0 then ((field_Bit.f a0 (wrap64 (-(wrap64 ((wrap64 (Int.tmod a1 64)) + 1))))).bind fun t122 => (some (!t122))) else (some false)) = some r := H
              have A16 := Aside0.mk A160
              clear A160
              by_cases c17 : t121 = a0
              · rw [if_pos c17] at H
                have c17b0 : (t121 == a0) = true := beq_iff_eq.mpr c17
                have c17b1 : (t121 != a0) = false := bne_eq_false_iff_eq.mpr c17
                clear c17
                replace H := Option.bind_eq_some_iff.mp H
                obtain ⟨t122, A180, H⟩ := H
                replace H : (some (!t122)) = some r := H
                have A18 := Aside0.mk A180
                clear A180
                obtain rfl := Option.some.inj H
                go_enter Try.func8, Try.ntmps8
                go_wp2_with (first | ((with_reducible refine gate_callee (f := 15) rfl ?_); refine goesL_ (some 10) rfl rfl Try.func15 (by kernel_rfl) rfl #[] rfl (by (try simp only [List.map_toArray, List.map_cons, List.map_nil]); first | done | rfl | (simp only [List.length_drop, List.length_take]; rfl)) ?_; (with_reducible refine (dormerlaw01_awake.calls  true _ A4.out).mono ?_); rintro e w' ⟨rfl, ⟨nd, rfl⟩⟩; refine ⟨_, rfl, ?_⟩) | (go_at_call 18; (with_reducible refine (field_Get.calls a0 (wrap64 ((wrap64 (Int.tmod a1 64)) + 1)) (wrap64 ((wrap64 (65 - (wrap64 ((wrap64 (Int.tmod a1 64)) + 1)))) + (wrap64 (a2)))) t116 _ A6.out).mono ?_); rintro e w' ⟨rfl, ⟨nd, rfl⟩⟩) | (go_at_call 22; (with_reducible refine (field_Set.calls a0 (wrap64 ((wrap64 (Int.tmod a1 64)) + 1)) (wrap64 ((wrap64 (65 - (wrap64 ((wrap64 (Int.tmod a1 64)) + 1)))) + (wrap64 (a2)))) (Go.bits .xor .u64 IntKind.u64.max a0) t117 _ A8.out).mono ?_); rintro e w' ⟨rfl, ⟨nd, rfl⟩⟩) | (go_at_call 16; (with_reducible refine (field_Mask.calls (wrap64 ((wrap64 (Int.tmod a1 64)) + 1)) (wrap64 ((wrap64 (65 - (wrap64 ((wrap64 (Int.tmod a1 64)) + 1)))) + (wrap64 (a2)))) t118 _ A10.out).mono ?_); rintro e w' ⟨rfl, ⟨nd, rfl⟩⟩) | (go_at_call 18; (with_reducible refine (field_Get.calls a0 (wrap64 (-(wrap64 ((wrap64 (Int.tmod a1 64)) + 1)))) 3 t119 _ A12.out).mono ?_); rintro e w' ⟨rfl, ⟨nd, rfl⟩⟩) | (go_at_call 22; (with_reducible refine (field_Set.calls a0 (Int.tmod (wrap64 ((wrap64 (Int.tmod a1 64)) + 1)) 64) 0 (Go.bits .xor .u64 IntKind.u64.max a0) t120 _ A14.out).mono ?_); rintro e w' ⟨rfl, ⟨nd, rfl⟩⟩) | (go_at_call 24; (with_reducible refine (field_With.calls a0 (wrap64 (64 + (wrap64 (a2)))) true t121 _ A16.out).mono ?_); rintro e w' ⟨rfl, ⟨nd, rfl⟩⟩) | (go_at_call 20; (with_reducible refine (field_Bit.calls a0 (wrap64 (-(wrap64 ((wrap64 (Int.tmod a1 64)) + 1)))) t122 _ A18.out).mono ?_); rintro e w' ⟨rfl, ⟨nd, rfl⟩⟩))
                go_ret
                exact ⟨by first | rfl | (simp; done) | (simp [*]; done), by repeat (first | exact Drawn0.refl _ | apply Drawn0.step)⟩
              · rw [if_neg c17] at H
                have c17b0 : (t121 == a0) = false := beq_eq_false_iff_ne.mpr c17
                have c17b1 : (t121 != a0) = true := bne_iff_ne.mpr c17
                obtain rfl := Option.some.inj H
                go_enter Try.func8, Try.ntmps8
                go_wp2_with (first | ((with_reducible refine gate_callee (f := 15) rfl ?_); refine goesL_ (some 10) rfl rfl Try.func15 (by kernel_rfl) rfl #[] rfl (by (try simp only [List.map_toArray, List.map_cons, List.map_nil]); first | done | rfl | (simp only [List.length_drop, List.length_take]; rfl)) ?_; (with_reducible refine (dormerlaw01_awake.calls  true _ A4.out).mono ?_); rintro e w' ⟨rfl, ⟨nd, rfl⟩⟩; refine ⟨_, rfl, ?_⟩) | (go_at_call 18; (with_reducible refine (field_Get.calls a0 (wrap64 ((wrap64 (Int.tmod a1 64)) + 1)) (wrap64 ((wrap64 (65 - (wrap64 ((wrap64 (Int.tmod a1 64)) + 1)))) + (wrap64 (a2)))) t116 _ A6.out).mono ?_); rintro e w' ⟨rfl, ⟨nd, rfl⟩⟩) | (go_at_call 22; (with_reducible refine (field_Set.calls a0 (wrap64 ((wrap64 (Int.tmod a1 64)) + 1)) (wrap64 ((wrap64 (65 - (wrap64 ((wrap64 (Int.tmod a1 64)) + 1)))) + (wrap64 (a2)))) (Go.bits .xor .u64 IntKind.u64.max a0) t117 _ A8.out).mono ?_); rintro e w' ⟨rfl, ⟨nd, rfl⟩⟩) | (go_at_call 16; (with_reducible refine (field_Mask.calls (wrap64 ((wrap64 (Int.tmod a1 64)) + 1)) (wrap64 ((wrap64 (65 - (wrap64 ((wrap64 (Int.tmod a1 64)) + 1)))) + (wrap64 (a2)))) t118 _ A10.out).mono ?_); rintro e w' ⟨rfl, ⟨nd, rfl⟩⟩) | (go_at_call 18; (with_reducible refine (field_Get.calls a0 (wrap64 (-(wrap64 ((wrap64 (Int.tmod a1 64)) + 1)))) 3 t119 _ A12.out).mono ?_); rintro e w' ⟨rfl, ⟨nd, rfl⟩⟩) | (go_at_call 22; (with_reducible refine (field_Set.calls a0 (Int.tmod (wrap64 ((wrap64 (Int.tmod a1 64)) + 1)) 64) 0 (Go.bits .xor .u64 IntKind.u64.max a0) t120 _ A14.out).mono ?_); rintro e w' ⟨rfl, ⟨nd, rfl⟩⟩) | (go_at_call 24; (with_reducible refine (field_With.calls a0 (wrap64 (64 + (wrap64 (a2)))) true t121 _ A16.out).mono ?_); rintro e w' ⟨rfl, ⟨nd, rfl⟩⟩))
                go_ret
                exact ⟨by first | rfl | (simp; done) | (simp [*]; done), by repeat (first | exact Drawn0.refl _ | apply Drawn0.step)⟩
            · rw [if_neg c15] at H
              have c15b0 : (t120 == a0) = false := beq_eq_false_iff_ne.mpr c15
              have c15b1 : (t120 != a0) = true := bne_iff_ne.mpr c15
              obtain rfl := Option.some.inj H
              go_enter Try.func8, Try.ntmps8
              go_wp2_with (first | ((with_reducible refine gate_callee (f := 15) rfl ?_); refine goesL_ (some 10) rfl rfl Try.func15 (by kernel_rfl) rfl #[] rfl (by (try simp only [List.map_toArray, List.map_cons, List.map_nil]); first | done | rfl | (simp only [List.length_drop, List.length_take]; rfl)) ?_; (with_reducible refine (dormerlaw01_awake.calls  true _ A4.out).mono ?_); rintro e w' ⟨rfl, ⟨nd, rfl⟩⟩; refine ⟨_, rfl, ?_⟩) | (go_at_call 18; (with_reducible refine (field_Get.calls a0 (wrap64 ((wrap64 (Int.tmod a1 64)) + 1)) (wrap64 ((wrap64 (65 - (wrap64 ((wrap64 (Int.tmod a1 64)) + 1)))) + (wrap64 (a2)))) t116 _ A6.out).mono ?_); rintro e w' ⟨rfl, ⟨nd, rfl⟩⟩) | (go_at_call 22; (with_reducible refine (field_Set.calls a0 (wrap64 ((wrap64 (Int.tmod a1 64)) + 1)) (wrap64 ((wrap64 (65 - (wrap64 ((wrap64 (Int.tmod a1 64)) + 1)))) + (wrap64 (a2)))) (Go.bits .xor .u64 IntKind.u64.max a0) t117 _ A8.out).mono ?_); rintro e w' ⟨rfl, ⟨nd, rfl⟩⟩) | (go_at_call 16; (with_reducible refine (field_Mask.calls (wrap64 ((wrap64 (Int.tmod a1 64)) + 1)) (wrap64 ((wrap64 (65 - (wrap64 ((wrap64 (Int.tmod a1 64)) + 1)))) + (wrap64 (a2)))) t118 _ A10.out).mono ?_); rintro e w' ⟨rfl, ⟨nd, rfl⟩⟩) | (go_at_call 18; (with_reducible refine (field_Get.calls a0 (wrap64 (-(wrap64 ((wrap64 (Int.tmod a1 64)) + 1)))) 3 t119 _ A12.out).mono ?_); rintro e w' ⟨rfl, ⟨nd, rfl⟩⟩) | (go_at_call 22; (with_reducible refine (field_Set.calls a0 (Int.tmod (wrap64 ((wrap64 (Int.tmod a1 64)) + 1)) 64) 0 (Go.bits .xor .u64 IntKind.u64.max a0) t120 _ A14.out).mono ?_); rintro e w' ⟨rfl, ⟨nd, rfl⟩⟩))
              go_ret
              exact ⟨by first | rfl | (simp; done) | (simp [*]; done), by repeat (first | exact Drawn0.refl _ | apply Drawn0.step)⟩
          · rw [if_neg c13] at H
            have c13b0 : (t119 == 0) = false := beq_eq_false_iff_ne.mpr c13
            have c13b1 : (t119 != 0) = true := bne_iff_ne.mpr c13
            obtain rfl := Option.some.inj H
            go_enter Try.func8, Try.ntmps8
            go_wp2_with (first | ((with_reducible refine gate_callee (f := 15) rfl ?_); refine goesL_ (some 10) rfl rfl Try.func15 (by kernel_rfl) rfl #[] rfl (by (try simp only [List.map_toArray, List.map_cons, List.map_nil]); first | done | rfl | (simp only [List.length_drop, List.length_take]; rfl)) ?_; (with_reducible refine (dormerlaw01_awake.calls  true _ A4.out).mono ?_); rintro e w' ⟨rfl, ⟨nd, rfl⟩⟩; refine ⟨_, rfl, ?_⟩) | (go_at_call 18; (with_reducible refine (field_Get.calls a0 (wrap64 ((wrap64 (Int.tmod a1 64)) + 1)) (wrap64 ((wrap64 (65 - (wrap64 ((wrap64 (Int.tmod a1 64)) + 1)))) + (wrap64 (a2)))) t116 _ A6.out).mono ?_); rintro e w' ⟨rfl, ⟨nd, rfl⟩⟩) | (go_at_call 22; (with_reducible refine (field_Set.calls a0 (wrap64 ((wrap64 (Int.tmod a1 64)) + 1)) (wrap64 ((wrap64 (65 - (wrap64 ((wrap64 (Int.tmod a1 64)) + 1)))) + (wrap64 (a2)))) (Go.bits .xor .u64 IntKind.u64.max a0) t117 _ A8.out).mono ?_); rintro e w' ⟨rfl, ⟨nd, rfl⟩⟩) | (go_at_call 16; (with_reducible refine (field_Mask.calls (wrap64 ((wrap64 (Int.tmod a1 64)) + 1)) (wrap64 ((wrap64 (65 - (wrap64 ((wrap64 (Int.tmod a1 64)) + 1)))) + (wrap64 (a2)))) t118 _ A10.out).mono ?_); rintro e w' ⟨rfl, ⟨nd, rfl⟩⟩) | (go_at_call 18; (with_reducible refine (field_Get.calls a0 (wrap64 (-(wrap64 ((wrap64 (Int.tmod a1 64)) + 1)))) 3 t119 _ A12.out).mono ?_); rintro e w' ⟨rfl, ⟨nd, rfl⟩⟩))
            go_ret
            exact ⟨by first | rfl | (simp; done) | (simp [*]; done), by repeat (first | exact Drawn0.refl _ | apply Drawn0.step)⟩
        · rw [if_neg c11] at H
          have c11b0 : (t118 == 0) = false := beq_eq_false_iff_ne.mpr c11
          have c11b1 : (t118 != 0) = true := bne_iff_ne.mpr c11
          obtain rfl := Option.some.inj H
          go_enter Try.func8, Try.ntmps8
          go_wp2_with (first | ((with_reducible refine gate_callee (f := 15) rfl ?_); refine goesL_ (some 10) rfl rfl Try.func15 (by kernel_rfl) rfl #[] rfl (by (try simp only [List.map_toArray, List.map_cons, List.map_nil]); first | done | rfl | (simp only [List.length_drop, List.length_take]; rfl)) ?_; (with_reducible refine (dormerlaw01_awake.calls  true _ A4.out).mono ?_); rintro e w' ⟨rfl, ⟨nd, rfl⟩⟩; refine ⟨_, rfl, ?_⟩) | (go_at_call 18; (with_reducible refine (field_Get.calls a0 (wrap64 ((wrap64 (Int.tmod a1 64)) + 1)) (wrap64 ((wrap64 (65 - (wrap64 ((wrap64 (Int.tmod a1 64)) + 1)))) + (wrap64 (a2)))) t116 _ A6.out).mono ?_); rintro e w' ⟨rfl, ⟨nd, rfl⟩⟩) | (go_at_call 22; (with_reducible refine (field_Set.calls a0 (wrap64 ((wrap64 (Int.tmod a1 64)) + 1)) (wrap64 ((wrap64 (65 - (wrap64 ((wrap64 (Int.tmod a1 64)) + 1)))) + (wrap64 (a2)))) (Go.bits .xor .u64 IntKind.u64.max a0) t117 _ A8.out).mono ?_); rintro e w' ⟨rfl, ⟨nd, rfl⟩⟩) | (go_at_call 16; (with_reducible refine (field_Mask.calls (wrap64 ((wrap64 (Int.tmod a1 64)) + 1)) (wrap64 ((wrap64 (65 - (wrap64 ((wrap64 (Int.tmod a1 64)) + 1)))) + (wrap64 (a2)))) t118 _ A10.out).mono ?_); rintro e w' ⟨rfl, ⟨nd, rfl⟩⟩))
          go_ret
          exact ⟨by first | rfl | (simp; done) | (simp [*]; done), by repeat (first | exact Drawn0.refl _ | apply Drawn0.step)⟩
      · rw [if_neg c9] at H
        have c9b0 : (t117 == a0) = false := beq_eq_false_iff_ne.mpr c9
        have c9b1 : (t117 != a0) = true := bne_iff_ne.mpr c9
        obtain rfl := Option.some.inj H
        go_enter Try.func8, Try.ntmps8
        go_wp2_with (first | ((with_reducible refine gate_callee (f := 15) rfl ?_); refine goesL_ (some 10) rfl rfl Try.func15 (by kernel_rfl) rfl #[] rfl (by (try simp only [List.map_toArray, List.map_cons, List.map_nil]); first | done | rfl | (simp only [List.length_drop, List.length_take]; rfl)) ?_; (with_reducible refine (dormerlaw01_awake.calls  true _ A4.out).mono ?_); rintro e w' ⟨rfl, ⟨nd, rfl⟩⟩; refine ⟨_, rfl, ?_⟩) | (go_at_call 18; (with_reducible refine (field_Get.calls a0 (wrap64 ((wrap64 (Int.tmod a1 64)) + 1)) (wrap64 ((wrap64 (65 - (wrap64 ((wrap64 (Int.tmod a1 64)) + 1)))) + (wrap64 (a2)))) t116 _ A6.out).mono ?_); rintro e w' ⟨rfl, ⟨nd, rfl⟩⟩) | (go_at_call 22; (with_reducible refine (field_Set.calls a0 (wrap64 ((wrap64 (Int.tmod a1 64)) + 1)) (wrap64 ((wrap64 (65 - (wrap64 ((wrap64 (Int.tmod a1 64)) + 1)))) + (wrap64 (a2)))) (Go.bits .xor .u64 IntKind.u64.max a0) t117 _ A8.out).mono ?_); rintro e w' ⟨rfl, ⟨nd, rfl⟩⟩))
        go_ret
        exact ⟨by first | rfl | (simp; done) | (simp [*]; done), by repeat (first | exact Drawn0.refl _ | apply Drawn0.step)⟩
    · rw [if_neg c7] at H
      have c7b0 : (t116 == 0) = false := beq_eq_false_iff_ne.mpr c7
      have c7b1 : (t116 != 0) = true := bne_iff_ne.mpr c7
      obtain rfl := Option.some.inj H
      go_enter Try.func8, Try.ntmps8
      go_wp2_with (first | ((with_reducible refine gate_callee (f := 15) rfl ?_); refine goesL_ (some 10) rfl rfl Try.func15 (by kernel_rfl) rfl #[] rfl (by (try simp only [List.map_toArray, List.map_cons, List.map_nil]); first | done | rfl | (simp only [List.length_drop, List.length_take]; rfl)) ?_; (with_reducible refine (dormerlaw01_awake.calls  true _ A4.out).mono ?_); rintro e w' ⟨rfl, ⟨nd, rfl⟩⟩; refine ⟨_, rfl, ?_⟩) | (go_at_call 18; (with_reducible refine (field_Get.calls a0 (wrap64 ((wrap64 (Int.tmod a1 64)) + 1)) (wrap64 ((wrap64 (65 - (wrap64 ((wrap64 (Int.tmod a1 64)) + 1)))) + (wrap64 (a2)))) t116 _ A6.out).mono ?_); rintro e w' ⟨rfl, ⟨nd, rfl⟩⟩))
      go_ret
      exact ⟨by first | rfl | (simp; done) | (simp [*]; done), by repeat (first | exact Drawn0.refl _ | apply Drawn0.step)⟩
  · replace c5 := Bool.eq_false_iff.mpr c5
    subst c5
    have H1 : (some false) = some r := by rw [if_neg (show ¬ (false = true) by decide)] at H; exact H
    clear H
    have H := H1
    clear H1
    obtain rfl := Option.some.inj H
    go_enter Try.func8, Try.ntmps8
    go_wp2_with (first | ((with_reducible refine gate_callee (f := 15) rfl ?_); refine goesL_ (some 10) rfl rfl Try.func15 (by kernel_rfl) rfl #[] rfl (by (try simp only [List.map_toArray, List.map_cons, List.map_nil]); first | done | rfl | (simp only [List.length_drop, List.length_take]; rfl)) ?_; (with_reducible refine (dormerlaw01_awake.calls  false _ A4.out).mono ?_); rintro e w' ⟨rfl, ⟨nd, rfl⟩⟩; refine ⟨_, rfl, ?_⟩))
    go_ret
    exact ⟨by first | rfl | (simp; done) | (simp [*]; done), by repeat (first | exact Drawn0.refl _ | apply Drawn0.step)⟩

/-- THE ONE PURE STATEMENT of dormerlaw01_FieldNone: yours. -/
def dormerlaw01_FieldNone.Pure : Prop := ∀ (a0 : Int) (a1 : Int) (a2 : Int), (Lit.int .u64 a0).wf = true → (Lit.int .u8 a1).wf = true → (Lit.int .u8 a2).wf = true → dormerlaw01_FieldNone.f a0 a1 a2 = some true
theorem dormerlaw01_FieldNone.walk (P : dormerlaw01_FieldNone.Pure) (a0 : Int) (a1 : Int) (a2 : Int) (w : World) (w0 : (Lit.int .u64 a0).wf = true) (w1 : (Lit.int .u8 a1).wf = true) (w2 : (Lit.int .u8 a2).wf = true) :
    Calls Try.prog 8 #[.int .u64 a0, .int .u8 a1, .int .u8 a2] w fun e w' => e = .returned (.bool true) ∧ Below w.heap.size w w' := by
  have h := P a0 a1 a2 w0 w1 w2
  refine (dormerlaw01_FieldNone.calls a0 a1 a2 true w h).mono ?_
  rintro e w' ⟨rfl, hd⟩
  exact ⟨rfl, hd.below⟩

end Go.Proofs.Ytpbgehgbonilgaa.Fn
