-- PRINTED BY print.sh 35421559b90ae4d0a3588c463048766b98c2df88dd9212a6774a882060cdf62d: not written by this session
import Derived.Test.YtpbgehgbonilgaaPFieldGetsx0
import Derived.Test.YtpbgehgbonilgaaPFieldGetsx1
namespace Go.Proofs.Ytpbgehgbonilgaa.PFieldGets
open Go.RowKit Go.Proofs.YtpbgehgbonilgaaW.PrintWords Go.Proofs.YtpbgehgbonilgaaW.PrintLast Go.Proofs.YtpbgehgbonilgaaW.PrintMore
attribute [local go_sem] max2_int min2_int max_two min_two max_three min_three max_four min_four   -- for this text's walks alone
set_option linter.unusedVariables false
set_option linter.unusedSimpArgs false

/-! ### dormerlaw01_FieldGets: function 3 -/
def dormerlaw01_FieldGets.f (k : Nat) (a0 : Int) (a1 : Int) (a2 : Int) : Option (Bool) := (dormerlaw01_awake.f).bind fun t121 => (if t121 = true then ((field_Mask.f a1 a2).bind fun t122 => ((dormerref01_Mask.f k a1 a2).bind fun t123 => (if t122 = t123 then ((field_Get.f a0 a1 a2).bind fun t124 => ((dormerref01_Get.f k a0 a1 a2).bind fun t125 => (if t124 = t125 then ((field_Bit.f a0 a1).bind fun t126 => ((dormerref01_Bit.f k a0 a1).bind fun t127 => (some (t126 == t127)))) else (some false)))) else (some false)))) else (some false))
theorem dormerlaw01_FieldGets.mono : ∀ a0 a1 a2 k, LeO (dormerlaw01_FieldGets.f k a0 a1 a2) (dormerlaw01_FieldGets.f (k + 1) a0 a1 a2) := by
  intro a0 a1 a2 k
  unfold dormerlaw01_FieldGets.f
  repeat' first
      | (with_reducible exact dormerref01_Bit.mono _ _ _)
      | (with_reducible exact dormerref01_Get.mono _ _ _ _)
      | (with_reducible exact dormerref01_Mask.mono _ _ _)
      | (with_reducible exact LeO.refl _)
      | (with_reducible exact LeO.none _)
      | (with_reducible refine LeO.ite ?_ ?_)
      | (with_reducible refine LeO.bind ?_ (fun _ => ?_))
      | exact dormerref01_Bit.mono _ _ _
      | exact dormerref01_Get.mono _ _ _ _
      | exact dormerref01_Mask.mono _ _ _
      | exact LeO.none _
      | refine LeO.ite ?_ ?_
      | refine LeO.bind ?_ (fun _ => ?_)
set_option maxHeartbeats 8000000 in
set_option maxRecDepth 100000 in
theorem dormerlaw01_FieldGets.calls (k : Nat) (a0 : Int) (a1 : Int) (a2 : Int) (r : Bool) (w : World) (h : dormerlaw01_FieldGets.f k a0 a1 a2 = some r) :
    Calls Try.prog 3 #[.int .u64 a0, .int .i64 a1, .int .i64 a2] w fun e w' => e = .returned (.bool r) ∧ Drawn0 w w' := by
  have H : ((dormerlaw01_awake.f).bind fun t121 => (if t121 = true then ((field_Mask.f a1 a2).bind fun t122 => ((dormerref01_Mask.f k a1 a2).bind fun t123 => (if t122 = t123 then ((field_Get.f a0 a1 a2).bind fun t124 => ((dormerref01_Get.f k a0 a1 a2).bind fun t125 => (if t124 = t125 then ((field_Bit.f a0 a1).bind fun t126 => ((dormerref01_Bit.f k a0 a1).bind fun t127 => (some (t126 == t127)))) else (some false)))) else (some false)))) else (some false))) = some r := h
  clear h
  replace H := Option.bind_eq_some_iff.mp H
  obtain ⟨t121, A40, H⟩ := H
  replace H : (if t121 = true then ((field_Mask.f a1 a2).bind fun t122 => ((dormerref01_Mask.f k a1 a2).bind fun t123 => (if t122 = t123 then ((field_Get.f a0 a1 a2).bind fun t124 => ((dormerref01_Get.f k a0 a1 a2).bind fun t125 => (if t124 = t125 then ((field_Bit.f a0 a1).bind fun t126 => ((dormerref01_Bit.f k a0 a1).bind fun t127 => (some (t126 == t127)))) else (some false)))) else (some false)))) else (some false)) = some r := H
  have A4 := Aside0.mk A40
  clear A40
  by_cases c5 : t121 = true
  · subst c5
    have H1 : ((field_Mask.f a1 a2).bind fun t122 => ((dormerref01_Mask.f k a1 a2).bind fun t123 => (if t122 = t123 then ((field_Get.f a0 a1 a2).bind fun t124 => ((dormerref01_Get.f k a0 a1 a2).bind fun t125 => (if t124 = t125 then ((field_Bit.f a0 a1).bind fun t126 => ((dormerref01_Bit.f k a0 a1).bind fun t127 => (some (t126 == t127)))) else (some false)))) else (some false)))) = some r := by rw [if_pos rfl] at H; exact H
    clear H
    have H := H1
    clear H1
    replace H := Option.bind_eq_some_iff.mp H
    obtain ⟨t122, A60, H⟩ := H
    replace H : ((dormerref01_Mask.f k a1 a2).bind fun t123 => (if t122 = t123 then ((field_Get.f a0 a1 a2).bind fun t124 => ((dormerref01_Get.f k a0 a1 a2).bind fun t125 => (if t124 = t125 then ((field_Bit.f a0 a1).bind fun t126 => ((dormerref01_Bit.f k a0 a1).bind fun t127 => (some (t126 == t127)))) else (some false)))) else (some false))) = some r := H
    have A6 := Aside0.mk A60
    clear A60
    replace H := Option.bind_eq_some_iff.mp H
    obtain ⟨t123, A70, H⟩ := H
    replace H : (if t122 = t123 then ((field_Get.f a0 a1 a2).bind fun t124 => ((dormerref01_Get.f k a0 a1 a2).bind fun t125 => (if t124 = t125 then ((field_Bit.f a0 a1).bind fun t126 => ((dormerref01_Bit.f k a0 a1).bind fun t127 => (some (t126 == t127)))) else (some false)))) else (some false)) = some r := H
    have A7 := Aside0.mk A70
    clear A70
    by_cases c8 : t122 = t123
    · rw [if_pos c8] at H
      have c8b0 : (t122 == t123) = true := beq_iff_eq.mpr c8
      have c8b1 : (t122 != t123) = false := bne_eq_false_iff_eq.mpr c8
      clear c8
      replace H := Option.bind_eq_some_iff.mp H
      obtain ⟨t124, A90, H⟩ := H
      replace H : ((dormerref01_Get.f k a0 a1 a2).bind fun t125 => (if t124 = t125 then ((field_Bit.f a0 a1).bind fun t126 => ((dormerref01_Bit.f k a0 a1).bind fun t127 => (some (t126 == t127)))) else (some false))) = some r := H
      have A9 := Aside0.mk A90
      clear A90
      replace H := Option.bind_eq_some_iff.mp H
      obtain ⟨t125, A100, H⟩ := H
      replace H : (if t124 = t125 then ((field_Bit.f a0 a1).bind fun t126 => ((dormerref01_Bit.f k a0 a1).bind fun t127 => (some (t126 == t127)))) else (some false)) = some r := H
      have A10 := Aside0.mk A100
      clear A100
      by_cases c11 : t124 = t125
      · rw [if_pos c11] at H
        have c11b0 : (t124 == t125) = true := beq_iff_eq.mpr c11
        have c11b1 : (t124 != t125) = false := bne_eq_false_iff_eq.mpr c11
        clear c11
        replace H := Option.bind_eq_some_iff.mp H
        obtain ⟨t126, A120, H⟩ := H
        replace H : ((dormerref01_Bit.f k a0 a1).bind fun t127 => (some (t126 == t127))) = some r := H
        have A12 := Aside0.mk A120
        clear A120
        replace H := Option.bind_eq_some_iff.mp H
        obtain ⟨t127, A130, H⟩ := H
        replace H : (some (t126 == t127)) = some r := H
        have A13 := Aside0.mk A130
        clear A130
        obtain rfl := Option.some.inj H
        go_enter Try.func3, Try.ntmps3
        go_wp2_with (first | ((with_reducible refine gate_callee (f := 15) rfl ?_); refine goesL_ (some 8) rfl rfl Try.func15 (by kernel_rfl) rfl #[] rfl (by (try simp only [List.map_toArray, List.map_cons, List.map_nil]); first | done | rfl | (simp only [List.length_drop, List.length_take]; rfl)) ?_; (with_reducible refine (dormerlaw01_awake.calls  true _ A4.out).mono ?_); rintro e w' ⟨rfl, ⟨nd, rfl⟩⟩; refine ⟨_, rfl, ?_⟩) | (go_at_call 16; (with_reducible refine (field_Mask.calls a1 a2 t122 _ A6.out).mono ?_); rintro e w' ⟨rfl, ⟨nd, rfl⟩⟩) | (go_at_call 17; (with_reducible refine (dormerref01_Mask.calls k a1 a2 t123 _ A7.out).mono ?_); rintro e w' ⟨rfl, ⟨nd, rfl⟩⟩) | (go_at_call 18; (with_reducible refine (field_Get.calls a0 a1 a2 t124 _ A9.out).mono ?_); rintro e w' ⟨rfl, ⟨nd, rfl⟩⟩) | (go_at_call 19; (with_reducible refine (dormerref01_Get.calls k a0 a1 a2 t125 _ A10.out).mono ?_); rintro e w' ⟨rfl, ⟨nd, rfl⟩⟩) | (go_at_call 20; (with_reducible refine (field_Bit.calls a0 a1 t126 _ A12.out).mono ?_); rintro e w' ⟨rfl, ⟨nd, rfl⟩⟩) | (go_at_call 21; (with_reducible refine (dormerref01_Bit.calls k a0 a1 t127 _ A13.out).mono ?_); rintro e w' ⟨rfl, ⟨nd, rfl⟩⟩))
        go_ret
        exact ⟨by first | rfl | (simp; done) | (simp [*]; done), by repeat (first | exact Drawn0.refl _ | apply Drawn0.step)⟩
      · rw [if_neg c11] at H
        have c11b0 : (t124 == t125) = false := beq_eq_false_iff_ne.mpr c11
        have c11b1 : (t124 != t125) = true := bne_iff_ne.mpr c11
        obtain rfl := Option.some.inj H
        go_enter Try.func3, Try.ntmps3
        go_wp2_with (first | ((with_reducible refine gate_callee (f := 15) rfl ?_); refine goesL_ (some 8) rfl rfl Try.func15 (by kernel_rfl) rfl #[] rfl (by (try simp only [List.map_toArray, List.map_cons, List.map_nil]); first | done | rfl | (simp only [List.length_drop, List.length_take]; rfl)) ?_; (with_reducible refine (dormerlaw01_awake.calls  true _ A4.out).mono ?_); rintro e w' ⟨rfl, ⟨nd, rfl⟩⟩; refine ⟨_, rfl, ?_⟩) | (go_at_call 16; (with_reducible refine (field_Mask.calls a1 a2 t122 _ A6.out).mono ?_); rintro e w' ⟨rfl, ⟨nd, rfl⟩⟩) | (go_at_call 17; (with_reducible refine (dormerref01_Mask.calls k a1 a2 t123 _ A7.out).mono ?_); rintro e w' ⟨rfl, ⟨nd, rfl⟩⟩) | (go_at_call 18; (with_reducible refine (field_Get.calls a0 a1 a2 t124 _ A9.out).mono ?_); rintro e w' ⟨rfl, ⟨nd, rfl⟩⟩) | (go_at_call 19; (with_reducible refine (dormerref01_Get.calls k a0 a1 a2 t125 _ A10.out).mono ?_); rintro e w' ⟨rfl, ⟨nd, rfl⟩⟩))
        go_ret
        exact ⟨by first | rfl | (simp; done) | (simp [*]; done), by repeat (first | exact Drawn0.refl _ | apply Drawn0.step)⟩
    · rw [if_neg c8] at H
      have c8b0 : (t122 == t123) = false := beq_eq_false_iff_ne.mpr c8
      have c8b1 : (t122 != t123) = true := bne_iff_ne.mpr c8
      obtain rfl := Option.some.inj H
      go_enter Try.func3, Try.ntmps3
      go_wp2_with (first | ((with_reducible refine gate_callee (f := 15) rfl ?_); refine goesL_ (some 8) rfl rfl Try.func15 (by kernel_rfl) rfl #[] rfl (by (try simp only [List.map_toArray, List.map_cons, List.map_nil]); first | done | rfl | (simp only [List.length_drop, List.length_take]; rfl)) ?_; (with_reducible refine (dormerlaw01_awake.calls  true _ A4.out).mono ?_); rintro e w' ⟨rfl, ⟨nd, rfl⟩⟩; refine ⟨_, rfl, ?_⟩) | (go_at_call 16; (with_reducible refine (field_Mask.calls a1 a2 t122 _ A6.out).mono ?_); rintro e w' ⟨rfl, ⟨nd, rfl⟩⟩) | (go_at_call 17; (with_reducible refine (dormerref01_Mask.calls k a1 a2 t123 _ A7.out).mono ?_); rintro e w' ⟨rfl, ⟨nd, rfl⟩⟩))
      go_ret
      exact ⟨by first | rfl | (simp; done) | (simp [*]; done), by repeat (first | exact Drawn0.refl _ | apply Drawn0.step)⟩
  · replace c5 := Bool.eq_false_iff.mpr c5
    subst c5
    have H1 : (some false) = some r := by rw [if_neg (show ¬ (false = true) by decide)] at H; exact H
    clear H
    have H := H1
    clear H1
    obtain rfl := Option.some.inj H
    go_enter Try.func3, Try.ntmps3
    go_wp2_with (first | ((with_reducible refine gate_callee (f := 15) rfl ?_); refine goesL_ (some 8) rfl rfl Try.func15 (by kernel_rfl) rfl #[] rfl (by (try simp only [List.map_toArray, List.map_cons, List.map_nil]); first | done | rfl | (simp only [List.length_drop, List.length_take]; rfl)) ?_; (with_reducible refine (dormerlaw01_awake.calls  false _ A4.out).mono ?_); rintro e w' ⟨rfl, ⟨nd, rfl⟩⟩; refine ⟨_, rfl, ?_⟩))
    go_ret
    exact ⟨by first | rfl | (simp; done) | (simp [*]; done), by repeat (first | exact Drawn0.refl _ | apply Drawn0.step)⟩

/-- THE ONE PURE STATEMENT of dormerlaw01_FieldGets: yours. -/
def dormerlaw01_FieldGets.Pure : Prop := ∀ (a0 : Int) (a1 : Int) (a2 : Int), (Lit.int .u64 a0).wf = true → (Lit.int .i64 a1).wf = true → (Lit.int .i64 a2).wf = true → ∃ k, dormerlaw01_FieldGets.f k a0 a1 a2 = some true
theorem dormerlaw01_FieldGets.walk (P : dormerlaw01_FieldGets.Pure) (a0 : Int) (a1 : Int) (a2 : Int) (w : World) (w0 : (Lit.int .u64 a0).wf = true) (w1 : (Lit.int .i64 a1).wf = true) (w2 : (Lit.int .i64 a2).wf = true) :
    Calls Try.prog 3 #[.int .u64 a0, .int .i64 a1, .int .i64 a2] w fun e w' => e = .returned (.bool true) ∧ Below w.heap.size w w' := by
  obtain ⟨k, h⟩ := P a0 a1 a2 w0 w1 w2
  refine (dormerlaw01_FieldGets.calls k a0 a1 a2 true w h).mono ?_
  rintro e w' ⟨rfl, hd⟩
  exact ⟨rfl, hd.below⟩

end Go.Proofs.Ytpbgehgbonilgaa.PFieldGets
