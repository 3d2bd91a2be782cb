-- Out of print.py's text (see NOTES.md), turned by lawtext.py.
import Derived.Test.YtpbgehgbonilgaaFw
namespace Go.Proofs.Ytpbgehgbonilgaa.Fn
open Go.RowKit Go.Proofs.YtpbgehgbonilgaaW.PrintWords Go.Proofs.YtpbgehgbonilgaaW.PrintLast Go.Proofs.YtpbgehgbonilgaaW.PrintMore
attribute [local go_sem] max2_int min2_int max_two min_two max_three min_three max_four min_four   -- for this text's walks alone
set_option linter.unusedVariables false
set_option linter.unusedSimpArgs false

/-! ### dormerlaw02_WordJoins: function 12 -/
def dormerlaw02_WordJoins.f (k : Nat) (a0 : Int) (a1 : Int) : Option (Bool) := (dormerlaw02_awake.f k).bind fun t126 => ((word_Cut.f a0 0 (wrap64 (1 + (wrap64 (Int.tmod a1 7))))).bind fun t127 => ((word_Lay.f 0 0 (wrap64 (1 + (wrap64 (Int.tmod a1 7)))) t127).bind fun t128 => ((word_Cut.f a0 (wrap64 (1 + (wrap64 (Int.tmod a1 7)))) (wrap64 (8 - (wrap64 (1 + (wrap64 (Int.tmod a1 7))))))).bind fun t129 => ((word_Lay.f t128 (wrap64 (1 + (wrap64 (Int.tmod a1 7)))) (wrap64 (8 - (wrap64 (1 + (wrap64 (Int.tmod a1 7)))))) t129).bind fun t130 => (if t126 = true then (if t130 = a0 then ((word_Cut.f a0 0 8).bind fun t131 => (if t131 = a0 then ((word_Lay.f 0 0 8 a0).bind fun t132 => (if t132 = a0 then ((word_Cut.f a0 0 (wrap64 (1 + (wrap64 (Int.tmod a1 7))))).bind fun t133 => (some (decide (t133 ≤ a0)))) else (some false))) else (some false))) else (some false)) else (some false))))))
theorem dormerlaw02_WordJoins.mono : ∀ a0 a1 k, LeO (dormerlaw02_WordJoins.f k a0 a1) (dormerlaw02_WordJoins.f (k + 1) a0 a1) := by
  intro a0 a1 k
  unfold dormerlaw02_WordJoins.f
  repeat' first
      | (with_reducible exact dormerlaw02_awake.mono _)
      | (with_reducible exact LeO.refl _)
      | (with_reducible exact LeO.none _)
      | (with_reducible refine LeO.ite ?_ ?_)
      | (with_reducible refine LeO.bind ?_ (fun _ => ?_))
      | exact dormerlaw02_awake.mono _
      | exact LeO.none _
      | refine LeO.ite ?_ ?_
      | refine LeO.bind ?_ (fun _ => ?_)
set_option maxHeartbeats 8000000 in
set_option maxRecDepth 100000 in
theorem dormerlaw02_WordJoins.calls (k : Nat) (a0 : Int) (a1 : Int) (r : Bool) (w : World) (h : dormerlaw02_WordJoins.f k a0 a1 = some r) :
    Calls Try.prog 12 #[.int .u64 a0, .int .u8 a1] w fun e w' => e = .returned (.bool r) ∧ Below w.heap.size w w' := by
  have HB := Aside0.mk (Below.refl w.heap.size w)
  have H : ((dormerlaw02_awake.f k).bind fun t126 => ((word_Cut.f a0 0 (wrap64 (1 + (wrap64 (Int.tmod a1 7))))).bind fun t127 => ((word_Lay.f 0 0 (wrap64 (1 + (wrap64 (Int.tmod a1 7)))) t127).bind fun t128 => ((word_Cut.f a0 (wrap64 (1 + (wrap64 (Int.tmod a1 7)))) (wrap64 (8 - (wrap64 (1 + (wrap64 (Int.tmod a1 7))))))).bind fun t129 => ((word_Lay.f t128 (wrap64 (1 + (wrap64 (Int.tmod a1 7)))) (wrap64 (8 - (wrap64 (1 + (wrap64 (Int.tmod a1 7)))))) t129).bind fun t130 => (if t126 = true then (if t130 = a0 then ((word_Cut.f a0 0 8).bind fun t131 => (if t131 = a0 then ((word_Lay.f 0 0 8 a0).bind fun t132 => (if t132 = a0 then ((word_Cut.f a0 0 (wrap64 (1 + (wrap64 (Int.tmod a1 7))))).bind fun t133 => (some (decide (t133 ≤ a0)))) else (some false))) else (some false))) else (some false)) else (some false))))))) = some r := h
  clear h
  replace H := Option.bind_eq_some_iff.mp H
  obtain ⟨t126, A30, H⟩ := H
  replace H : ((word_Cut.f a0 0 (wrap64 (1 + (wrap64 (Int.tmod a1 7))))).bind fun t127 => ((word_Lay.f 0 0 (wrap64 (1 + (wrap64 (Int.tmod a1 7)))) t127).bind fun t128 => ((word_Cut.f a0 (wrap64 (1 + (wrap64 (Int.tmod a1 7)))) (wrap64 (8 - (wrap64 (1 + (wrap64 (Int.tmod a1 7))))))).bind fun t129 => ((word_Lay.f t128 (wrap64 (1 + (wrap64 (Int.tmod a1 7)))) (wrap64 (8 - (wrap64 (1 + (wrap64 (Int.tmod a1 7)))))) t129).bind fun t130 => (if t126 = true then (if t130 = a0 then ((word_Cut.f a0 0 8).bind fun t131 => (if t131 = a0 then ((word_Lay.f 0 0 8 a0).bind fun t132 => (if t132 = a0 then ((word_Cut.f a0 0 (wrap64 (1 + (wrap64 (Int.tmod a1 7))))).bind fun t133 => (some (decide (t133 ≤ a0)))) else (some false))) else (some false))) else (some false)) else (some false)))))) = some r := H
  have A3 := Aside0.mk A30
  clear A30
  replace H := Option.bind_eq_some_iff.mp H
  obtain ⟨t127, A40, H⟩ := H
  replace H : ((word_Lay.f 0 0 (wrap64 (1 + (wrap64 (Int.tmod a1 7)))) t127).bind fun t128 => ((word_Cut.f a0 (wrap64 (1 + (wrap64 (Int.tmod a1 7)))) (wrap64 (8 - (wrap64 (1 + (wrap64 (Int.tmod a1 7))))))).bind fun t129 => ((word_Lay.f t128 (wrap64 (1 + (wrap64 (Int.tmod a1 7)))) (wrap64 (8 - (wrap64 (1 + (wrap64 (Int.tmod a1 7)))))) t129).bind fun t130 => (if t126 = true then (if t130 = a0 then ((word_Cut.f a0 0 8).bind fun t131 => (if t131 = a0 then ((word_Lay.f 0 0 8 a0).bind fun t132 => (if t132 = a0 then ((word_Cut.f a0 0 (wrap64 (1 + (wrap64 (Int.tmod a1 7))))).bind fun t133 => (some (decide (t133 ≤ a0)))) else (some false))) else (some false))) else (some false)) else (some false))))) = some r := H
  have A4 := Aside0.mk A40
  clear A40
  replace H := Option.bind_eq_some_iff.mp H
  obtain ⟨t128, A50, H⟩ := H
  replace H : ((word_Cut.f a0 (wrap64 (1 + (wrap64 (Int.tmod a1 7)))) (wrap64 (8 - (wrap64 (1 + (wrap64 (Int.tmod a1 7))))))).bind fun t129 => ((word_Lay.f t128 (wrap64 (1 + (wrap64 (Int.tmod a1 7)))) (wrap64 (8 - (wrap64 (1 + (wrap64 (Int.tmod a1 7)))))) t129).bind fun t130 => (if t126 = true then (if t130 = a0 then ((word_Cut.f a0 0 8).bind fun t131 => (if t131 = a0 then ((word_Lay.f 0 0 8 a0).bind fun t132 => (if t132 = a0 then ((word_Cut.f a0 0 (wrap64 (1 + (wrap64 (Int.tmod a1 7))))).bind fun t133 => (some (decide (t133 ≤ a0)))) else (some false))) else (some false))) else (some false)) else (some false)))) = some r := H
  have A5 := Aside0.mk A50
  clear A50
  replace H := Option.bind_eq_some_iff.mp H
  obtain ⟨t129, A60, H⟩ := H
  replace H : ((word_Lay.f t128 (wrap64 (1 + (wrap64 (Int.tmod a1 7)))) (wrap64 (8 - (wrap64 (1 + (wrap64 (Int.tmod a1 7)))))) t129).bind fun t130 => (if t126 = true then (if t130 = a0 then ((word_Cut.f a0 0 8).bind fun t131 => (if t131 = a0 then ((word_Lay.f 0 0 8 a0).bind fun t132 => (if t132 = a0 then ((word_Cut.f a0 0 (wrap64 (1 + (wrap64 (Int.tmod a1 7))))).bind fun t133 => (some (decide (t133 ≤ a0)))) else (some false))) else (some false))) else (some false)) else (some false))) = some r := H
  have A6 := Aside0.mk A60
  clear A60
  replace H := Option.bind_eq_some_iff.mp H
  obtain ⟨t130, A70, H⟩ := H
  replace H : (if t126 = true then (if t130 = a0 then ((word_Cut.f a0 0 8).bind fun t131 => (if t131 = a0 then ((word_Lay.f 0 0 8 a0).bind fun t132 => (if t132 = a0 then ((word_Cut.f a0 0 (wrap64 (1 + (wrap64 (Int.tmod a1 7))))).bind fun t133 => (some (decide (t133 ≤ a0)))) else (some false))) else (some false))) else (some false)) else (some false)) = some r := H
  have A7 := Aside0.mk A70
  clear A70
  by_cases c8 : t126 = true
  · subst c8
    have H1 : (if t130 = a0 then ((word_Cut.f a0 0 8).bind fun t131 => (if t131 = a0 then ((word_Lay.f 0 0 8 a0).bind fun t132 => (if t132 = a0 then ((word_Cut.f a0 0 (wrap64 (1 + (wrap64 (Int.tmod a1 7))))).bind fun t133 => (some (decide (t133 ≤ a0)))) else (some false))) else (some false))) else (some false)) = some r := by rw [if_pos rfl] at H; exact H
    clear H
    have H := H1
    clear H1
    by_cases c9 : t130 = a0
    · rw [if_pos c9] at H
      have c9b0 : (t130 == a0) = true := beq_iff_eq.mpr c9
      have c9b1 : (t130 != a0) = false := bne_eq_false_iff_eq.mpr c9
      clear c9
      replace H := Option.bind_eq_some_iff.mp H
      obtain ⟨t131, A100, H⟩ := H
      replace H : (if t131 = a0 then ((word_Lay.f 0 0 8 a0).bind fun t132 => (if t132 = a0 then ((word_Cut.f a0 0 (wrap64 (1 + (wrap64 (Int.tmod a1 7))))).bind fun t133 => (some (decide (t133 ≤ a0)))) else (some false))) else (some false)) = some r := H
      have A10 := Aside0.mk A100
      clear A100
      by_cases c11 : t131 = a0
      · rw [if_pos c11] at H
        have c11b0 : (t131 == a0) = true := beq_iff_eq.mpr c11
        have c11b1 : (t131 != a0) = false := bne_eq_false_iff_eq.mpr c11
        clear c11
        replace H := Option.bind_eq_some_iff.mp H
        obtain ⟨t132, A120, H⟩ := H
        replace H : (if t132 = a0 then ((word_Cut.f a0 0 (wrap64 (1 + (wrap64 (Int.tmod a1 7))))).bind fun t133 => (some (decide (t133 ≤ a0)))) else (some false)) = some r := H
        have A12 := Aside0.mk A120
        clear A120
        by_cases c13 : t132 = a0
        · rw [if_pos c13] at H
          have c13b0 : (t132 == a0) = true := beq_iff_eq.mpr c13
          have c13b1 : (t132 != a0) = false := bne_eq_false_iff_eq.mpr c13
          clear c13
          replace H := Option.bind_eq_some_iff.mp H
          obtain ⟨t133, A140, H⟩ := H
          replace H : (some (decide (t133 ≤ a0))) = some r := H
          have A14 := Aside0.mk A140
          clear A140
          obtain rfl := Option.some.inj H
          go_enter Try.func12, Try.ntmps12
          go_wp2_with (first | ((with_reducible refine gate_callee (f := 26) rfl ?_); refine goesL_ (some 8) rfl rfl Try.func26 (by kernel_rfl) rfl #[] rfl (by (try simp only [List.map_toArray, List.map_cons, List.map_nil]); first | done | rfl | (simp only [List.length_drop, List.length_take]; rfl)) ?_; (with_reducible refine (dormerlaw02_awake.calls k  true _ A3.out).mono ?_); rintro e w15 ⟨rfl, hb⟩; refine ⟨_, rfl, ?_⟩; have n0_ := Aside0.mk (below_step (by repeat (first | (with_reducible first | exact HB.out | apply below_alloc | apply pw_below_drewN | apply below_drew1) | exact HB.out)) hb); clear HB; have HB := n0_; clear n0_; (try clear hb); (try clear hb2); (try clear hk); (try clear hi)) | ((with_reducible refine gate_callee (f := 29) rfl ?_); refine goesL_ (some 16) rfl rfl Try.func29 (by kernel_rfl) rfl #[.int .u64 a0, .int .i64 0, .int .i64 (wrap64 (1 + (wrap64 (Int.tmod a1 7))))] rfl (by (try simp only [List.map_toArray, List.map_cons, List.map_nil]); first | done | rfl | (simp only [List.length_drop, List.length_take]; rfl)) ?_; (with_reducible refine (word_Cut.calls a0 0 (wrap64 (1 + (wrap64 (Int.tmod a1 7)))) t127 _ A4.out).mono ?_); rintro e w' ⟨rfl, ⟨nd, rfl⟩⟩; refine ⟨_, rfl, ?_⟩) | ((with_reducible refine gate_callee (f := 31) rfl ?_); refine goesL_ (some 17) rfl rfl Try.func31 (by kernel_rfl) rfl #[.int .u64 0, .int .i64 0, .int .i64 (wrap64 (1 + (wrap64 (Int.tmod a1 7)))), .int .u64 t127] rfl (by (try simp only [List.map_toArray, List.map_cons, List.map_nil]); first | done | rfl | (simp only [List.length_drop, List.length_take]; rfl)) ?_; (with_reducible refine (word_Lay.calls 0 0 (wrap64 (1 + (wrap64 (Int.tmod a1 7)))) t127 t128 _ A5.out).mono ?_); rintro e w' ⟨rfl, ⟨nd, rfl⟩⟩; refine ⟨_, rfl, ?_⟩) | ((with_reducible refine gate_callee (f := 29) rfl ?_); refine goesL_ (some 25) rfl rfl Try.func29 (by kernel_rfl) rfl #[.int .u64 a0, .int .i64 (wrap64 (1 + (wrap64 (Int.tmod a1 7)))), .int .i64 (wrap64 (8 - (wrap64 (1 + (wrap64 (Int.tmod a1 7))))))] rfl (by (try simp only [List.map_toArray, List.map_cons, List.map_nil]); first | done | rfl | (simp only [List.length_drop, List.length_take]; rfl)) ?_; (with_reducible refine (word_Cut.calls a0 (wrap64 (1 + (wrap64 (Int.tmod a1 7)))) (wrap64 (8 - (wrap64 (1 + (wrap64 (Int.tmod a1 7)))))) t129 _ A6.out).mono ?_); rintro e w' ⟨rfl, ⟨nd, rfl⟩⟩; refine ⟨_, rfl, ?_⟩) | ((with_reducible refine gate_callee (f := 31) rfl ?_); refine goesL_ (some 26) rfl rfl Try.func31 (by kernel_rfl) rfl #[.int .u64 t128, .int .i64 (wrap64 (1 + (wrap64 (Int.tmod a1 7)))), .int .i64 (wrap64 (8 - (wrap64 (1 + (wrap64 (Int.tmod a1 7)))))), .int .u64 t129] rfl (by (try simp only [List.map_toArray, List.map_cons, List.map_nil]); first | done | rfl | (simp only [List.length_drop, List.length_take]; rfl)) ?_; (with_reducible refine (word_Lay.calls t128 (wrap64 (1 + (wrap64 (Int.tmod a1 7)))) (wrap64 (8 - (wrap64 (1 + (wrap64 (Int.tmod a1 7)))))) t129 t130 _ A7.out).mono ?_); rintro e w' ⟨rfl, ⟨nd, rfl⟩⟩; refine ⟨_, rfl, ?_⟩) | (go_at_call 29; (with_reducible refine (word_Cut.calls a0 0 8 t131 _ A10.out).mono ?_); rintro e w' ⟨rfl, ⟨nd, rfl⟩⟩) | (go_at_call 31; (with_reducible refine (word_Lay.calls 0 0 8 a0 t132 _ A12.out).mono ?_); rintro e w' ⟨rfl, ⟨nd, rfl⟩⟩) | (go_at_call 29; (with_reducible refine (word_Cut.calls a0 0 (wrap64 (1 + (wrap64 (Int.tmod a1 7)))) t133 _ A14.out).mono ?_); rintro e w' ⟨rfl, ⟨nd, rfl⟩⟩))
          go_ret
          exact ⟨by first | rfl | (simp [errW_none, errW_some] <;> rfl) | (simp [*, errW_none, errW_some] <;> rfl), by repeat (first | (with_reducible first | exact HB.out | apply below_alloc | apply pw_below_drewN | apply below_drew1) | exact HB.out)⟩
        · rw [if_neg c13] at H
          have c13b0 : (t132 == a0) = false := beq_eq_false_iff_ne.mpr c13
          have c13b1 : (t132 != a0) = true := bne_iff_ne.mpr c13
          obtain rfl := Option.some.inj H
          go_enter Try.func12, Try.ntmps12
          go_wp2_with (first | ((with_reducible refine gate_callee (f := 26) rfl ?_); refine goesL_ (some 8) rfl rfl Try.func26 (by kernel_rfl) rfl #[] rfl (by (try simp only [List.map_toArray, List.map_cons, List.map_nil]); first | done | rfl | (simp only [List.length_drop, List.length_take]; rfl)) ?_; (with_reducible refine (dormerlaw02_awake.calls k  true _ A3.out).mono ?_); rintro e w16 ⟨rfl, hb⟩; refine ⟨_, rfl, ?_⟩; have n0_ := Aside0.mk (below_step (by repeat (first | (with_reducible first | exact HB.out | apply below_alloc | apply pw_below_drewN | apply below_drew1) | exact HB.out)) hb); clear HB; have HB := n0_; clear n0_; (try clear hb); (try clear hb2); (try clear hk); (try clear hi)) | ((with_reducible refine gate_callee (f := 29) rfl ?_); refine goesL_ (some 16) rfl rfl Try.func29 (by kernel_rfl) rfl #[.int .u64 a0, .int .i64 0, .int .i64 (wrap64 (1 + (wrap64 (Int.tmod a1 7))))] rfl (by (try simp only [List.map_toArray, List.map_cons, List.map_nil]); first | done | rfl | (simp only [List.length_drop, List.length_take]; rfl)) ?_; (with_reducible refine (word_Cut.calls a0 0 (wrap64 (1 + (wrap64 (Int.tmod a1 7)))) t127 _ A4.out).mono ?_); rintro e w' ⟨rfl, ⟨nd, rfl⟩⟩; refine ⟨_, rfl, ?_⟩) | ((with_reducible refine gate_callee (f := 31) rfl ?_); refine goesL_ (some 17) rfl rfl Try.func31 (by kernel_rfl) rfl #[.int .u64 0, .int .i64 0, .int .i64 (wrap64 (1 + (wrap64 (Int.tmod a1 7)))), .int .u64 t127] rfl (by (try simp only [List.map_toArray, List.map_cons, List.map_nil]); first | done | rfl | (simp only [List.length_drop, List.length_take]; rfl)) ?_; (with_reducible refine (word_Lay.calls 0 0 (wrap64 (1 + (wrap64 (Int.tmod a1 7)))) t127 t128 _ A5.out).mono ?_); rintro e w' ⟨rfl, ⟨nd, rfl⟩⟩; refine ⟨_, rfl, ?_⟩) | ((with_reducible refine gate_callee (f := 29) rfl ?_); refine goesL_ (some 25) rfl rfl Try.func29 (by kernel_rfl) rfl #[.int .u64 a0, .int .i64 (wrap64 (1 + (wrap64 (Int.tmod a1 7)))), .int .i64 (wrap64 (8 - (wrap64 (1 + (wrap64 (Int.tmod a1 7))))))] rfl (by (try simp only [List.map_toArray, List.map_cons, List.map_nil]); first | done | rfl | (simp only [List.length_drop, List.length_take]; rfl)) ?_; (with_reducible refine (word_Cut.calls a0 (wrap64 (1 + (wrap64 (Int.tmod a1 7)))) (wrap64 (8 - (wrap64 (1 + (wrap64 (Int.tmod a1 7)))))) t129 _ A6.out).mono ?_); rintro e w' ⟨rfl, ⟨nd, rfl⟩⟩; refine ⟨_, rfl, ?_⟩) | ((with_reducible refine gate_callee (f := 31) rfl ?_); refine goesL_ (some 26) rfl rfl Try.func31 (by kernel_rfl) rfl #[.int .u64 t128, .int .i64 (wrap64 (1 + (wrap64 (Int.tmod a1 7)))), .int .i64 (wrap64 (8 - (wrap64 (1 + (wrap64 (Int.tmod a1 7)))))), .int .u64 t129] rfl (by (try simp only [List.map_toArray, List.map_cons, List.map_nil]); first | done | rfl | (simp only [List.length_drop, List.length_take]; rfl)) ?_; (with_reducible refine (word_Lay.calls t128 (wrap64 (1 + (wrap64 (Int.tmod a1 7)))) (wrap64 (8 - (wrap64 (1 + (wrap64 (Int.tmod a1 7)))))) t129 t130 _ A7.out).mono ?_); rintro e w' ⟨rfl, ⟨nd, rfl⟩⟩; refine ⟨_, rfl, ?_⟩) | (go_at_call 29; (with_reducible refine (word_Cut.calls a0 0 8 t131 _ A10.out).mono ?_); rintro e w' ⟨rfl, ⟨nd, rfl⟩⟩) | (go_at_call 31; (with_reducible refine (word_Lay.calls 0 0 8 a0 t132 _ A12.out).mono ?_); rintro e w' ⟨rfl, ⟨nd, rfl⟩⟩))
          go_ret
          exact ⟨by first | rfl | (simp [errW_none, errW_some] <;> rfl) | (simp [*, errW_none, errW_some] <;> rfl), by repeat (first | (with_reducible first | exact HB.out | apply below_alloc | apply pw_below_drewN | apply below_drew1) | exact HB.out)⟩
      · rw [if_neg c11] at H
        have c11b0 : (t131 == a0) = false := beq_eq_false_iff_ne.mpr c11
        have c11b1 : (t131 != a0) = true := bne_iff_ne.mpr c11
        obtain rfl := Option.some.inj H
        go_enter Try.func12, Try.ntmps12
        go_wp2_with (first | ((with_reducible refine gate_callee (f := 26) rfl ?_); refine goesL_ (some 8) rfl rfl Try.func26 (by kernel_rfl) rfl #[] rfl (by (try simp only [List.map_toArray, List.map_cons, List.map_nil]); first | done | rfl | (simp only [List.length_drop, List.length_take]; rfl)) ?_; (with_reducible refine (dormerlaw02_awake.calls k  true _ A3.out).mono ?_); rintro e w17 ⟨rfl, hb⟩; refine ⟨_, rfl, ?_⟩; have n0_ := Aside0.mk (below_step (by repeat (first | (with_reducible first | exact HB.out | apply below_alloc | apply pw_below_drewN | apply below_drew1) | exact HB.out)) hb); clear HB; have HB := n0_; clear n0_; (try clear hb); (try clear hb2); (try clear hk); (try clear hi)) | ((with_reducible refine gate_callee (f := 29) rfl ?_); refine goesL_ (some 16) rfl rfl Try.func29 (by kernel_rfl) rfl #[.int .u64 a0, .int .i64 0, .int .i64 (wrap64 (1 + (wrap64 (Int.tmod a1 7))))] rfl (by (try simp only [List.map_toArray, List.map_cons, List.map_nil]); first | done | rfl | (simp only [List.length_drop, List.length_take]; rfl)) ?_; (with_reducible refine (word_Cut.calls a0 0 (wrap64 (1 + (wrap64 (Int.tmod a1 7)))) t127 _ A4.out).mono ?_); rintro e w' ⟨rfl, ⟨nd, rfl⟩⟩; refine ⟨_, rfl, ?_⟩) | ((with_reducible refine gate_callee (f := 31) rfl ?_); refine goesL_ (some 17) rfl rfl Try.func31 (by kernel_rfl) rfl #[.int .u64 0, .int .i64 0, .int .i64 (wrap64 (1 + (wrap64 (Int.tmod a1 7)))), .int .u64 t127] rfl (by (try simp only [List.map_toArray, List.map_cons, List.map_nil]); first | done | rfl | (simp only [List.length_drop, List.length_take]; rfl)) ?_; (with_reducible refine (word_Lay.calls 0 0 (wrap64 (1 + (wrap64 (Int.tmod a1 7)))) t127 t128 _ A5.out).mono ?_); rintro e w' ⟨rfl, ⟨nd, rfl⟩⟩; refine ⟨_, rfl, ?_⟩) | ((with_reducible refine gate_callee (f := 29) rfl ?_); refine goesL_ (some 25) rfl rfl Try.func29 (by kernel_rfl) rfl #[.int .u64 a0, .int .i64 (wrap64 (1 + (wrap64 (Int.tmod a1 7)))), .int .i64 (wrap64 (8 - (wrap64 (1 + (wrap64 (Int.tmod a1 7))))))] rfl (by (try simp only [List.map_toArray, List.map_cons, List.map_nil]); first | done | rfl | (simp only [List.length_drop, List.length_take]; rfl)) ?_; (with_reducible refine (word_Cut.calls a0 (wrap64 (1 + (wrap64 (Int.tmod a1 7)))) (wrap64 (8 - (wrap64 (1 + (wrap64 (Int.tmod a1 7)))))) t129 _ A6.out).mono ?_); rintro e w' ⟨rfl, ⟨nd, rfl⟩⟩; refine ⟨_, rfl, ?_⟩) | ((with_reducible refine gate_callee (f := 31) rfl ?_); refine goesL_ (some 26) rfl rfl Try.func31 (by kernel_rfl) rfl #[.int .u64 t128, .int .i64 (wrap64 (1 + (wrap64 (Int.tmod a1 7)))), .int .i64 (wrap64 (8 - (wrap64 (1 + (wrap64 (Int.tmod a1 7)))))), .int .u64 t129] rfl (by (try simp only [List.map_toArray, List.map_cons, List.map_nil]); first | done | rfl | (simp only [List.length_drop, List.length_take]; rfl)) ?_; (with_reducible refine (word_Lay.calls t128 (wrap64 (1 + (wrap64 (Int.tmod a1 7)))) (wrap64 (8 - (wrap64 (1 + (wrap64 (Int.tmod a1 7)))))) t129 t130 _ A7.out).mono ?_); rintro e w' ⟨rfl, ⟨nd, rfl⟩⟩; refine ⟨_, rfl, ?_⟩) | (go_at_call 29; (with_reducible refine (word_Cut.calls a0 0 8 t131 _ A10.out).mono ?_); rintro e w' ⟨rfl, ⟨nd, rfl⟩⟩))
        go_ret
        exact ⟨by first | rfl | (simp [errW_none, errW_some] <;> rfl) | (simp [*, errW_none, errW_some] <;> rfl), by repeat (first | (with_reducible first | exact HB.out | apply below_alloc | apply pw_below_drewN | apply below_drew1) | exact HB.out)⟩
    · rw [if_neg c9] at H
      have c9b0 : (t130 == a0) = false := beq_eq_false_iff_ne.mpr c9
      have c9b1 : (t130 != a0) = true := bne_iff_ne.mpr c9
      obtain rfl := Option.some.inj H
      go_enter Try.func12, Try.ntmps12
      go_wp2_with (first | ((with_reducible refine gate_callee (f := 26) rfl ?_); refine goesL_ (some 8) rfl rfl Try.func26 (by kernel_rfl) rfl #[] rfl (by (try simp only [List.map_toArray, List.map_cons, List.map_nil]); first | done | rfl | (simp only [List.length_drop, List.length_take]; rfl)) ?_; (with_reducible refine (dormerlaw02_awake.calls k  true _ A3.out).mono ?_); rintro e w18 ⟨rfl, hb⟩; refine ⟨_, rfl, ?_⟩; have n0_ := Aside0.mk (below_step (by repeat (first | (with_reducible first | exact HB.out | apply below_alloc | apply pw_below_drewN | apply below_drew1) | exact HB.out)) hb); clear HB; have HB := n0_; clear n0_; (try clear hb); (try clear hb2); (try clear hk); (try clear hi)) | ((with_reducible refine gate_callee (f := 29) rfl ?_); refine goesL_ (some 16) rfl rfl Try.func29 (by kernel_rfl) rfl #[.int .u64 a0, .int .i64 0, .int .i64 (wrap64 (1 + (wrap64 (Int.tmod a1 7))))] rfl (by (try simp only [List.map_toArray, List.map_cons, List.map_nil]); first | done | rfl | (simp only [List.length_drop, List.length_take]; rfl)) ?_; (with_reducible refine (word_Cut.calls a0 0 (wrap64 (1 + (wrap64 (Int.tmod a1 7)))) t127 _ A4.out).mono ?_); rintro e w' ⟨rfl, ⟨nd, rfl⟩⟩; refine ⟨_, rfl, ?_⟩) | ((with_reducible refine gate_callee (f := 31) rfl ?_); refine goesL_ (some 17) rfl rfl Try.func31 (by kernel_rfl) rfl #[.int .u64 0, .int .i64 0, .int .i64 (wrap64 (1 + (wrap64 (Int.tmod a1 7)))), .int .u64 t127] rfl (by (try simp only [List.map_toArray, List.map_cons, List.map_nil]); first | done | rfl | (simp only [List.length_drop, List.length_take]; rfl)) ?_; (with_reducible refine (word_Lay.calls 0 0 (wrap64 (1 + (wrap64 (Int.tmod a1 7)))) t127 t128 _ A5.out).mono ?_); rintro e w' ⟨rfl, ⟨nd, rfl⟩⟩; refine ⟨_, rfl, ?_⟩) | ((with_reducible refine gate_callee (f := 29) rfl ?_); refine goesL_ (some 25) rfl rfl Try.func29 (by kernel_rfl) rfl #[.int .u64 a0, .int .i64 (wrap64 (1 + (wrap64 (Int.tmod a1 7)))), .int .i64 (wrap64 (8 - (wrap64 (1 + (wrap64 (Int.tmod a1 7))))))] rfl (by (try simp only [List.map_toArray, List.map_cons, List.map_nil]); first | done | rfl | (simp only [List.length_drop, List.length_take]; rfl)) ?_; (with_reducible refine (word_Cut.calls a0 (wrap64 (1 + (wrap64 (Int.tmod a1 7)))) (wrap64 (8 - (wrap64 (1 + (wrap64 (Int.tmod a1 7)))))) t129 _ A6.out).mono ?_); rintro e w' ⟨rfl, ⟨nd, rfl⟩⟩; refine ⟨_, rfl, ?_⟩) | ((with_reducible refine gate_callee (f := 31) rfl ?_); refine goesL_ (some 26) rfl rfl Try.func31 (by kernel_rfl) rfl #[.int .u64 t128, .int .i64 (wrap64 (1 + (wrap64 (Int.tmod a1 7)))), .int .i64 (wrap64 (8 - (wrap64 (1 + (wrap64 (Int.tmod a1 7)))))), .int .u64 t129] rfl (by (try simp only [List.map_toArray, List.map_cons, List.map_nil]); first | done | rfl | (simp only [List.length_drop, List.length_take]; rfl)) ?_; (with_reducible refine (word_Lay.calls t128 (wrap64 (1 + (wrap64 (Int.tmod a1 7)))) (wrap64 (8 - (wrap64 (1 + (wrap64 (Int.tmod a1 7)))))) t129 t130 _ A7.out).mono ?_); rintro e w' ⟨rfl, ⟨nd, rfl⟩⟩; refine ⟨_, rfl, ?_⟩))
      go_ret
      exact ⟨by first | rfl | (simp [errW_none, errW_some] <;> rfl) | (simp [*, errW_none, errW_some] <;> rfl), by repeat (first | (with_reducible first | exact HB.out | apply below_alloc | apply pw_below_drewN | apply below_drew1) | exact HB.out)⟩
  · replace c8 := Bool.eq_false_iff.mpr c8
    subst c8
    have H1 : (some false) = some r := by rw [if_neg (show ¬ (false = true) by decide)] at H; exact H
    clear H
    have H := H1
    clear H1
    obtain rfl := Option.some.inj H
    go_enter Try.func12, Try.ntmps12
    go_wp2_with (first | ((with_reducible refine gate_callee (f := 26) rfl ?_); refine goesL_ (some 8) rfl rfl Try.func26 (by kernel_rfl) rfl #[] rfl (by (try simp only [List.map_toArray, List.map_cons, List.map_nil]); first | done | rfl | (simp only [List.length_drop, List.length_take]; rfl)) ?_; (with_reducible refine (dormerlaw02_awake.calls k  false _ A3.out).mono ?_); rintro e w19 ⟨rfl, hb⟩; refine ⟨_, rfl, ?_⟩; have n0_ := Aside0.mk (below_step (by repeat (first | (with_reducible first | exact HB.out | apply below_alloc | apply pw_below_drewN | apply below_drew1) | exact HB.out)) hb); clear HB; have HB := n0_; clear n0_; (try clear hb); (try clear hb2); (try clear hk); (try clear hi)) | ((with_reducible refine gate_callee (f := 29) rfl ?_); refine goesL_ (some 16) rfl rfl Try.func29 (by kernel_rfl) rfl #[.int .u64 a0, .int .i64 0, .int .i64 (wrap64 (1 + (wrap64 (Int.tmod a1 7))))] rfl (by (try simp only [List.map_toArray, List.map_cons, List.map_nil]); first | done | rfl | (simp only [List.length_drop, List.length_take]; rfl)) ?_; (with_reducible refine (word_Cut.calls a0 0 (wrap64 (1 + (wrap64 (Int.tmod a1 7)))) t127 _ A4.out).mono ?_); rintro e w' ⟨rfl, ⟨nd, rfl⟩⟩; refine ⟨_, rfl, ?_⟩) | ((with_reducible refine gate_callee (f := 31) rfl ?_); refine goesL_ (some 17) rfl rfl Try.func31 (by kernel_rfl) rfl #[.int .u64 0, .int .i64 0, .int .i64 (wrap64 (1 + (wrap64 (Int.tmod a1 7)))), .int .u64 t127] rfl (by (try simp only [List.map_toArray, List.map_cons, List.map_nil]); first | done | rfl | (simp only [List.length_drop, List.length_take]; rfl)) ?_; (with_reducible refine (word_Lay.calls 0 0 (wrap64 (1 + (wrap64 (Int.tmod a1 7)))) t127 t128 _ A5.out).mono ?_); rintro e w' ⟨rfl, ⟨nd, rfl⟩⟩; refine ⟨_, rfl, ?_⟩) | ((with_reducible refine gate_callee (f := 29) rfl ?_); refine goesL_ (some 25) rfl rfl Try.func29 (by kernel_rfl) rfl #[.int .u64 a0, .int .i64 (wrap64 (1 + (wrap64 (Int.tmod a1 7)))), .int .i64 (wrap64 (8 - (wrap64 (1 + (wrap64 (Int.tmod a1 7))))))] rfl (by (try simp only [List.map_toArray, List.map_cons, List.map_nil]); first | done | rfl | (simp only [List.length_drop, List.length_take]; rfl)) ?_; (with_reducible refine (word_Cut.calls a0 (wrap64 (1 + (wrap64 (Int.tmod a1 7)))) (wrap64 (8 - (wrap64 (1 + (wrap64 (Int.tmod a1 7)))))) t129 _ A6.out).mono ?_); rintro e w' ⟨rfl, ⟨nd, rfl⟩⟩; refine ⟨_, rfl, ?_⟩) | ((with_reducible refine gate_callee (f := 31) rfl ?_); refine goesL_ (some 26) rfl rfl Try.func31 (by kernel_rfl) rfl #[.int .u64 t128, .int .i64 (wrap64 (1 + (wrap64 (Int.tmod a1 7)))), .int .i64 (wrap64 (8 - (wrap64 (1 + (wrap64 (Int.tmod a1 7)))))), .int .u64 t129] rfl (by (try simp only [List.map_toArray, List.map_cons, List.map_nil]); first | done | rfl | (simp only [List.length_drop, List.length_take]; rfl)) ?_; (with_reducible refine (word_Lay.calls t128 (wrap64 (1 + (wrap64 (Int.tmod a1 7)))) (wrap64 (8 - (wrap64 (1 + (wrap64 (Int.tmod a1 7)))))) t129 t130 _ A7.out).mono ?_); rintro e w' ⟨rfl, ⟨nd, rfl⟩⟩; refine ⟨_, rfl, ?_⟩))
    go_ret
    exact ⟨by first | rfl | (simp [errW_none, errW_some] <;> rfl) | (simp [*, errW_none, errW_some] <;> rfl), by repeat (first | (with_reducible first | exact HB.out | apply below_alloc | apply pw_below_drewN | apply below_drew1) | exact HB.out)⟩

/-- THE ONE PURE STATEMENT of dormerlaw02_WordJoins: yours. -/
def dormerlaw02_WordJoins.Pure : Prop := ∀ (a0 : Int) (a1 : Int), (Lit.int .u64 a0).wf = true → (Lit.int .u8 a1).wf = true → ∃ k, dormerlaw02_WordJoins.f k a0 a1 = some true
theorem dormerlaw02_WordJoins.walk (P : dormerlaw02_WordJoins.Pure) (a0 : Int) (a1 : Int) (w : World) (w0 : (Lit.int .u64 a0).wf = true) (w1 : (Lit.int .u8 a1).wf = true) :
    Calls Try.prog 12 #[.int .u64 a0, .int .u8 a1] w fun e w' => e = .returned (.bool true) ∧ Below w.heap.size w w' := by
  obtain ⟨k, h⟩ := P a0 a1 w0 w1
  refine (dormerlaw02_WordJoins.calls k a0 a1 true w h).mono ?_
  rintro e w' ⟨rfl, hd⟩
  exact ⟨rfl, hd⟩

end Go.Proofs.Ytpbgehgbonilgaa.Fn
