/- Beyond its end there is nothing; a word that doesn't lie on a slot is refused; a memory that is nil has nothing. No condition. -/
import Derived.Test.YtpkffpcdmglleaaMh
import Derived.Test.YtpkffpcdmglleaaNF
set_option linter.unusedVariables false
set_option linter.unusedSimpArgs false
namespace Go.Proofs.Ytpkffpcdmglleaa.Pu
open Go.RowKit Go.Maps Go.Proofs.Ytpkffpcdmglleaa.Me Go.Proofs.YtpkffpcdmglleaaW.PrintWords Go.Proofs.YtpkffpcdmglleaaW.PrintMore
theorem copy_nil (w : World) : Calls Try.prog 25 #[.pointer none] w fun e w' => e = .returned (.pointer none) ∧ w = w' := by
  go_enter Try.func25, Try.ntmps25
  go_wp2_with fail
  go_ret
  exact ⟨rfl, rfl⟩
theorem u8_lit {a : Int} (h : (Lit.int .u8 a).wf = true) : 0 ≤ a ∧ a < 256 := by
  have h1 : IntKind.u8.min = 0 := by decide
  have h2 : IntKind.u8.max = 255 := by decide
  simp only [Lit.wf, Bool.and_eq_true, decide_eq_true_eq] at h
  omega
theorem u64_lit {a : Int} (h : (Lit.int .u64 a).wf = true) : 0 ≤ a ∧ a < 18446744073709551616 := by
  have h1 : IntKind.u64.min = 0 := by decide
  have h2 : IntKind.u64.max = 18446744073709551615 := by decide
  simp only [Lit.wf, Bool.and_eq_true, decide_eq_true_eq] at h
  omega
set_option maxHeartbeats 2000000 in
set_option maxRecDepth 100000 in
theorem edges14 (b : Int) (q x : Nat) (w : World) (h0 : 0 ≤ b) (h1 : b < 256) (hr : b % 9 = 0) (hq : q < 18446744073709551616) (hx : x < 18446744073709551616) : Calls Try.prog 6 #[.int .u8 b, .int .u64 (q : Int), .int .u64 (x : Int)] w fun e w' => e = .returned (.bool true) ∧ Below w.heap.size w w' := by
  have core : ∀ (o : Nat), 16384 ≤ o → o < 18446744073709551616 → True := fun _ _ _ => trivial
  clear core
  go_enter Try.func6, Try.ntmps6
  go_wp2_with fail
  refine (awake_any w).mono ?_
  rintro e w1 ⟨rfl, B1⟩
  go_wp2_with fail
  refine (new_ok 14 w1 (by decide) (by decide)).mono ?_
  rintro e w2 ⟨rfl, M2, B2⟩
  have hm : w.heap.size ≤ w1.heap.size := B1.size
  have HB2 := below_step B1 B2
  clear B1 B2
  generalize w1.heap.size = m at *
  by_cases hqe : (16384 : Nat) < q
  · have hqe2 : (16384 : Int) < (q : Int) := by omega
    have T1 := get_bad (may_bad M2 (by decide) q (by show 16384 ≤ q; omega))
    have T2 := load_of (by decide) (peek_of (by decide) (aligned_bad M2 (by decide) q (by show 16384 ≤ q; omega)))
    replace T1 := Lib.hid T1
    replace T2 := Lib.hid T2
    go_wp2_with (first | (go_at_call 20; with_reducible refine T1.out.mono ?_; rintro e w' ⟨rfl, rfl⟩) | (go_at_call 19; with_reducible refine T2.out.mono ?_; rintro e w' ⟨rfl, rfl⟩))
    clear T1 T2
    refine (store_ok M2 (by decide) 16376 x (by decide) (by decide) hx (by decide)).mono ?_
    rintro e w3 ⟨rfl, pg3, M3, _, _, b3⟩
    have HB3 := HB2.trans (b3 _ hm)
    clear M2 HB2 b3
    go_wp2_with fail
    refine (load_ok M3 (by decide) 16376 (by decide) (by decide) (by decide)).mono ?_
    rw [show put (fun _ => 0) (16376 / 8) x (16376 / 8) = x from put_same _ _ _]
    rintro e w4 ⟨rfl, A4, c4, M4, _, b4⟩
    have HB4 := HB3.trans (b4 _ hm)
    clear M3 HB3 b4
    have T3 := store_of (x := (x : Int)) (by decide) (aligned_off M4 (by decide) (16376 + q % 7 + 1) (by show _ < 16384; omega) (by omega))
    have e3 : (((16376 + q % 7 + 1 : Nat)) : Int) = 16376 + (q : Int) % 7 + 1 := by omega
    rw [e3] at T3
    replace T3 := Lib.hid T3
    clear e3
    have hx7 : ∃ r : Nat, Fn.word_Put.f (put (fun _ => 0) (16376 / 8) x (16383 / 8) : Int) ((16383 % 8 : Nat) : Int) 1 = some (r : Int) ∧ r < 18446744073709551616 := by
      rw [show put (fun _ => 0) (16376 / 8) x (16383 / 8) = x from put_same _ _ _]
      exact ⟨_, NF.put (i := 7) (c := 1) hx (by decide) (by decide), NL.sN_lt (by decide) hx⟩
    obtain ⟨r, hr1, hr2⟩ := hx7
    go_wp2_with (first | (go_at_call 18; with_reducible refine T3.out.mono ?_; rintro e w' ⟨rfl, rfl⟩))
    refine (put_ok M4 (by decide) 16383 r 1 (by decide) hr1 hr2 (by decide)).mono ?_
    rintro e w5 ⟨rfl, pg5, M5, _, _, b5⟩
    have HB5 := Aside0.mk (HB4.trans (b5 _ hm))
    clear M4 HB4 b5 T3 M5 hr1
    go_wp2_with (first | (go_at_call 20; with_reducible refine (get_bad (may_nil _ _)).mono ?_; rintro e w' ⟨rfl, rfl⟩) | (go_at_call 19; with_reducible refine (load_of (by decide) (peek_of (by decide) (aligned_nil _ _))).mono ?_; rintro e w' ⟨rfl, rfl⟩) | (go_at_call 24; with_reducible refine (forget_nil _).mono ?_; rintro e w' ⟨rfl, rfl⟩) | (go_at_call 25; with_reducible refine (copy_nil _).mono ?_; rintro e w' ⟨rfl, rfl⟩) | (go_at_call 14; with_reducible refine (trace_nil _).mono ?_; rintro e w' ⟨rfl, rfl⟩) | (go_at_call 15; with_reducible refine (bits_nil _).mono ?_; rintro e w' ⟨rfl, rfl⟩) | (go_at_call 18; with_reducible refine (store_of (by decide) (aligned_nil _ _)).mono ?_; rintro e w' ⟨rfl, rfl⟩) | (go_at_call 22; with_reducible refine (put_bad (may_nil _ _)).mono ?_; rintro e w' ⟨rfl, rfl⟩))
    go_ret
    exact ⟨rfl, HB5.out⟩
  · have hqe2 : ¬ (16384 : Int) < (q : Int) := by omega
    have T1 := get_bad (may_bad M2 (by decide) 16384 (by decide))
    have T2 := load_of (by decide) (peek_of (by decide) (aligned_bad M2 (by decide) 16384 (by decide)))
    rw [show ((16384 : Nat) : Int) = 16384 from rfl] at T1 T2
    replace T1 := Lib.hid T1
    replace T2 := Lib.hid T2
    go_wp2_with (first | (go_at_call 20; with_reducible refine T1.out.mono ?_; rintro e w' ⟨rfl, rfl⟩) | (go_at_call 19; with_reducible refine T2.out.mono ?_; rintro e w' ⟨rfl, rfl⟩))
    clear T1 T2
    refine (store_ok M2 (by decide) 16376 x (by decide) (by decide) hx (by decide)).mono ?_
    rintro e w3 ⟨rfl, pg3, M3, _, _, b3⟩
    have HB3 := HB2.trans (b3 _ hm)
    clear M2 HB2 b3
    go_wp2_with fail
    refine (load_ok M3 (by decide) 16376 (by decide) (by decide) (by decide)).mono ?_
    rw [show put (fun _ => 0) (16376 / 8) x (16376 / 8) = x from put_same _ _ _]
    rintro e w4 ⟨rfl, A4, c4, M4, _, b4⟩
    have HB4 := HB3.trans (b4 _ hm)
    clear M3 HB3 b4
    have T3 := store_of (x := (x : Int)) (by decide) (aligned_off M4 (by decide) (16376 + q % 7 + 1) (by show _ < 16384; omega) (by omega))
    have e3 : (((16376 + q % 7 + 1 : Nat)) : Int) = 16376 + (q : Int) % 7 + 1 := by omega
    rw [e3] at T3
    replace T3 := Lib.hid T3
    clear e3
    have hx7 : ∃ r : Nat, Fn.word_Put.f (put (fun _ => 0) (16376 / 8) x (16383 / 8) : Int) ((16383 % 8 : Nat) : Int) 1 = some (r : Int) ∧ r < 18446744073709551616 := by
      rw [show put (fun _ => 0) (16376 / 8) x (16383 / 8) = x from put_same _ _ _]
      exact ⟨_, NF.put (i := 7) (c := 1) hx (by decide) (by decide), NL.sN_lt (by decide) hx⟩
    obtain ⟨r, hr1, hr2⟩ := hx7
    go_wp2_with (first | (go_at_call 18; with_reducible refine T3.out.mono ?_; rintro e w' ⟨rfl, rfl⟩))
    refine (put_ok M4 (by decide) 16383 r 1 (by decide) hr1 hr2 (by decide)).mono ?_
    rintro e w5 ⟨rfl, pg5, M5, _, _, b5⟩
    have HB5 := Aside0.mk (HB4.trans (b5 _ hm))
    clear M4 HB4 b5 T3 M5 hr1
    go_wp2_with (first | (go_at_call 20; with_reducible refine (get_bad (may_nil _ _)).mono ?_; rintro e w' ⟨rfl, rfl⟩) | (go_at_call 19; with_reducible refine (load_of (by decide) (peek_of (by decide) (aligned_nil _ _))).mono ?_; rintro e w' ⟨rfl, rfl⟩) | (go_at_call 24; with_reducible refine (forget_nil _).mono ?_; rintro e w' ⟨rfl, rfl⟩) | (go_at_call 25; with_reducible refine (copy_nil _).mono ?_; rintro e w' ⟨rfl, rfl⟩) | (go_at_call 14; with_reducible refine (trace_nil _).mono ?_; rintro e w' ⟨rfl, rfl⟩) | (go_at_call 15; with_reducible refine (bits_nil _).mono ?_; rintro e w' ⟨rfl, rfl⟩) | (go_at_call 18; with_reducible refine (store_of (by decide) (aligned_nil _ _)).mono ?_; rintro e w' ⟨rfl, rfl⟩) | (go_at_call 22; with_reducible refine (put_bad (may_nil _ _)).mono ?_; rintro e w' ⟨rfl, rfl⟩))
    go_ret
    exact ⟨rfl, HB5.out⟩
set_option maxHeartbeats 2000000 in
set_option maxRecDepth 100000 in
theorem edges15 (b : Int) (q x : Nat) (w : World) (h0 : 0 ≤ b) (h1 : b < 256) (hr : b % 9 = 1) (hq : q < 18446744073709551616) (hx : x < 18446744073709551616) : Calls Try.prog 6 #[.int .u8 b, .int .u64 (q : Int), .int .u64 (x : Int)] w fun e w' => e = .returned (.bool true) ∧ Below w.heap.size w w' := by
  have core : ∀ (o : Nat), 32768 ≤ o → o < 18446744073709551616 → True := fun _ _ _ => trivial
  clear core
  go_enter Try.func6, Try.ntmps6
  go_wp2_with fail
  refine (awake_any w).mono ?_
  rintro e w1 ⟨rfl, B1⟩
  go_wp2_with fail
  refine (new_ok 15 w1 (by decide) (by decide)).mono ?_
  rintro e w2 ⟨rfl, M2, B2⟩
  have hm : w.heap.size ≤ w1.heap.size := B1.size
  have HB2 := below_step B1 B2
  clear B1 B2
  generalize w1.heap.size = m at *
  by_cases hqe : (32768 : Nat) < q
  · have hqe2 : (32768 : Int) < (q : Int) := by omega
    have T1 := get_bad (may_bad M2 (by decide) q (by show 32768 ≤ q; omega))
    have T2 := load_of (by decide) (peek_of (by decide) (aligned_bad M2 (by decide) q (by show 32768 ≤ q; omega)))
    replace T1 := Lib.hid T1
    replace T2 := Lib.hid T2
    go_wp2_with (first | (go_at_call 20; with_reducible refine T1.out.mono ?_; rintro e w' ⟨rfl, rfl⟩) | (go_at_call 19; with_reducible refine T2.out.mono ?_; rintro e w' ⟨rfl, rfl⟩))
    clear T1 T2
    refine (store_ok M2 (by decide) 32760 x (by decide) (by decide) hx (by decide)).mono ?_
    rintro e w3 ⟨rfl, pg3, M3, _, _, b3⟩
    have HB3 := HB2.trans (b3 _ hm)
    clear M2 HB2 b3
    go_wp2_with fail
    refine (load_ok M3 (by decide) 32760 (by decide) (by decide) (by decide)).mono ?_
    rw [show put (fun _ => 0) (32760 / 8) x (32760 / 8) = x from put_same _ _ _]
    rintro e w4 ⟨rfl, A4, c4, M4, _, b4⟩
    have HB4 := HB3.trans (b4 _ hm)
    clear M3 HB3 b4
    have T3 := store_of (x := (x : Int)) (by decide) (aligned_off M4 (by decide) (32760 + q % 7 + 1) (by show _ < 32768; omega) (by omega))
    have e3 : (((32760 + q % 7 + 1 : Nat)) : Int) = 32760 + (q : Int) % 7 + 1 := by omega
    rw [e3] at T3
    replace T3 := Lib.hid T3
    clear e3
    have hx7 : ∃ r : Nat, Fn.word_Put.f (put (fun _ => 0) (32760 / 8) x (32767 / 8) : Int) ((32767 % 8 : Nat) : Int) 1 = some (r : Int) ∧ r < 18446744073709551616 := by
      rw [show put (fun _ => 0) (32760 / 8) x (32767 / 8) = x from put_same _ _ _]
      exact ⟨_, NF.put (i := 7) (c := 1) hx (by decide) (by decide), NL.sN_lt (by decide) hx⟩
    obtain ⟨r, hr1, hr2⟩ := hx7
    go_wp2_with (first | (go_at_call 18; with_reducible refine T3.out.mono ?_; rintro e w' ⟨rfl, rfl⟩))
    refine (put_ok M4 (by decide) 32767 r 1 (by decide) hr1 hr2 (by decide)).mono ?_
    rintro e w5 ⟨rfl, pg5, M5, _, _, b5⟩
    have HB5 := Aside0.mk (HB4.trans (b5 _ hm))
    clear M4 HB4 b5 T3 M5 hr1
    go_wp2_with (first | (go_at_call 20; with_reducible refine (get_bad (may_nil _ _)).mono ?_; rintro e w' ⟨rfl, rfl⟩) | (go_at_call 19; with_reducible refine (load_of (by decide) (peek_of (by decide) (aligned_nil _ _))).mono ?_; rintro e w' ⟨rfl, rfl⟩) | (go_at_call 24; with_reducible refine (forget_nil _).mono ?_; rintro e w' ⟨rfl, rfl⟩) | (go_at_call 25; with_reducible refine (copy_nil _).mono ?_; rintro e w' ⟨rfl, rfl⟩) | (go_at_call 14; with_reducible refine (trace_nil _).mono ?_; rintro e w' ⟨rfl, rfl⟩) | (go_at_call 15; with_reducible refine (bits_nil _).mono ?_; rintro e w' ⟨rfl, rfl⟩) | (go_at_call 18; with_reducible refine (store_of (by decide) (aligned_nil _ _)).mono ?_; rintro e w' ⟨rfl, rfl⟩) | (go_at_call 22; with_reducible refine (put_bad (may_nil _ _)).mono ?_; rintro e w' ⟨rfl, rfl⟩))
    go_ret
    exact ⟨rfl, HB5.out⟩
  · have hqe2 : ¬ (32768 : Int) < (q : Int) := by omega
    have T1 := get_bad (may_bad M2 (by decide) 32768 (by decide))
    have T2 := load_of (by decide) (peek_of (by decide) (aligned_bad M2 (by decide) 32768 (by decide)))
    rw [show ((32768 : Nat) : Int) = 32768 from rfl] at T1 T2
    replace T1 := Lib.hid T1
    replace T2 := Lib.hid T2
    go_wp2_with (first | (go_at_call 20; with_reducible refine T1.out.mono ?_; rintro e w' ⟨rfl, rfl⟩) | (go_at_call 19; with_reducible refine T2.out.mono ?_; rintro e w' ⟨rfl, rfl⟩))
    clear T1 T2
    refine (store_ok M2 (by decide) 32760 x (by decide) (by decide) hx (by decide)).mono ?_
    rintro e w3 ⟨rfl, pg3, M3, _, _, b3⟩
    have HB3 := HB2.trans (b3 _ hm)
    clear M2 HB2 b3
    go_wp2_with fail
    refine (load_ok M3 (by decide) 32760 (by decide) (by decide) (by decide)).mono ?_
    rw [show put (fun _ => 0) (32760 / 8) x (32760 / 8) = x from put_same _ _ _]
    rintro e w4 ⟨rfl, A4, c4, M4, _, b4⟩
    have HB4 := HB3.trans (b4 _ hm)
    clear M3 HB3 b4
    have T3 := store_of (x := (x : Int)) (by decide) (aligned_off M4 (by decide) (32760 + q % 7 + 1) (by show _ < 32768; omega) (by omega))
    have e3 : (((32760 + q % 7 + 1 : Nat)) : Int) = 32760 + (q : Int) % 7 + 1 := by omega
    rw [e3] at T3
    replace T3 := Lib.hid T3
    clear e3
    have hx7 : ∃ r : Nat, Fn.word_Put.f (put (fun _ => 0) (32760 / 8) x (32767 / 8) : Int) ((32767 % 8 : Nat) : Int) 1 = some (r : Int) ∧ r < 18446744073709551616 := by
      rw [show put (fun _ => 0) (32760 / 8) x (32767 / 8) = x from put_same _ _ _]
      exact ⟨_, NF.put (i := 7) (c := 1) hx (by decide) (by decide), NL.sN_lt (by decide) hx⟩
    obtain ⟨r, hr1, hr2⟩ := hx7
    go_wp2_with (first | (go_at_call 18; with_reducible refine T3.out.mono ?_; rintro e w' ⟨rfl, rfl⟩))
    refine (put_ok M4 (by decide) 32767 r 1 (by decide) hr1 hr2 (by decide)).mono ?_
    rintro e w5 ⟨rfl, pg5, M5, _, _, b5⟩
    have HB5 := Aside0.mk (HB4.trans (b5 _ hm))
    clear M4 HB4 b5 T3 M5 hr1
    go_wp2_with (first | (go_at_call 20; with_reducible refine (get_bad (may_nil _ _)).mono ?_; rintro e w' ⟨rfl, rfl⟩) | (go_at_call 19; with_reducible refine (load_of (by decide) (peek_of (by decide) (aligned_nil _ _))).mono ?_; rintro e w' ⟨rfl, rfl⟩) | (go_at_call 24; with_reducible refine (forget_nil _).mono ?_; rintro e w' ⟨rfl, rfl⟩) | (go_at_call 25; with_reducible refine (copy_nil _).mono ?_; rintro e w' ⟨rfl, rfl⟩) | (go_at_call 14; with_reducible refine (trace_nil _).mono ?_; rintro e w' ⟨rfl, rfl⟩) | (go_at_call 15; with_reducible refine (bits_nil _).mono ?_; rintro e w' ⟨rfl, rfl⟩) | (go_at_call 18; with_reducible refine (store_of (by decide) (aligned_nil _ _)).mono ?_; rintro e w' ⟨rfl, rfl⟩) | (go_at_call 22; with_reducible refine (put_bad (may_nil _ _)).mono ?_; rintro e w' ⟨rfl, rfl⟩))
    go_ret
    exact ⟨rfl, HB5.out⟩
set_option maxHeartbeats 2000000 in
set_option maxRecDepth 100000 in
theorem edges16 (b : Int) (q x : Nat) (w : World) (h0 : 0 ≤ b) (h1 : b < 256) (hr : b % 9 = 2) (hq : q < 18446744073709551616) (hx : x < 18446744073709551616) : Calls Try.prog 6 #[.int .u8 b, .int .u64 (q : Int), .int .u64 (x : Int)] w fun e w' => e = .returned (.bool true) ∧ Below w.heap.size w w' := by
  have core : ∀ (o : Nat), 65536 ≤ o → o < 18446744073709551616 → True := fun _ _ _ => trivial
  clear core
  go_enter Try.func6, Try.ntmps6
  go_wp2_with fail
  refine (awake_any w).mono ?_
  rintro e w1 ⟨rfl, B1⟩
  go_wp2_with fail
  refine (new_ok 16 w1 (by decide) (by decide)).mono ?_
  rintro e w2 ⟨rfl, M2, B2⟩
  have hm : w.heap.size ≤ w1.heap.size := B1.size
  have HB2 := below_step B1 B2
  clear B1 B2
  generalize w1.heap.size = m at *
  by_cases hqe : (65536 : Nat) < q
  · have hqe2 : (65536 : Int) < (q : Int) := by omega
    have T1 := get_bad (may_bad M2 (by decide) q (by show 65536 ≤ q; omega))
    have T2 := load_of (by decide) (peek_of (by decide) (aligned_bad M2 (by decide) q (by show 65536 ≤ q; omega)))
    replace T1 := Lib.hid T1
    replace T2 := Lib.hid T2
    go_wp2_with (first | (go_at_call 20; with_reducible refine T1.out.mono ?_; rintro e w' ⟨rfl, rfl⟩) | (go_at_call 19; with_reducible refine T2.out.mono ?_; rintro e w' ⟨rfl, rfl⟩))
    clear T1 T2
    refine (store_ok M2 (by decide) 65528 x (by decide) (by decide) hx (by decide)).mono ?_
    rintro e w3 ⟨rfl, pg3, M3, _, _, b3⟩
    have HB3 := HB2.trans (b3 _ hm)
    clear M2 HB2 b3
    go_wp2_with fail
    refine (load_ok M3 (by decide) 65528 (by decide) (by decide) (by decide)).mono ?_
    rw [show put (fun _ => 0) (65528 / 8) x (65528 / 8) = x from put_same _ _ _]
    rintro e w4 ⟨rfl, A4, c4, M4, _, b4⟩
    have HB4 := HB3.trans (b4 _ hm)
    clear M3 HB3 b4
    have T3 := store_of (x := (x : Int)) (by decide) (aligned_off M4 (by decide) (65528 + q % 7 + 1) (by show _ < 65536; omega) (by omega))
    have e3 : (((65528 + q % 7 + 1 : Nat)) : Int) = 65528 + (q : Int) % 7 + 1 := by omega
    rw [e3] at T3
    replace T3 := Lib.hid T3
    clear e3
    have hx7 : ∃ r : Nat, Fn.word_Put.f (put (fun _ => 0) (65528 / 8) x (65535 / 8) : Int) ((65535 % 8 : Nat) : Int) 1 = some (r : Int) ∧ r < 18446744073709551616 := by
      rw [show put (fun _ => 0) (65528 / 8) x (65535 / 8) = x from put_same _ _ _]
      exact ⟨_, NF.put (i := 7) (c := 1) hx (by decide) (by decide), NL.sN_lt (by decide) hx⟩
    obtain ⟨r, hr1, hr2⟩ := hx7
    go_wp2_with (first | (go_at_call 18; with_reducible refine T3.out.mono ?_; rintro e w' ⟨rfl, rfl⟩))
    refine (put_ok M4 (by decide) 65535 r 1 (by decide) hr1 hr2 (by decide)).mono ?_
    rintro e w5 ⟨rfl, pg5, M5, _, _, b5⟩
    have HB5 := Aside0.mk (HB4.trans (b5 _ hm))
    clear M4 HB4 b5 T3 M5 hr1
    go_wp2_with (first | (go_at_call 20; with_reducible refine (get_bad (may_nil _ _)).mono ?_; rintro e w' ⟨rfl, rfl⟩) | (go_at_call 19; with_reducible refine (load_of (by decide) (peek_of (by decide) (aligned_nil _ _))).mono ?_; rintro e w' ⟨rfl, rfl⟩) | (go_at_call 24; with_reducible refine (forget_nil _).mono ?_; rintro e w' ⟨rfl, rfl⟩) | (go_at_call 25; with_reducible refine (copy_nil _).mono ?_; rintro e w' ⟨rfl, rfl⟩) | (go_at_call 14; with_reducible refine (trace_nil _).mono ?_; rintro e w' ⟨rfl, rfl⟩) | (go_at_call 15; with_reducible refine (bits_nil _).mono ?_; rintro e w' ⟨rfl, rfl⟩) | (go_at_call 18; with_reducible refine (store_of (by decide) (aligned_nil _ _)).mono ?_; rintro e w' ⟨rfl, rfl⟩) | (go_at_call 22; with_reducible refine (put_bad (may_nil _ _)).mono ?_; rintro e w' ⟨rfl, rfl⟩))
    go_ret
    exact ⟨rfl, HB5.out⟩
  · have hqe2 : ¬ (65536 : Int) < (q : Int) := by omega
    have T1 := get_bad (may_bad M2 (by decide) 65536 (by decide))
    have T2 := load_of (by decide) (peek_of (by decide) (aligned_bad M2 (by decide) 65536 (by decide)))
    rw [show ((65536 : Nat) : Int) = 65536 from rfl] at T1 T2
    replace T1 := Lib.hid T1
    replace T2 := Lib.hid T2
    go_wp2_with (first | (go_at_call 20; with_reducible refine T1.out.mono ?_; rintro e w' ⟨rfl, rfl⟩) | (go_at_call 19; with_reducible refine T2.out.mono ?_; rintro e w' ⟨rfl, rfl⟩))
    clear T1 T2
    refine (store_ok M2 (by decide) 65528 x (by decide) (by decide) hx (by decide)).mono ?_
    rintro e w3 ⟨rfl, pg3, M3, _, _, b3⟩
    have HB3 := HB2.trans (b3 _ hm)
    clear M2 HB2 b3
    go_wp2_with fail
    refine (load_ok M3 (by decide) 65528 (by decide) (by decide) (by decide)).mono ?_
    rw [show put (fun _ => 0) (65528 / 8) x (65528 / 8) = x from put_same _ _ _]
    rintro e w4 ⟨rfl, A4, c4, M4, _, b4⟩
    have HB4 := HB3.trans (b4 _ hm)
    clear M3 HB3 b4
    have T3 := store_of (x := (x : Int)) (by decide) (aligned_off M4 (by decide) (65528 + q % 7 + 1) (by show _ < 65536; omega) (by omega))
    have e3 : (((65528 + q % 7 + 1 : Nat)) : Int) = 65528 + (q : Int) % 7 + 1 := by omega
    rw [e3] at T3
    replace T3 := Lib.hid T3
    clear e3
    have hx7 : ∃ r : Nat, Fn.word_Put.f (put (fun _ => 0) (65528 / 8) x (65535 / 8) : Int) ((65535 % 8 : Nat) : Int) 1 = some (r : Int) ∧ r < 18446744073709551616 := by
      rw [show put (fun _ => 0) (65528 / 8) x (65535 / 8) = x from put_same _ _ _]
      exact ⟨_, NF.put (i := 7) (c := 1) hx (by decide) (by decide), NL.sN_lt (by decide) hx⟩
    obtain ⟨r, hr1, hr2⟩ := hx7
    go_wp2_with (first | (go_at_call 18; with_reducible refine T3.out.mono ?_; rintro e w' ⟨rfl, rfl⟩))
    refine (put_ok M4 (by decide) 65535 r 1 (by decide) hr1 hr2 (by decide)).mono ?_
    rintro e w5 ⟨rfl, pg5, M5, _, _, b5⟩
    have HB5 := Aside0.mk (HB4.trans (b5 _ hm))
    clear M4 HB4 b5 T3 M5 hr1
    go_wp2_with (first | (go_at_call 20; with_reducible refine (get_bad (may_nil _ _)).mono ?_; rintro e w' ⟨rfl, rfl⟩) | (go_at_call 19; with_reducible refine (load_of (by decide) (peek_of (by decide) (aligned_nil _ _))).mono ?_; rintro e w' ⟨rfl, rfl⟩) | (go_at_call 24; with_reducible refine (forget_nil _).mono ?_; rintro e w' ⟨rfl, rfl⟩) | (go_at_call 25; with_reducible refine (copy_nil _).mono ?_; rintro e w' ⟨rfl, rfl⟩) | (go_at_call 14; with_reducible refine (trace_nil _).mono ?_; rintro e w' ⟨rfl, rfl⟩) | (go_at_call 15; with_reducible refine (bits_nil _).mono ?_; rintro e w' ⟨rfl, rfl⟩) | (go_at_call 18; with_reducible refine (store_of (by decide) (aligned_nil _ _)).mono ?_; rintro e w' ⟨rfl, rfl⟩) | (go_at_call 22; with_reducible refine (put_bad (may_nil _ _)).mono ?_; rintro e w' ⟨rfl, rfl⟩))
    go_ret
    exact ⟨rfl, HB5.out⟩
set_option maxHeartbeats 2000000 in
set_option maxRecDepth 100000 in
theorem edges17 (b : Int) (q x : Nat) (w : World) (h0 : 0 ≤ b) (h1 : b < 256) (hr : b % 9 = 3) (hq : q < 18446744073709551616) (hx : x < 18446744073709551616) : Calls Try.prog 6 #[.int .u8 b, .int .u64 (q : Int), .int .u64 (x : Int)] w fun e w' => e = .returned (.bool true) ∧ Below w.heap.size w w' := by
  have core : ∀ (o : Nat), 131072 ≤ o → o < 18446744073709551616 → True := fun _ _ _ => trivial
  clear core
  go_enter Try.func6, Try.ntmps6
  go_wp2_with fail
  refine (awake_any w).mono ?_
  rintro e w1 ⟨rfl, B1⟩
  go_wp2_with fail
  refine (new_ok 17 w1 (by decide) (by decide)).mono ?_
  rintro e w2 ⟨rfl, M2, B2⟩
  have hm : w.heap.size ≤ w1.heap.size := B1.size
  have HB2 := below_step B1 B2
  clear B1 B2
  generalize w1.heap.size = m at *
  by_cases hqe : (131072 : Nat) < q
  · have hqe2 : (131072 : Int) < (q : Int) := by omega
    have T1 := get_bad (may_bad M2 (by decide) q (by show 131072 ≤ q; omega))
    have T2 := load_of (by decide) (peek_of (by decide) (aligned_bad M2 (by decide) q (by show 131072 ≤ q; omega)))
    replace T1 := Lib.hid T1
    replace T2 := Lib.hid T2
    go_wp2_with (first | (go_at_call 20; with_reducible refine T1.out.mono ?_; rintro e w' ⟨rfl, rfl⟩) | (go_at_call 19; with_reducible refine T2.out.mono ?_; rintro e w' ⟨rfl, rfl⟩))
    clear T1 T2
    refine (store_ok M2 (by decide) 131064 x (by decide) (by decide) hx (by decide)).mono ?_
    rintro e w3 ⟨rfl, pg3, M3, _, _, b3⟩
    have HB3 := HB2.trans (b3 _ hm)
    clear M2 HB2 b3
    go_wp2_with fail
    refine (load_ok M3 (by decide) 131064 (by decide) (by decide) (by decide)).mono ?_
    rw [show put (fun _ => 0) (131064 / 8) x (131064 / 8) = x from put_same _ _ _]
    rintro e w4 ⟨rfl, A4, c4, M4, _, b4⟩
    have HB4 := HB3.trans (b4 _ hm)
    clear M3 HB3 b4
    have T3 := store_of (x := (x : Int)) (by decide) (aligned_off M4 (by decide) (131064 + q % 7 + 1) (by show _ < 131072; omega) (by omega))
    have e3 : (((131064 + q % 7 + 1 : Nat)) : Int) = 131064 + (q : Int) % 7 + 1 := by omega
    rw [e3] at T3
    replace T3 := Lib.hid T3
    clear e3
    have hx7 : ∃ r : Nat, Fn.word_Put.f (put (fun _ => 0) (131064 / 8) x (131071 / 8) : Int) ((131071 % 8 : Nat) : Int) 1 = some (r : Int) ∧ r < 18446744073709551616 := by
      rw [show put (fun _ => 0) (131064 / 8) x (131071 / 8) = x from put_same _ _ _]
      exact ⟨_, NF.put (i := 7) (c := 1) hx (by decide) (by decide), NL.sN_lt (by decide) hx⟩
    obtain ⟨r, hr1, hr2⟩ := hx7
    go_wp2_with (first | (go_at_call 18; with_reducible refine T3.out.mono ?_; rintro e w' ⟨rfl, rfl⟩))
    refine (put_ok M4 (by decide) 131071 r 1 (by decide) hr1 hr2 (by decide)).mono ?_
    rintro e w5 ⟨rfl, pg5, M5, _, _, b5⟩
    have HB5 := Aside0.mk (HB4.trans (b5 _ hm))
    clear M4 HB4 b5 T3 M5 hr1
    go_wp2_with (first | (go_at_call 20; with_reducible refine (get_bad (may_nil _ _)).mono ?_; rintro e w' ⟨rfl, rfl⟩) | (go_at_call 19; with_reducible refine (load_of (by decide) (peek_of (by decide) (aligned_nil _ _))).mono ?_; rintro e w' ⟨rfl, rfl⟩) | (go_at_call 24; with_reducible refine (forget_nil _).mono ?_; rintro e w' ⟨rfl, rfl⟩) | (go_at_call 25; with_reducible refine (copy_nil _).mono ?_; rintro e w' ⟨rfl, rfl⟩) | (go_at_call 14; with_reducible refine (trace_nil _).mono ?_; rintro e w' ⟨rfl, rfl⟩) | (go_at_call 15; with_reducible refine (bits_nil _).mono ?_; rintro e w' ⟨rfl, rfl⟩) | (go_at_call 18; with_reducible refine (store_of (by decide) (aligned_nil _ _)).mono ?_; rintro e w' ⟨rfl, rfl⟩) | (go_at_call 22; with_reducible refine (put_bad (may_nil _ _)).mono ?_; rintro e w' ⟨rfl, rfl⟩))
    go_ret
    exact ⟨rfl, HB5.out⟩
  · have hqe2 : ¬ (131072 : Int) < (q : Int) := by omega
    have T1 := get_bad (may_bad M2 (by decide) 131072 (by decide))
    have T2 := load_of (by decide) (peek_of (by decide) (aligned_bad M2 (by decide) 131072 (by decide)))
    rw [show ((131072 : Nat) : Int) = 131072 from rfl] at T1 T2
    replace T1 := Lib.hid T1
    replace T2 := Lib.hid T2
    go_wp2_with (first | (go_at_call 20; with_reducible refine T1.out.mono ?_; rintro e w' ⟨rfl, rfl⟩) | (go_at_call 19; with_reducible refine T2.out.mono ?_; rintro e w' ⟨rfl, rfl⟩))
    clear T1 T2
    refine (store_ok M2 (by decide) 131064 x (by decide) (by decide) hx (by decide)).mono ?_
    rintro e w3 ⟨rfl, pg3, M3, _, _, b3⟩
    have HB3 := HB2.trans (b3 _ hm)
    clear M2 HB2 b3
    go_wp2_with fail
    refine (load_ok M3 (by decide) 131064 (by decide) (by decide) (by decide)).mono ?_
    rw [show put (fun _ => 0) (131064 / 8) x (131064 / 8) = x from put_same _ _ _]
    rintro e w4 ⟨rfl, A4, c4, M4, _, b4⟩
    have HB4 := HB3.trans (b4 _ hm)
    clear M3 HB3 b4
    have T3 := store_of (x := (x : Int)) (by decide) (aligned_off M4 (by decide) (131064 + q % 7 + 1) (by show _ < 131072; omega) (by omega))
    have e3 : (((131064 + q % 7 + 1 : Nat)) : Int) = 131064 + (q : Int) % 7 + 1 := by omega
    rw [e3] at T3
    replace T3 := Lib.hid T3
    clear e3
    have hx7 : ∃ r : Nat, Fn.word_Put.f (put (fun _ => 0) (131064 / 8) x (131071 / 8) : Int) ((131071 % 8 : Nat) : Int) 1 = some (r : Int) ∧ r < 18446744073709551616 := by
      rw [show put (fun _ => 0) (131064 / 8) x (131071 / 8) = x from put_same _ _ _]
      exact ⟨_, NF.put (i := 7) (c := 1) hx (by decide) (by decide), NL.sN_lt (by decide) hx⟩
    obtain ⟨r, hr1, hr2⟩ := hx7
    go_wp2_with (first | (go_at_call 18; with_reducible refine T3.out.mono ?_; rintro e w' ⟨rfl, rfl⟩))
    refine (put_ok M4 (by decide) 131071 r 1 (by decide) hr1 hr2 (by decide)).mono ?_
    rintro e w5 ⟨rfl, pg5, M5, _, _, b5⟩
    have HB5 := Aside0.mk (HB4.trans (b5 _ hm))
    clear M4 HB4 b5 T3 M5 hr1
    go_wp2_with (first | (go_at_call 20; with_reducible refine (get_bad (may_nil _ _)).mono ?_; rintro e w' ⟨rfl, rfl⟩) | (go_at_call 19; with_reducible refine (load_of (by decide) (peek_of (by decide) (aligned_nil _ _))).mono ?_; rintro e w' ⟨rfl, rfl⟩) | (go_at_call 24; with_reducible refine (forget_nil _).mono ?_; rintro e w' ⟨rfl, rfl⟩) | (go_at_call 25; with_reducible refine (copy_nil _).mono ?_; rintro e w' ⟨rfl, rfl⟩) | (go_at_call 14; with_reducible refine (trace_nil _).mono ?_; rintro e w' ⟨rfl, rfl⟩) | (go_at_call 15; with_reducible refine (bits_nil _).mono ?_; rintro e w' ⟨rfl, rfl⟩) | (go_at_call 18; with_reducible refine (store_of (by decide) (aligned_nil _ _)).mono ?_; rintro e w' ⟨rfl, rfl⟩) | (go_at_call 22; with_reducible refine (put_bad (may_nil _ _)).mono ?_; rintro e w' ⟨rfl, rfl⟩))
    go_ret
    exact ⟨rfl, HB5.out⟩
set_option maxHeartbeats 2000000 in
set_option maxRecDepth 100000 in
theorem edges18 (b : Int) (q x : Nat) (w : World) (h0 : 0 ≤ b) (h1 : b < 256) (hr : b % 9 = 4) (hq : q < 18446744073709551616) (hx : x < 18446744073709551616) : Calls Try.prog 6 #[.int .u8 b, .int .u64 (q : Int), .int .u64 (x : Int)] w fun e w' => e = .returned (.bool true) ∧ Below w.heap.size w w' := by
  have core : ∀ (o : Nat), 262144 ≤ o → o < 18446744073709551616 → True := fun _ _ _ => trivial
  clear core
  go_enter Try.func6, Try.ntmps6
  go_wp2_with fail
  refine (awake_any w).mono ?_
  rintro e w1 ⟨rfl, B1⟩
  go_wp2_with fail
  refine (new_ok 18 w1 (by decide) (by decide)).mono ?_
  rintro e w2 ⟨rfl, M2, B2⟩
  have hm : w.heap.size ≤ w1.heap.size := B1.size
  have HB2 := below_step B1 B2
  clear B1 B2
  generalize w1.heap.size = m at *
  by_cases hqe : (262144 : Nat) < q
  · have hqe2 : (262144 : Int) < (q : Int) := by omega
    have T1 := get_bad (may_bad M2 (by decide) q (by show 262144 ≤ q; omega))
    have T2 := load_of (by decide) (peek_of (by decide) (aligned_bad M2 (by decide) q (by show 262144 ≤ q; omega)))
    replace T1 := Lib.hid T1
    replace T2 := Lib.hid T2
    go_wp2_with (first | (go_at_call 20; with_reducible refine T1.out.mono ?_; rintro e w' ⟨rfl, rfl⟩) | (go_at_call 19; with_reducible refine T2.out.mono ?_; rintro e w' ⟨rfl, rfl⟩))
    clear T1 T2
    refine (store_ok M2 (by decide) 262136 x (by decide) (by decide) hx (by decide)).mono ?_
    rintro e w3 ⟨rfl, pg3, M3, _, _, b3⟩
    have HB3 := HB2.trans (b3 _ hm)
    clear M2 HB2 b3
    go_wp2_with fail
    refine (load_ok M3 (by decide) 262136 (by decide) (by decide) (by decide)).mono ?_
    rw [show put (fun _ => 0) (262136 / 8) x (262136 / 8) = x from put_same _ _ _]
    rintro e w4 ⟨rfl, A4, c4, M4, _, b4⟩
    have HB4 := HB3.trans (b4 _ hm)
    clear M3 HB3 b4
    have T3 := store_of (x := (x : Int)) (by decide) (aligned_off M4 (by decide) (262136 + q % 7 + 1) (by show _ < 262144; omega) (by omega))
    have e3 : (((262136 + q % 7 + 1 : Nat)) : Int) = 262136 + (q : Int) % 7 + 1 := by omega
    rw [e3] at T3
    replace T3 := Lib.hid T3
    clear e3
    have hx7 : ∃ r : Nat, Fn.word_Put.f (put (fun _ => 0) (262136 / 8) x (262143 / 8) : Int) ((262143 % 8 : Nat) : Int) 1 = some (r : Int) ∧ r < 18446744073709551616 := by
      rw [show put (fun _ => 0) (262136 / 8) x (262143 / 8) = x from put_same _ _ _]
      exact ⟨_, NF.put (i := 7) (c := 1) hx (by decide) (by decide), NL.sN_lt (by decide) hx⟩
    obtain ⟨r, hr1, hr2⟩ := hx7
    go_wp2_with (first | (go_at_call 18; with_reducible refine T3.out.mono ?_; rintro e w' ⟨rfl, rfl⟩))
    refine (put_ok M4 (by decide) 262143 r 1 (by decide) hr1 hr2 (by decide)).mono ?_
    rintro e w5 ⟨rfl, pg5, M5, _, _, b5⟩
    have HB5 := Aside0.mk (HB4.trans (b5 _ hm))
    clear M4 HB4 b5 T3 M5 hr1
    go_wp2_with (first | (go_at_call 20; with_reducible refine (get_bad (may_nil _ _)).mono ?_; rintro e w' ⟨rfl, rfl⟩) | (go_at_call 19; with_reducible refine (load_of (by decide) (peek_of (by decide) (aligned_nil _ _))).mono ?_; rintro e w' ⟨rfl, rfl⟩) | (go_at_call 24; with_reducible refine (forget_nil _).mono ?_; rintro e w' ⟨rfl, rfl⟩) | (go_at_call 25; with_reducible refine (copy_nil _).mono ?_; rintro e w' ⟨rfl, rfl⟩) | (go_at_call 14; with_reducible refine (trace_nil _).mono ?_; rintro e w' ⟨rfl, rfl⟩) | (go_at_call 15; with_reducible refine (bits_nil _).mono ?_; rintro e w' ⟨rfl, rfl⟩) | (go_at_call 18; with_reducible refine (store_of (by decide) (aligned_nil _ _)).mono ?_; rintro e w' ⟨rfl, rfl⟩) | (go_at_call 22; with_reducible refine (put_bad (may_nil _ _)).mono ?_; rintro e w' ⟨rfl, rfl⟩))
    go_ret
    exact ⟨rfl, HB5.out⟩
  · have hqe2 : ¬ (262144 : Int) < (q : Int) := by omega
    have T1 := get_bad (may_bad M2 (by decide) 262144 (by decide))
    have T2 := load_of (by decide) (peek_of (by decide) (aligned_bad M2 (by decide) 262144 (by decide)))
    rw [show ((262144 : Nat) : Int) = 262144 from rfl] at T1 T2
    replace T1 := Lib.hid T1
    replace T2 := Lib.hid T2
    go_wp2_with (first | (go_at_call 20; with_reducible refine T1.out.mono ?_; rintro e w' ⟨rfl, rfl⟩) | (go_at_call 19; with_reducible refine T2.out.mono ?_; rintro e w' ⟨rfl, rfl⟩))
    clear T1 T2
    refine (store_ok M2 (by decide) 262136 x (by decide) (by decide) hx (by decide)).mono ?_
    rintro e w3 ⟨rfl, pg3, M3, _, _, b3⟩
    have HB3 := HB2.trans (b3 _ hm)
    clear M2 HB2 b3
    go_wp2_with fail
    refine (load_ok M3 (by decide) 262136 (by decide) (by decide) (by decide)).mono ?_
    rw [show put (fun _ => 0) (262136 / 8) x (262136 / 8) = x from put_same _ _ _]
    rintro e w4 ⟨rfl, A4, c4, M4, _, b4⟩
    have HB4 := HB3.trans (b4 _ hm)
    clear M3 HB3 b4
    have T3 := store_of (x := (x : Int)) (by decide) (aligned_off M4 (by decide) (262136 + q % 7 + 1) (by show _ < 262144; omega) (by omega))
    have e3 : (((262136 + q % 7 + 1 : Nat)) : Int) = 262136 + (q : Int) % 7 + 1 := by omega
    rw [e3] at T3
    replace T3 := Lib.hid T3
    clear e3
    have hx7 : ∃ r : Nat, Fn.word_Put.f (put (fun _ => 0) (262136 / 8) x (262143 / 8) : Int) ((262143 % 8 : Nat) : Int) 1 = some (r : Int) ∧ r < 18446744073709551616 := by
      rw [show put (fun _ => 0) (262136 / 8) x (262143 / 8) = x from put_same _ _ _]
      exact ⟨_, NF.put (i := 7) (c := 1) hx (by decide) (by decide), NL.sN_lt (by decide) hx⟩
    obtain ⟨r, hr1, hr2⟩ := hx7
    go_wp2_with (first | (go_at_call 18; with_reducible refine T3.out.mono ?_; rintro e w' ⟨rfl, rfl⟩))
    refine (put_ok M4 (by decide) 262143 r 1 (by decide) hr1 hr2 (by decide)).mono ?_
    rintro e w5 ⟨rfl, pg5, M5, _, _, b5⟩
    have HB5 := Aside0.mk (HB4.trans (b5 _ hm))
    clear M4 HB4 b5 T3 M5 hr1
    go_wp2_with (first | (go_at_call 20; with_reducible refine (get_bad (may_nil _ _)).mono ?_; rintro e w' ⟨rfl, rfl⟩) | (go_at_call 19; with_reducible refine (load_of (by decide) (peek_of (by decide) (aligned_nil _ _))).mono ?_; rintro e w' ⟨rfl, rfl⟩) | (go_at_call 24; with_reducible refine (forget_nil _).mono ?_; rintro e w' ⟨rfl, rfl⟩) | (go_at_call 25; with_reducible refine (copy_nil _).mono ?_; rintro e w' ⟨rfl, rfl⟩) | (go_at_call 14; with_reducible refine (trace_nil _).mono ?_; rintro e w' ⟨rfl, rfl⟩) | (go_at_call 15; with_reducible refine (bits_nil _).mono ?_; rintro e w' ⟨rfl, rfl⟩) | (go_at_call 18; with_reducible refine (store_of (by decide) (aligned_nil _ _)).mono ?_; rintro e w' ⟨rfl, rfl⟩) | (go_at_call 22; with_reducible refine (put_bad (may_nil _ _)).mono ?_; rintro e w' ⟨rfl, rfl⟩))
    go_ret
    exact ⟨rfl, HB5.out⟩
set_option maxHeartbeats 2000000 in
set_option maxRecDepth 100000 in
theorem edges19 (b : Int) (q x : Nat) (w : World) (h0 : 0 ≤ b) (h1 : b < 256) (hr : b % 9 = 5) (hq : q < 18446744073709551616) (hx : x < 18446744073709551616) : Calls Try.prog 6 #[.int .u8 b, .int .u64 (q : Int), .int .u64 (x : Int)] w fun e w' => e = .returned (.bool true) ∧ Below w.heap.size w w' := by
  have core : ∀ (o : Nat), 524288 ≤ o → o < 18446744073709551616 → True := fun _ _ _ => trivial
  clear core
  go_enter Try.func6, Try.ntmps6
  go_wp2_with fail
  refine (awake_any w).mono ?_
  rintro e w1 ⟨rfl, B1⟩
  go_wp2_with fail
  refine (new_ok 19 w1 (by decide) (by decide)).mono ?_
  rintro e w2 ⟨rfl, M2, B2⟩
  have hm : w.heap.size ≤ w1.heap.size := B1.size
  have HB2 := below_step B1 B2
  clear B1 B2
  generalize w1.heap.size = m at *
  by_cases hqe : (524288 : Nat) < q
  · have hqe2 : (524288 : Int) < (q : Int) := by omega
    have T1 := get_bad (may_bad M2 (by decide) q (by show 524288 ≤ q; omega))
    have T2 := load_of (by decide) (peek_of (by decide) (aligned_bad M2 (by decide) q (by show 524288 ≤ q; omega)))
    replace T1 := Lib.hid T1
    replace T2 := Lib.hid T2
    go_wp2_with (first | (go_at_call 20; with_reducible refine T1.out.mono ?_; rintro e w' ⟨rfl, rfl⟩) | (go_at_call 19; with_reducible refine T2.out.mono ?_; rintro e w' ⟨rfl, rfl⟩))
    clear T1 T2
    refine (store_ok M2 (by decide) 524280 x (by decide) (by decide) hx (by decide)).mono ?_
    rintro e w3 ⟨rfl, pg3, M3, _, _, b3⟩
    have HB3 := HB2.trans (b3 _ hm)
    clear M2 HB2 b3
    go_wp2_with fail
    refine (load_ok M3 (by decide) 524280 (by decide) (by decide) (by decide)).mono ?_
    rw [show put (fun _ => 0) (524280 / 8) x (524280 / 8) = x from put_same _ _ _]
    rintro e w4 ⟨rfl, A4, c4, M4, _, b4⟩
    have HB4 := HB3.trans (b4 _ hm)
    clear M3 HB3 b4
    have T3 := store_of (x := (x : Int)) (by decide) (aligned_off M4 (by decide) (524280 + q % 7 + 1) (by show _ < 524288; omega) (by omega))
    have e3 : (((524280 + q % 7 + 1 : Nat)) : Int) = 524280 + (q : Int) % 7 + 1 := by omega
    rw [e3] at T3
    replace T3 := Lib.hid T3
    clear e3
    have hx7 : ∃ r : Nat, Fn.word_Put.f (put (fun _ => 0) (524280 / 8) x (524287 / 8) : Int) ((524287 % 8 : Nat) : Int) 1 = some (r : Int) ∧ r < 18446744073709551616 := by
      rw [show put (fun _ => 0) (524280 / 8) x (524287 / 8) = x from put_same _ _ _]
      exact ⟨_, NF.put (i := 7) (c := 1) hx (by decide) (by decide), NL.sN_lt (by decide) hx⟩
    obtain ⟨r, hr1, hr2⟩ := hx7
    go_wp2_with (first | (go_at_call 18; with_reducible refine T3.out.mono ?_; rintro e w' ⟨rfl, rfl⟩))
    refine (put_ok M4 (by decide) 524287 r 1 (by decide) hr1 hr2 (by decide)).mono ?_
    rintro e w5 ⟨rfl, pg5, M5, _, _, b5⟩
    have HB5 := Aside0.mk (HB4.trans (b5 _ hm))
    clear M4 HB4 b5 T3 M5 hr1
    go_wp2_with (first | (go_at_call 20; with_reducible refine (get_bad (may_nil _ _)).mono ?_; rintro e w' ⟨rfl, rfl⟩) | (go_at_call 19; with_reducible refine (load_of (by decide) (peek_of (by decide) (aligned_nil _ _))).mono ?_; rintro e w' ⟨rfl, rfl⟩) | (go_at_call 24; with_reducible refine (forget_nil _).mono ?_; rintro e w' ⟨rfl, rfl⟩) | (go_at_call 25; with_reducible refine (copy_nil _).mono ?_; rintro e w' ⟨rfl, rfl⟩) | (go_at_call 14; with_reducible refine (trace_nil _).mono ?_; rintro e w' ⟨rfl, rfl⟩) | (go_at_call 15; with_reducible refine (bits_nil _).mono ?_; rintro e w' ⟨rfl, rfl⟩) | (go_at_call 18; with_reducible refine (store_of (by decide) (aligned_nil _ _)).mono ?_; rintro e w' ⟨rfl, rfl⟩) | (go_at_call 22; with_reducible refine (put_bad (may_nil _ _)).mono ?_; rintro e w' ⟨rfl, rfl⟩))
    go_ret
    exact ⟨rfl, HB5.out⟩
  · have hqe2 : ¬ (524288 : Int) < (q : Int) := by omega
    have T1 := get_bad (may_bad M2 (by decide) 524288 (by decide))
    have T2 := load_of (by decide) (peek_of (by decide) (aligned_bad M2 (by decide) 524288 (by decide)))
    rw [show ((524288 : Nat) : Int) = 524288 from rfl] at T1 T2
    replace T1 := Lib.hid T1
    replace T2 := Lib.hid T2
    go_wp2_with (first | (go_at_call 20; with_reducible refine T1.out.mono ?_; rintro e w' ⟨rfl, rfl⟩) | (go_at_call 19; with_reducible refine T2.out.mono ?_; rintro e w' ⟨rfl, rfl⟩))
    clear T1 T2
    refine (store_ok M2 (by decide) 524280 x (by decide) (by decide) hx (by decide)).mono ?_
    rintro e w3 ⟨rfl, pg3, M3, _, _, b3⟩
    have HB3 := HB2.trans (b3 _ hm)
    clear M2 HB2 b3
    go_wp2_with fail
    refine (load_ok M3 (by decide) 524280 (by decide) (by decide) (by decide)).mono ?_
    rw [show put (fun _ => 0) (524280 / 8) x (524280 / 8) = x from put_same _ _ _]
    rintro e w4 ⟨rfl, A4, c4, M4, _, b4⟩
    have HB4 := HB3.trans (b4 _ hm)
    clear M3 HB3 b4
    have T3 := store_of (x := (x : Int)) (by decide) (aligned_off M4 (by decide) (524280 + q % 7 + 1) (by show _ < 524288; omega) (by omega))
    have e3 : (((524280 + q % 7 + 1 : Nat)) : Int) = 524280 + (q : Int) % 7 + 1 := by omega
    rw [e3] at T3
    replace T3 := Lib.hid T3
    clear e3
    have hx7 : ∃ r : Nat, Fn.word_Put.f (put (fun _ => 0) (524280 / 8) x (524287 / 8) : Int) ((524287 % 8 : Nat) : Int) 1 = some (r : Int) ∧ r < 18446744073709551616 := by
      rw [show put (fun _ => 0) (524280 / 8) x (524287 / 8) = x from put_same _ _ _]
      exact ⟨_, NF.put (i := 7) (c := 1) hx (by decide) (by decide), NL.sN_lt (by decide) hx⟩
    obtain ⟨r, hr1, hr2⟩ := hx7
    go_wp2_with (first | (go_at_call 18; with_reducible refine T3.out.mono ?_; rintro e w' ⟨rfl, rfl⟩))
    refine (put_ok M4 (by decide) 524287 r 1 (by decide) hr1 hr2 (by decide)).mono ?_
    rintro e w5 ⟨rfl, pg5, M5, _, _, b5⟩
    have HB5 := Aside0.mk (HB4.trans (b5 _ hm))
    clear M4 HB4 b5 T3 M5 hr1
    go_wp2_with (first | (go_at_call 20; with_reducible refine (get_bad (may_nil _ _)).mono ?_; rintro e w' ⟨rfl, rfl⟩) | (go_at_call 19; with_reducible refine (load_of (by decide) (peek_of (by decide) (aligned_nil _ _))).mono ?_; rintro e w' ⟨rfl, rfl⟩) | (go_at_call 24; with_reducible refine (forget_nil _).mono ?_; rintro e w' ⟨rfl, rfl⟩) | (go_at_call 25; with_reducible refine (copy_nil _).mono ?_; rintro e w' ⟨rfl, rfl⟩) | (go_at_call 14; with_reducible refine (trace_nil _).mono ?_; rintro e w' ⟨rfl, rfl⟩) | (go_at_call 15; with_reducible refine (bits_nil _).mono ?_; rintro e w' ⟨rfl, rfl⟩) | (go_at_call 18; with_reducible refine (store_of (by decide) (aligned_nil _ _)).mono ?_; rintro e w' ⟨rfl, rfl⟩) | (go_at_call 22; with_reducible refine (put_bad (may_nil _ _)).mono ?_; rintro e w' ⟨rfl, rfl⟩))
    go_ret
    exact ⟨rfl, HB5.out⟩
set_option maxHeartbeats 2000000 in
set_option maxRecDepth 100000 in
theorem edges20 (b : Int) (q x : Nat) (w : World) (h0 : 0 ≤ b) (h1 : b < 256) (hr : b % 9 = 6) (hq : q < 18446744073709551616) (hx : x < 18446744073709551616) : Calls Try.prog 6 #[.int .u8 b, .int .u64 (q : Int), .int .u64 (x : Int)] w fun e w' => e = .returned (.bool true) ∧ Below w.heap.size w w' := by
  have core : ∀ (o : Nat), 1048576 ≤ o → o < 18446744073709551616 → True := fun _ _ _ => trivial
  clear core
  go_enter Try.func6, Try.ntmps6
  go_wp2_with fail
  refine (awake_any w).mono ?_
  rintro e w1 ⟨rfl, B1⟩
  go_wp2_with fail
  refine (new_ok 20 w1 (by decide) (by decide)).mono ?_
  rintro e w2 ⟨rfl, M2, B2⟩
  have hm : w.heap.size ≤ w1.heap.size := B1.size
  have HB2 := below_step B1 B2
  clear B1 B2
  generalize w1.heap.size = m at *
  by_cases hqe : (1048576 : Nat) < q
  · have hqe2 : (1048576 : Int) < (q : Int) := by omega
    have T1 := get_bad (may_bad M2 (by decide) q (by show 1048576 ≤ q; omega))
    have T2 := load_of (by decide) (peek_of (by decide) (aligned_bad M2 (by decide) q (by show 1048576 ≤ q; omega)))
    replace T1 := Lib.hid T1
    replace T2 := Lib.hid T2
    go_wp2_with (first | (go_at_call 20; with_reducible refine T1.out.mono ?_; rintro e w' ⟨rfl, rfl⟩) | (go_at_call 19; with_reducible refine T2.out.mono ?_; rintro e w' ⟨rfl, rfl⟩))
    clear T1 T2
    refine (store_ok M2 (by decide) 1048568 x (by decide) (by decide) hx (by decide)).mono ?_
    rintro e w3 ⟨rfl, pg3, M3, _, _, b3⟩
    have HB3 := HB2.trans (b3 _ hm)
    clear M2 HB2 b3
    go_wp2_with fail
    refine (load_ok M3 (by decide) 1048568 (by decide) (by decide) (by decide)).mono ?_
    rw [show put (fun _ => 0) (1048568 / 8) x (1048568 / 8) = x from put_same _ _ _]
    rintro e w4 ⟨rfl, A4, c4, M4, _, b4⟩
    have HB4 := HB3.trans (b4 _ hm)
    clear M3 HB3 b4
    have T3 := store_of (x := (x : Int)) (by decide) (aligned_off M4 (by decide) (1048568 + q % 7 + 1) (by show _ < 1048576; omega) (by omega))
    have e3 : (((1048568 + q % 7 + 1 : Nat)) : Int) = 1048568 + (q : Int) % 7 + 1 := by omega
    rw [e3] at T3
    replace T3 := Lib.hid T3
    clear e3
    have hx7 : ∃ r : Nat, Fn.word_Put.f (put (fun _ => 0) (1048568 / 8) x (1048575 / 8) : Int) ((1048575 % 8 : Nat) : Int) 1 = some (r : Int) ∧ r < 18446744073709551616 := by
      rw [show put (fun _ => 0) (1048568 / 8) x (1048575 / 8) = x from put_same _ _ _]
      exact ⟨_, NF.put (i := 7) (c := 1) hx (by decide) (by decide), NL.sN_lt (by decide) hx⟩
    obtain ⟨r, hr1, hr2⟩ := hx7
    go_wp2_with (first | (go_at_call 18; with_reducible refine T3.out.mono ?_; rintro e w' ⟨rfl, rfl⟩))
    refine (put_ok M4 (by decide) 1048575 r 1 (by decide) hr1 hr2 (by decide)).mono ?_
    rintro e w5 ⟨rfl, pg5, M5, _, _, b5⟩
    have HB5 := Aside0.mk (HB4.trans (b5 _ hm))
    clear M4 HB4 b5 T3 M5 hr1
    go_wp2_with (first | (go_at_call 20; with_reducible refine (get_bad (may_nil _ _)).mono ?_; rintro e w' ⟨rfl, rfl⟩) | (go_at_call 19; with_reducible refine (load_of (by decide) (peek_of (by decide) (aligned_nil _ _))).mono ?_; rintro e w' ⟨rfl, rfl⟩) | (go_at_call 24; with_reducible refine (forget_nil _).mono ?_; rintro e w' ⟨rfl, rfl⟩) | (go_at_call 25; with_reducible refine (copy_nil _).mono ?_; rintro e w' ⟨rfl, rfl⟩) | (go_at_call 14; with_reducible refine (trace_nil _).mono ?_; rintro e w' ⟨rfl, rfl⟩) | (go_at_call 15; with_reducible refine (bits_nil _).mono ?_; rintro e w' ⟨rfl, rfl⟩) | (go_at_call 18; with_reducible refine (store_of (by decide) (aligned_nil _ _)).mono ?_; rintro e w' ⟨rfl, rfl⟩) | (go_at_call 22; with_reducible refine (put_bad (may_nil _ _)).mono ?_; rintro e w' ⟨rfl, rfl⟩))
    go_ret
    exact ⟨rfl, HB5.out⟩
  · have hqe2 : ¬ (1048576 : Int) < (q : Int) := by omega
    have T1 := get_bad (may_bad M2 (by decide) 1048576 (by decide))
    have T2 := load_of (by decide) (peek_of (by decide) (aligned_bad M2 (by decide) 1048576 (by decide)))
    rw [show ((1048576 : Nat) : Int) = 1048576 from rfl] at T1 T2
    replace T1 := Lib.hid T1
    replace T2 := Lib.hid T2
    go_wp2_with (first | (go_at_call 20; with_reducible refine T1.out.mono ?_; rintro e w' ⟨rfl, rfl⟩) | (go_at_call 19; with_reducible refine T2.out.mono ?_; rintro e w' ⟨rfl, rfl⟩))
    clear T1 T2
    refine (store_ok M2 (by decide) 1048568 x (by decide) (by decide) hx (by decide)).mono ?_
    rintro e w3 ⟨rfl, pg3, M3, _, _, b3⟩
    have HB3 := HB2.trans (b3 _ hm)
    clear M2 HB2 b3
    go_wp2_with fail
    refine (load_ok M3 (by decide) 1048568 (by decide) (by decide) (by decide)).mono ?_
    rw [show put (fun _ => 0) (1048568 / 8) x (1048568 / 8) = x from put_same _ _ _]
    rintro e w4 ⟨rfl, A4, c4, M4, _, b4⟩
    have HB4 := HB3.trans (b4 _ hm)
    clear M3 HB3 b4
    have T3 := store_of (x := (x : Int)) (by decide) (aligned_off M4 (by decide) (1048568 + q % 7 + 1) (by show _ < 1048576; omega) (by omega))
    have e3 : (((1048568 + q % 7 + 1 : Nat)) : Int) = 1048568 + (q : Int) % 7 + 1 := by omega
    rw [e3] at T3
    replace T3 := Lib.hid T3
    clear e3
    have hx7 : ∃ r : Nat, Fn.word_Put.f (put (fun _ => 0) (1048568 / 8) x (1048575 / 8) : Int) ((1048575 % 8 : Nat) : Int) 1 = some (r : Int) ∧ r < 18446744073709551616 := by
      rw [show put (fun _ => 0) (1048568 / 8) x (1048575 / 8) = x from put_same _ _ _]
      exact ⟨_, NF.put (i := 7) (c := 1) hx (by decide) (by decide), NL.sN_lt (by decide) hx⟩
    obtain ⟨r, hr1, hr2⟩ := hx7
    go_wp2_with (first | (go_at_call 18; with_reducible refine T3.out.mono ?_; rintro e w' ⟨rfl, rfl⟩))
    refine (put_ok M4 (by decide) 1048575 r 1 (by decide) hr1 hr2 (by decide)).mono ?_
    rintro e w5 ⟨rfl, pg5, M5, _, _, b5⟩
    have HB5 := Aside0.mk (HB4.trans (b5 _ hm))
    clear M4 HB4 b5 T3 M5 hr1
    go_wp2_with (first | (go_at_call 20; with_reducible refine (get_bad (may_nil _ _)).mono ?_; rintro e w' ⟨rfl, rfl⟩) | (go_at_call 19; with_reducible refine (load_of (by decide) (peek_of (by decide) (aligned_nil _ _))).mono ?_; rintro e w' ⟨rfl, rfl⟩) | (go_at_call 24; with_reducible refine (forget_nil _).mono ?_; rintro e w' ⟨rfl, rfl⟩) | (go_at_call 25; with_reducible refine (copy_nil _).mono ?_; rintro e w' ⟨rfl, rfl⟩) | (go_at_call 14; with_reducible refine (trace_nil _).mono ?_; rintro e w' ⟨rfl, rfl⟩) | (go_at_call 15; with_reducible refine (bits_nil _).mono ?_; rintro e w' ⟨rfl, rfl⟩) | (go_at_call 18; with_reducible refine (store_of (by decide) (aligned_nil _ _)).mono ?_; rintro e w' ⟨rfl, rfl⟩) | (go_at_call 22; with_reducible refine (put_bad (may_nil _ _)).mono ?_; rintro e w' ⟨rfl, rfl⟩))
    go_ret
    exact ⟨rfl, HB5.out⟩
set_option maxHeartbeats 2000000 in
set_option maxRecDepth 100000 in
theorem edges21 (b : Int) (q x : Nat) (w : World) (h0 : 0 ≤ b) (h1 : b < 256) (hr : b % 9 = 7) (hq : q < 18446744073709551616) (hx : x < 18446744073709551616) : Calls Try.prog 6 #[.int .u8 b, .int .u64 (q : Int), .int .u64 (x : Int)] w fun e w' => e = .returned (.bool true) ∧ Below w.heap.size w w' := by
  have core : ∀ (o : Nat), 2097152 ≤ o → o < 18446744073709551616 → True := fun _ _ _ => trivial
  clear core
  go_enter Try.func6, Try.ntmps6
  go_wp2_with fail
  refine (awake_any w).mono ?_
  rintro e w1 ⟨rfl, B1⟩
  go_wp2_with fail
  refine (new_ok 21 w1 (by decide) (by decide)).mono ?_
  rintro e w2 ⟨rfl, M2, B2⟩
  have hm : w.heap.size ≤ w1.heap.size := B1.size
  have HB2 := below_step B1 B2
  clear B1 B2
  generalize w1.heap.size = m at *
  by_cases hqe : (2097152 : Nat) < q
  · have hqe2 : (2097152 : Int) < (q : Int) := by omega
    have T1 := get_bad (may_bad M2 (by decide) q (by show 2097152 ≤ q; omega))
    have T2 := load_of (by decide) (peek_of (by decide) (aligned_bad M2 (by decide) q (by show 2097152 ≤ q; omega)))
    replace T1 := Lib.hid T1
    replace T2 := Lib.hid T2
    go_wp2_with (first | (go_at_call 20; with_reducible refine T1.out.mono ?_; rintro e w' ⟨rfl, rfl⟩) | (go_at_call 19; with_reducible refine T2.out.mono ?_; rintro e w' ⟨rfl, rfl⟩))
    clear T1 T2
    refine (store_ok M2 (by decide) 2097144 x (by decide) (by decide) hx (by decide)).mono ?_
    rintro e w3 ⟨rfl, pg3, M3, _, _, b3⟩
    have HB3 := HB2.trans (b3 _ hm)
    clear M2 HB2 b3
    go_wp2_with fail
    refine (load_ok M3 (by decide) 2097144 (by decide) (by decide) (by decide)).mono ?_
    rw [show put (fun _ => 0) (2097144 / 8) x (2097144 / 8) = x from put_same _ _ _]
    rintro e w4 ⟨rfl, A4, c4, M4, _, b4⟩
    have HB4 := HB3.trans (b4 _ hm)
    clear M3 HB3 b4
    have T3 := store_of (x := (x : Int)) (by decide) (aligned_off M4 (by decide) (2097144 + q % 7 + 1) (by show _ < 2097152; omega) (by omega))
    have e3 : (((2097144 + q % 7 + 1 : Nat)) : Int) = 2097144 + (q : Int) % 7 + 1 := by omega
    rw [e3] at T3
    replace T3 := Lib.hid T3
    clear e3
    have hx7 : ∃ r : Nat, Fn.word_Put.f (put (fun _ => 0) (2097144 / 8) x (2097151 / 8) : Int) ((2097151 % 8 : Nat) : Int) 1 = some (r : Int) ∧ r < 18446744073709551616 := by
      rw [show put (fun _ => 0) (2097144 / 8) x (2097151 / 8) = x from put_same _ _ _]
      exact ⟨_, NF.put (i := 7) (c := 1) hx (by decide) (by decide), NL.sN_lt (by decide) hx⟩
    obtain ⟨r, hr1, hr2⟩ := hx7
    go_wp2_with (first | (go_at_call 18; with_reducible refine T3.out.mono ?_; rintro e w' ⟨rfl, rfl⟩))
    refine (put_ok M4 (by decide) 2097151 r 1 (by decide) hr1 hr2 (by decide)).mono ?_
    rintro e w5 ⟨rfl, pg5, M5, _, _, b5⟩
    have HB5 := Aside0.mk (HB4.trans (b5 _ hm))
    clear M4 HB4 b5 T3 M5 hr1
    go_wp2_with (first | (go_at_call 20; with_reducible refine (get_bad (may_nil _ _)).mono ?_; rintro e w' ⟨rfl, rfl⟩) | (go_at_call 19; with_reducible refine (load_of (by decide) (peek_of (by decide) (aligned_nil _ _))).mono ?_; rintro e w' ⟨rfl, rfl⟩) | (go_at_call 24; with_reducible refine (forget_nil _).mono ?_; rintro e w' ⟨rfl, rfl⟩) | (go_at_call 25; with_reducible refine (copy_nil _).mono ?_; rintro e w' ⟨rfl, rfl⟩) | (go_at_call 14; with_reducible refine (trace_nil _).mono ?_; rintro e w' ⟨rfl, rfl⟩) | (go_at_call 15; with_reducible refine (bits_nil _).mono ?_; rintro e w' ⟨rfl, rfl⟩) | (go_at_call 18; with_reducible refine (store_of (by decide) (aligned_nil _ _)).mono ?_; rintro e w' ⟨rfl, rfl⟩) | (go_at_call 22; with_reducible refine (put_bad (may_nil _ _)).mono ?_; rintro e w' ⟨rfl, rfl⟩))
    go_ret
    exact ⟨rfl, HB5.out⟩
  · have hqe2 : ¬ (2097152 : Int) < (q : Int) := by omega
    have T1 := get_bad (may_bad M2 (by decide) 2097152 (by decide))
    have T2 := load_of (by decide) (peek_of (by decide) (aligned_bad M2 (by decide) 2097152 (by decide)))
    rw [show ((2097152 : Nat) : Int) = 2097152 from rfl] at T1 T2
    replace T1 := Lib.hid T1
    replace T2 := Lib.hid T2
    go_wp2_with (first | (go_at_call 20; with_reducible refine T1.out.mono ?_; rintro e w' ⟨rfl, rfl⟩) | (go_at_call 19; with_reducible refine T2.out.mono ?_; rintro e w' ⟨rfl, rfl⟩))
    clear T1 T2
    refine (store_ok M2 (by decide) 2097144 x (by decide) (by decide) hx (by decide)).mono ?_
    rintro e w3 ⟨rfl, pg3, M3, _, _, b3⟩
    have HB3 := HB2.trans (b3 _ hm)
    clear M2 HB2 b3
    go_wp2_with fail
    refine (load_ok M3 (by decide) 2097144 (by decide) (by decide) (by decide)).mono ?_
    rw [show put (fun _ => 0) (2097144 / 8) x (2097144 / 8) = x from put_same _ _ _]
    rintro e w4 ⟨rfl, A4, c4, M4, _, b4⟩
    have HB4 := HB3.trans (b4 _ hm)
    clear M3 HB3 b4
    have T3 := store_of (x := (x : Int)) (by decide) (aligned_off M4 (by decide) (2097144 + q % 7 + 1) (by show _ < 2097152; omega) (by omega))
    have e3 : (((2097144 + q % 7 + 1 : Nat)) : Int) = 2097144 + (q : Int) % 7 + 1 := by omega
    rw [e3] at T3
    replace T3 := Lib.hid T3
    clear e3
    have hx7 : ∃ r : Nat, Fn.word_Put.f (put (fun _ => 0) (2097144 / 8) x (2097151 / 8) : Int) ((2097151 % 8 : Nat) : Int) 1 = some (r : Int) ∧ r < 18446744073709551616 := by
      rw [show put (fun _ => 0) (2097144 / 8) x (2097151 / 8) = x from put_same _ _ _]
      exact ⟨_, NF.put (i := 7) (c := 1) hx (by decide) (by decide), NL.sN_lt (by decide) hx⟩
    obtain ⟨r, hr1, hr2⟩ := hx7
    go_wp2_with (first | (go_at_call 18; with_reducible refine T3.out.mono ?_; rintro e w' ⟨rfl, rfl⟩))
    refine (put_ok M4 (by decide) 2097151 r 1 (by decide) hr1 hr2 (by decide)).mono ?_
    rintro e w5 ⟨rfl, pg5, M5, _, _, b5⟩
    have HB5 := Aside0.mk (HB4.trans (b5 _ hm))
    clear M4 HB4 b5 T3 M5 hr1
    go_wp2_with (first | (go_at_call 20; with_reducible refine (get_bad (may_nil _ _)).mono ?_; rintro e w' ⟨rfl, rfl⟩) | (go_at_call 19; with_reducible refine (load_of (by decide) (peek_of (by decide) (aligned_nil _ _))).mono ?_; rintro e w' ⟨rfl, rfl⟩) | (go_at_call 24; with_reducible refine (forget_nil _).mono ?_; rintro e w' ⟨rfl, rfl⟩) | (go_at_call 25; with_reducible refine (copy_nil _).mono ?_; rintro e w' ⟨rfl, rfl⟩) | (go_at_call 14; with_reducible refine (trace_nil _).mono ?_; rintro e w' ⟨rfl, rfl⟩) | (go_at_call 15; with_reducible refine (bits_nil _).mono ?_; rintro e w' ⟨rfl, rfl⟩) | (go_at_call 18; with_reducible refine (store_of (by decide) (aligned_nil _ _)).mono ?_; rintro e w' ⟨rfl, rfl⟩) | (go_at_call 22; with_reducible refine (put_bad (may_nil _ _)).mono ?_; rintro e w' ⟨rfl, rfl⟩))
    go_ret
    exact ⟨rfl, HB5.out⟩
set_option maxHeartbeats 2000000 in
set_option maxRecDepth 100000 in
theorem edges22 (b : Int) (q x : Nat) (w : World) (h0 : 0 ≤ b) (h1 : b < 256) (hr : b % 9 = 8) (hq : q < 18446744073709551616) (hx : x < 18446744073709551616) : Calls Try.prog 6 #[.int .u8 b, .int .u64 (q : Int), .int .u64 (x : Int)] w fun e w' => e = .returned (.bool true) ∧ Below w.heap.size w w' := by
  have core : ∀ (o : Nat), 4194304 ≤ o → o < 18446744073709551616 → True := fun _ _ _ => trivial
  clear core
  go_enter Try.func6, Try.ntmps6
  go_wp2_with fail
  refine (awake_any w).mono ?_
  rintro e w1 ⟨rfl, B1⟩
  go_wp2_with fail
  refine (new_ok 22 w1 (by decide) (by decide)).mono ?_
  rintro e w2 ⟨rfl, M2, B2⟩
  have hm : w.heap.size ≤ w1.heap.size := B1.size
  have HB2 := below_step B1 B2
  clear B1 B2
  generalize w1.heap.size = m at *
  by_cases hqe : (4194304 : Nat) < q
  · have hqe2 : (4194304 : Int) < (q : Int) := by omega
    have T1 := get_bad (may_bad M2 (by decide) q (by show 4194304 ≤ q; omega))
    have T2 := load_of (by decide) (peek_of (by decide) (aligned_bad M2 (by decide) q (by show 4194304 ≤ q; omega)))
    replace T1 := Lib.hid T1
    replace T2 := Lib.hid T2
    go_wp2_with (first | (go_at_call 20; with_reducible refine T1.out.mono ?_; rintro e w' ⟨rfl, rfl⟩) | (go_at_call 19; with_reducible refine T2.out.mono ?_; rintro e w' ⟨rfl, rfl⟩))
    clear T1 T2
    refine (store_ok M2 (by decide) 4194296 x (by decide) (by decide) hx (by decide)).mono ?_
    rintro e w3 ⟨rfl, pg3, M3, _, _, b3⟩
    have HB3 := HB2.trans (b3 _ hm)
    clear M2 HB2 b3
    go_wp2_with fail
    refine (load_ok M3 (by decide) 4194296 (by decide) (by decide) (by decide)).mono ?_
    rw [show put (fun _ => 0) (4194296 / 8) x (4194296 / 8) = x from put_same _ _ _]
    rintro e w4 ⟨rfl, A4, c4, M4, _, b4⟩
    have HB4 := HB3.trans (b4 _ hm)
    clear M3 HB3 b4
    have T3 := store_of (x := (x : Int)) (by decide) (aligned_off M4 (by decide) (4194296 + q % 7 + 1) (by show _ < 4194304; omega) (by omega))
    have e3 : (((4194296 + q % 7 + 1 : Nat)) : Int) = 4194296 + (q : Int) % 7 + 1 := by omega
    rw [e3] at T3
    replace T3 := Lib.hid T3
    clear e3
    have hx7 : ∃ r : Nat, Fn.word_Put.f (put (fun _ => 0) (4194296 / 8) x (4194303 / 8) : Int) ((4194303 % 8 : Nat) : Int) 1 = some (r : Int) ∧ r < 18446744073709551616 := by
      rw [show put (fun _ => 0) (4194296 / 8) x (4194303 / 8) = x from put_same _ _ _]
      exact ⟨_, NF.put (i := 7) (c := 1) hx (by decide) (by decide), NL.sN_lt (by decide) hx⟩
    obtain ⟨r, hr1, hr2⟩ := hx7
    go_wp2_with (first | (go_at_call 18; with_reducible refine T3.out.mono ?_; rintro e w' ⟨rfl, rfl⟩))
    refine (put_ok M4 (by decide) 4194303 r 1 (by decide) hr1 hr2 (by decide)).mono ?_
    rintro e w5 ⟨rfl, pg5, M5, _, _, b5⟩
    have HB5 := Aside0.mk (HB4.trans (b5 _ hm))
    clear M4 HB4 b5 T3 M5 hr1
    go_wp2_with (first | (go_at_call 20; with_reducible refine (get_bad (may_nil _ _)).mono ?_; rintro e w' ⟨rfl, rfl⟩) | (go_at_call 19; with_reducible refine (load_of (by decide) (peek_of (by decide) (aligned_nil _ _))).mono ?_; rintro e w' ⟨rfl, rfl⟩) | (go_at_call 24; with_reducible refine (forget_nil _).mono ?_; rintro e w' ⟨rfl, rfl⟩) | (go_at_call 25; with_reducible refine (copy_nil _).mono ?_; rintro e w' ⟨rfl, rfl⟩) | (go_at_call 14; with_reducible refine (trace_nil _).mono ?_; rintro e w' ⟨rfl, rfl⟩) | (go_at_call 15; with_reducible refine (bits_nil _).mono ?_; rintro e w' ⟨rfl, rfl⟩) | (go_at_call 18; with_reducible refine (store_of (by decide) (aligned_nil _ _)).mono ?_; rintro e w' ⟨rfl, rfl⟩) | (go_at_call 22; with_reducible refine (put_bad (may_nil _ _)).mono ?_; rintro e w' ⟨rfl, rfl⟩))
    go_ret
    exact ⟨rfl, HB5.out⟩
  · have hqe2 : ¬ (4194304 : Int) < (q : Int) := by omega
    have T1 := get_bad (may_bad M2 (by decide) 4194304 (by decide))
    have T2 := load_of (by decide) (peek_of (by decide) (aligned_bad M2 (by decide) 4194304 (by decide)))
    rw [show ((4194304 : Nat) : Int) = 4194304 from rfl] at T1 T2
    replace T1 := Lib.hid T1
    replace T2 := Lib.hid T2
    go_wp2_with (first | (go_at_call 20; with_reducible refine T1.out.mono ?_; rintro e w' ⟨rfl, rfl⟩) | (go_at_call 19; with_reducible refine T2.out.mono ?_; rintro e w' ⟨rfl, rfl⟩))
    clear T1 T2
    refine (store_ok M2 (by decide) 4194296 x (by decide) (by decide) hx (by decide)).mono ?_
    rintro e w3 ⟨rfl, pg3, M3, _, _, b3⟩
    have HB3 := HB2.trans (b3 _ hm)
    clear M2 HB2 b3
    go_wp2_with fail
    refine (load_ok M3 (by decide) 4194296 (by decide) (by decide) (by decide)).mono ?_
    rw [show put (fun _ => 0) (4194296 / 8) x (4194296 / 8) = x from put_same _ _ _]
    rintro e w4 ⟨rfl, A4, c4, M4, _, b4⟩
    have HB4 := HB3.trans (b4 _ hm)
    clear M3 HB3 b4
    have T3 := store_of (x := (x : Int)) (by decide) (aligned_off M4 (by decide) (4194296 + q % 7 + 1) (by show _ < 4194304; omega) (by omega))
    have e3 : (((4194296 + q % 7 + 1 : Nat)) : Int) = 4194296 + (q : Int) % 7 + 1 := by omega
    rw [e3] at T3
    replace T3 := Lib.hid T3
    clear e3
    have hx7 : ∃ r : Nat, Fn.word_Put.f (put (fun _ => 0) (4194296 / 8) x (4194303 / 8) : Int) ((4194303 % 8 : Nat) : Int) 1 = some (r : Int) ∧ r < 18446744073709551616 := by
      rw [show put (fun _ => 0) (4194296 / 8) x (4194303 / 8) = x from put_same _ _ _]
      exact ⟨_, NF.put (i := 7) (c := 1) hx (by decide) (by decide), NL.sN_lt (by decide) hx⟩
    obtain ⟨r, hr1, hr2⟩ := hx7
    go_wp2_with (first | (go_at_call 18; with_reducible refine T3.out.mono ?_; rintro e w' ⟨rfl, rfl⟩))
    refine (put_ok M4 (by decide) 4194303 r 1 (by decide) hr1 hr2 (by decide)).mono ?_
    rintro e w5 ⟨rfl, pg5, M5, _, _, b5⟩
    have HB5 := Aside0.mk (HB4.trans (b5 _ hm))
    clear M4 HB4 b5 T3 M5 hr1
    go_wp2_with (first | (go_at_call 20; with_reducible refine (get_bad (may_nil _ _)).mono ?_; rintro e w' ⟨rfl, rfl⟩) | (go_at_call 19; with_reducible refine (load_of (by decide) (peek_of (by decide) (aligned_nil _ _))).mono ?_; rintro e w' ⟨rfl, rfl⟩) | (go_at_call 24; with_reducible refine (forget_nil _).mono ?_; rintro e w' ⟨rfl, rfl⟩) | (go_at_call 25; with_reducible refine (copy_nil _).mono ?_; rintro e w' ⟨rfl, rfl⟩) | (go_at_call 14; with_reducible refine (trace_nil _).mono ?_; rintro e w' ⟨rfl, rfl⟩) | (go_at_call 15; with_reducible refine (bits_nil _).mono ?_; rintro e w' ⟨rfl, rfl⟩) | (go_at_call 18; with_reducible refine (store_of (by decide) (aligned_nil _ _)).mono ?_; rintro e w' ⟨rfl, rfl⟩) | (go_at_call 22; with_reducible refine (put_bad (may_nil _ _)).mono ?_; rintro e w' ⟨rfl, rfl⟩))
    go_ret
    exact ⟨rfl, HB5.out⟩
theorem MemEdges (b q x : Int) (w : World) (wb : (Lit.int .u8 b).wf = true) (wq : (Lit.int .u64 q).wf = true) (wx : (Lit.int .u64 x).wf = true) : Calls Try.prog 6 #[.int .u8 b, .int .u64 q, .int .u64 x] w fun e w' => e = .returned (.bool true) ∧ Below w.heap.size w w' := by
  obtain ⟨h0, h1⟩ := u8_lit wb
  obtain ⟨q0, q1⟩ := u64_lit wq
  obtain ⟨x0, x1⟩ := u64_lit wx
  obtain ⟨q, rfl⟩ : ∃ c : Nat, q = (c : Int) := ⟨q.toNat, by omega⟩
  obtain ⟨x, rfl⟩ : ∃ c : Nat, x = (c : Int) := ⟨x.toNat, by omega⟩
  have h : b % 9 = 0 ∨ b % 9 = 1 ∨ b % 9 = 2 ∨ b % 9 = 3 ∨ b % 9 = 4 ∨ b % 9 = 5 ∨ b % 9 = 6 ∨ b % 9 = 7 ∨ b % 9 = 8 := by omega
  rcases h with h | h | h | h | h | h | h | h | h
  · exact edges14 b q x w h0 h1 h (by omega) (by omega)
  · exact edges15 b q x w h0 h1 h (by omega) (by omega)
  · exact edges16 b q x w h0 h1 h (by omega) (by omega)
  · exact edges17 b q x w h0 h1 h (by omega) (by omega)
  · exact edges18 b q x w h0 h1 h (by omega) (by omega)
  · exact edges19 b q x w h0 h1 h (by omega) (by omega)
  · exact edges20 b q x w h0 h1 h (by omega) (by omega)
  · exact edges21 b q x w h0 h1 h (by omega) (by omega)
  · exact edges22 b q x w h0 h1 h (by omega) (by omega)
end Go.Proofs.Ytpkffpcdmglleaa.Pu
