/- What is no frame is never taken, and can't be given; frames that are nil are none; nor are there any of too few bits, or too many. No condition. -/
import Derived.Test.YtekfcbgndjmhnaaFa
set_option linter.unusedVariables false
set_option linter.unusedSimpArgs false
namespace Go.Proofs.Ytekfcbgndjmhnaa.Pu
open Go.RowKit Go.Maps Go.Proofs.Ytekfcbgndjmhnaa.FrP Go.Proofs.Ytekfcbgndjmhnaa.Fr Go.Proofs.YtekfcbgndjmhnaaW.PrintWords
theorem own_only {a : Nat} (h : a ≠ 4096) : tk (marks 7 1) a = false := by
  cases he : tk (marks 7 1) a with
  | false => rfl
  | true =>
    obtain ⟨i, hi, rfl, hg⟩ := tk_form he
    rw [marks_length] at hi
    rw [marks_getD hi] at hg
    simp at hg
    omega
set_option maxHeartbeats 1000000 in
set_option maxRecDepth 100000 in
theorem none_ (a : Nat) (b : Int) (w : World) (h1 : a < 18446744073709551616) (hb0 : -9223372036854775808 ≤ b) (hb1 : b < 9223372036854775808) :
    Calls Try.prog 6 #[.int .u64 (a : Int), .int .i64 b] w fun e w' => e = .returned (.bool true) ∧ Below w.heap.size w w' := by
  go_enter Try.func6, Try.ntmps6
  go_wp2_with fail
  refine (awake_any w).mono ?_
  rintro e w1 ⟨rfl, B1⟩
  go_wp2_with fail
  refine (new_ok 15 w1 (by decide) (by decide)).mono ?_
  rintro e w2 ⟨rfl, F2, B2⟩
  replace F2 : FrAt w2 (w1.heap.size + 1) w1.heap.size (marks 7 0) := by rw [marks_zero]; exact F2
  have hm : w.heap.size ≤ w1.heap.size := B1.size
  have HB := below_step B1 B2
  generalize w1.heap.size = m at *
  clear B1 B2
  go_wp2_with fail
  refine (take_some F2 0 (by rw [marks_length]; omega) (marks_off (by omega) (by omega)) (fun j hj => by omega)).mono ?_
  rw [marks_set (by omega)]
  rintro e w3 ⟨rfl, F3, G3⟩
  have HB3 := Fr.step HB G3 hm
  clear F2 HB G3
  go_wp2_with fail
  refine (take_nil w3).mono ?_
  rintro e w' ⟨rfl, rfl⟩
  by_cases hb : 14 ≤ b ∧ b ≤ 22
  · obtain ⟨hb1, hb2⟩ := hb
    obtain ⟨k, rfl⟩ : ∃ k : Nat, b = (k : Int) := ⟨b.toNat, by omega⟩
    have hk1 : ¬ (k : Int) < 14 := by omega
    have hk2 : ¬ (22 : Int) < k := by omega
    go_wp2_with fail
    refine (new_ok k w3 (by omega) (by omega)).mono ?_
    rintro e w4 ⟨rfl, -, B4⟩
    have F4 := F3.below B4
    have HB4 := Aside0.mk (below_step HB3 B4)
    have T1 := taken_any F4 a h1
    clear F3 HB3 B4
    by_cases ha : a = 4096
    · subst ha
      have T2 := Lib.hid (give_ok F4 0 (by rw [marks_length]; omega) (marks_on (by omega) (by omega)))
      rw [show ((((0 + 1) * 4096 : Nat)) : Int) = 4096 from rfl] at T2
      have q : tk (marks 7 1) 4096 = true := by decide
      rw [q, show (((4096 : Nat)) : Int) = 4096 from rfl] at T1
      have T1 := Lib.hid T1
      clear F4
      go_wp2_with (first | (go_at_call 16; with_reducible refine T1.out.mono ?_; rintro e w' ⟨rfl, rfl⟩))
      refine T2.out.mono ?_
      rintro e w5 ⟨rfl, -, G5⟩
      have HB5 := Fr.step HB4.out G5 hm
      clear T1 T2 HB4 G5
      go_wp2_with (first | (go_at_call 16; with_reducible refine T1.out.mono ?_; rintro e w' ⟨rfl, rfl⟩) | (go_at_call 14; with_reducible refine (give_nil _ _).mono ?_; rintro e w' ⟨rfl, rfl⟩) | (go_at_call 18; with_reducible refine (free_nil _).mono ?_; rintro e w' ⟨rfl, rfl⟩) | (go_at_call 16; with_reducible refine (taken_nil _ _).mono ?_; rintro e w' ⟨rfl, rfl⟩) | (go_at_call 20; with_reducible refine (room_nil _).mono ?_; rintro e w' ⟨rfl, rfl⟩))
      go_ret
      exact ⟨by simp <;> omega, HB5⟩
    · have hf := own_only ha
      rw [hf] at T1
      have T1 := Lib.hid T1
      have T2 := Lib.hid (give_bad F4 a h1 hf)
      clear hf F4
      have ha2 : ¬ (a : Int) = 4096 := by omega
      have ha3 : ((a : Int) == 4096) = false := by rw [beq_eq_false_iff_ne]; exact ha2
      go_wp2_with (first | (go_at_call 16; with_reducible refine T1.out.mono ?_; rintro e w' ⟨rfl, rfl⟩) | (go_at_call 14; with_reducible refine T2.out.mono ?_; rintro e w' ⟨rfl, rfl⟩) | (go_at_call 14; with_reducible refine (give_nil _ _).mono ?_; rintro e w' ⟨rfl, rfl⟩) | (go_at_call 18; with_reducible refine (free_nil _).mono ?_; rintro e w' ⟨rfl, rfl⟩) | (go_at_call 16; with_reducible refine (taken_nil _ _).mono ?_; rintro e w' ⟨rfl, rfl⟩) | (go_at_call 20; with_reducible refine (room_nil _).mono ?_; rintro e w' ⟨rfl, rfl⟩))
      go_ret
      exact ⟨by simp [ha3] <;> omega, HB4.out⟩
  · have hk : b < 14 ∨ 22 < b := by omega
    go_wp2_with fail
    refine (new_bad b w3 hk).mono ?_
    rintro e w4 ⟨rfl, rfl⟩
    have F4 := F3
    have HB4 := Aside0.mk HB3
    have T1 := taken_any F4 a h1
    clear F3 HB3
    rcases hk with hk | hk
    · by_cases ha : a = 4096
      · subst ha
        have T2 := Lib.hid (give_ok F4 0 (by rw [marks_length]; omega) (marks_on (by omega) (by omega)))
        rw [show ((((0 + 1) * 4096 : Nat)) : Int) = 4096 from rfl] at T2
        have q : tk (marks 7 1) 4096 = true := by decide
        rw [q, show (((4096 : Nat)) : Int) = 4096 from rfl] at T1
        have T1 := Lib.hid T1
        clear F4
        go_wp2_with (first | (go_at_call 16; with_reducible refine T1.out.mono ?_; rintro e w' ⟨rfl, rfl⟩))
        refine T2.out.mono ?_
        rintro e w5 ⟨rfl, -, G5⟩
        have HB5 := Fr.step HB4.out G5 hm
        clear T1 T2 HB4 G5
        go_wp2_with (first | (go_at_call 16; with_reducible refine T1.out.mono ?_; rintro e w' ⟨rfl, rfl⟩) | (go_at_call 14; with_reducible refine (give_nil _ _).mono ?_; rintro e w' ⟨rfl, rfl⟩) | (go_at_call 18; with_reducible refine (free_nil _).mono ?_; rintro e w' ⟨rfl, rfl⟩) | (go_at_call 16; with_reducible refine (taken_nil _ _).mono ?_; rintro e w' ⟨rfl, rfl⟩) | (go_at_call 20; with_reducible refine (room_nil _).mono ?_; rintro e w' ⟨rfl, rfl⟩))
        go_ret
        exact ⟨by simp <;> omega, HB5⟩
      · have hf := own_only ha
        rw [hf] at T1
        have T1 := Lib.hid T1
        have T2 := Lib.hid (give_bad F4 a h1 hf)
        clear hf F4
        have ha2 : ¬ (a : Int) = 4096 := by omega
        have ha3 : ((a : Int) == 4096) = false := by rw [beq_eq_false_iff_ne]; exact ha2
        go_wp2_with (first | (go_at_call 16; with_reducible refine T1.out.mono ?_; rintro e w' ⟨rfl, rfl⟩) | (go_at_call 14; with_reducible refine T2.out.mono ?_; rintro e w' ⟨rfl, rfl⟩) | (go_at_call 14; with_reducible refine (give_nil _ _).mono ?_; rintro e w' ⟨rfl, rfl⟩) | (go_at_call 18; with_reducible refine (free_nil _).mono ?_; rintro e w' ⟨rfl, rfl⟩) | (go_at_call 16; with_reducible refine (taken_nil _ _).mono ?_; rintro e w' ⟨rfl, rfl⟩) | (go_at_call 20; with_reducible refine (room_nil _).mono ?_; rintro e w' ⟨rfl, rfl⟩))
        go_ret
        exact ⟨by simp [ha3] <;> omega, HB4.out⟩
    · have hk4 : ¬ b < 14 := by omega
      by_cases ha : a = 4096
      · subst ha
        have T2 := Lib.hid (give_ok F4 0 (by rw [marks_length]; omega) (marks_on (by omega) (by omega)))
        rw [show ((((0 + 1) * 4096 : Nat)) : Int) = 4096 from rfl] at T2
        have q : tk (marks 7 1) 4096 = true := by decide
        rw [q, show (((4096 : Nat)) : Int) = 4096 from rfl] at T1
        have T1 := Lib.hid T1
        clear F4
        go_wp2_with (first | (go_at_call 16; with_reducible refine T1.out.mono ?_; rintro e w' ⟨rfl, rfl⟩))
        refine T2.out.mono ?_
        rintro e w5 ⟨rfl, -, G5⟩
        have HB5 := Fr.step HB4.out G5 hm
        clear T1 T2 HB4 G5
        go_wp2_with (first | (go_at_call 16; with_reducible refine T1.out.mono ?_; rintro e w' ⟨rfl, rfl⟩) | (go_at_call 14; with_reducible refine (give_nil _ _).mono ?_; rintro e w' ⟨rfl, rfl⟩) | (go_at_call 18; with_reducible refine (free_nil _).mono ?_; rintro e w' ⟨rfl, rfl⟩) | (go_at_call 16; with_reducible refine (taken_nil _ _).mono ?_; rintro e w' ⟨rfl, rfl⟩) | (go_at_call 20; with_reducible refine (room_nil _).mono ?_; rintro e w' ⟨rfl, rfl⟩))
        go_ret
        exact ⟨by simp <;> omega, HB5⟩
      · have hf := own_only ha
        rw [hf] at T1
        have T1 := Lib.hid T1
        have T2 := Lib.hid (give_bad F4 a h1 hf)
        clear hf F4
        have ha2 : ¬ (a : Int) = 4096 := by omega
        have ha3 : ((a : Int) == 4096) = false := by rw [beq_eq_false_iff_ne]; exact ha2
        go_wp2_with (first | (go_at_call 16; with_reducible refine T1.out.mono ?_; rintro e w' ⟨rfl, rfl⟩) | (go_at_call 14; with_reducible refine T2.out.mono ?_; rintro e w' ⟨rfl, rfl⟩) | (go_at_call 14; with_reducible refine (give_nil _ _).mono ?_; rintro e w' ⟨rfl, rfl⟩) | (go_at_call 18; with_reducible refine (free_nil _).mono ?_; rintro e w' ⟨rfl, rfl⟩) | (go_at_call 16; with_reducible refine (taken_nil _ _).mono ?_; rintro e w' ⟨rfl, rfl⟩) | (go_at_call 20; with_reducible refine (room_nil _).mono ?_; rintro e w' ⟨rfl, rfl⟩))
        go_ret
        exact ⟨by simp [ha3] <;> omega, HB4.out⟩
theorem FramesNone (a b : Int) (w : World) (wa : (Lit.int .u64 a).wf = true) (wb : (Lit.int .i64 b).wf = true) : Calls Try.prog 6 #[.int .u64 a, .int .i64 b] w fun e w' => e = .returned (.bool true) ∧ Below w.heap.size w w' := by
  obtain ⟨h0, h1⟩ := u64_lit wa
  obtain ⟨g0, g1⟩ := i64_lit wb
  obtain ⟨c, rfl⟩ : ∃ c : Nat, a = (c : Int) := ⟨a.toNat, by omega⟩
  exact none_ c b w (by omega) g0 g1
end Go.Proofs.Ytekfcbgndjmhnaa.Pu
