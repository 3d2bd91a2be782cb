/- No frame is taken twice: taken one after the other they are all frames, rising; then there is none. No condition. -/
import Derived.Test.YtekfcbgndjmhnaaFa
set_option linter.unusedVariables false
set_option linter.unusedSimpArgs false
namespace Go.Proofs.Ytekfcbgndjmhnaa.Pu
open Go.RowKit Go.Maps Go.Proofs.Ytekfcbgndjmhnaa.FrP Go.Proofs.Ytekfcbgndjmhnaa.Fr Go.Proofs.YtekfcbgndjmhnaaW.PrintWords
set_option maxHeartbeats 1000000 in
set_option maxRecDepth 100000 in
theorem once14 (b : Int) (w : World) (h0 : 0 ≤ b) (h1 : b < 256) (hr : b % 4 = 0) : Calls Try.prog 4 #[.int .u8 b] w fun e w' => e = .returned (.bool true) ∧ Below w.heap.size w w' := by
  go_enter Try.func4, Try.ntmps4
  go_wp2_with fail
  refine (awake_any w).mono ?_
  rintro e w1 ⟨rfl, B1⟩
  go_wp2_with fail
  refine (new_ok 14 w1 (by decide) (by decide)).mono ?_
  rintro e w2 ⟨rfl, F2, B2⟩
  replace F2 : FrAt w2 (w1.heap.size + 1) w1.heap.size (marks 3 0) := by rw [marks_zero]; exact F2
  have hm : w.heap.size ≤ w1.heap.size := B1.size
  have HB := Aside0.mk (below_step B1 B2)
  generalize w1.heap.size = m at *
  clear B1 B2
  go_wp2_with fail
  refine (room_any F2).mono ?_
  rintro e w3 ⟨rfl, rfl⟩
  rw [marks_length]
  have HF := Lib.hid F2
  clear F2
  go_wp2_with fail
  go_loopw [7] (fun c wr => ∃ i : Nat, 1 ≤ i ∧ i ≤ 3 + 1 ∧ c = .int .i64 (i : Int) ∧ Hid (FrAt wr (m + 1) m (marks 3 (i - 1))) ∧ Aside0 (Below w.heap.size w wr)) (fun c _ => 3 + 1 - (intOf c).toNat)
  case atStart => exact ⟨1, by omega, by omega, rfl, HF, HB⟩
  case round =>
    obtain ⟨i, hi1, hi2, rfl, HFr, HBr⟩ := hrel
    clear HF HB
    by_cases hlt : i ≤ 3
    · have hlt2 : (i : Int) ≤ 3 := by omega
      have hlt3 : (i : Int) ≤ 200 := by omega
      have T1 := Lib.hid (take_some HFr.out (i - 1) (by rw [marks_length]; omega) (marks_off (by omega) (by omega)) (fun j hj => marks_on (by omega) (by omega)))
      rw [show (i - 1 + 1) * 4096 = i * 4096 by omega, marks_set (by omega), show i - 1 + 1 = i by omega] at T1
      go_wp2_with fail
      refine T1.out.mono ?_
      rintro e w4 ⟨rfl, F4, G4⟩
      have HB4 := Aside0.mk (Fr.step HBr.out G4 hm)
      have T2 := Lib.hid (taken_any F4 (i * 4096) (by omega))
      have T3 := Lib.hid (free_any F4)
      rw [show tk (marks 3 i) (i * 4096) = true from marks_taken (by omega) (by omega)] at T2
      rw [marks_length, marks_count (by omega)] at T3
      have HF4 := Lib.hid F4
      clear HFr HBr G4 T1 F4
      have ek : ((i * 4096 : Nat) : Int) = (i : Int) * 4096 := by omega
      rw [ek] at T2
      rw [ek]
      clear ek
      go_wp2_with (first | (go_at_call 16; with_reducible refine T2.out.mono ?_; rintro e w' ⟨rfl, rfl⟩) | (go_at_call 18; with_reducible refine T3.out.mono ?_; rintro e w' ⟨rfl, ⟨nd, rfl⟩⟩))
      go_roundw
      case rel => exact ⟨i + 1, by omega, by omega, by go_num, HF4.out.drewN _, ⟨pw_below_drewN HB4.out _⟩⟩
      case measure => simp [intOf]; omega
    · obtain rfl : i = 3 + 1 := by omega
      have T1 := Lib.hid (take_none HFr.out (fun j hj => marks_on (by rw [marks_length] at hj; omega) (by rw [marks_length] at hj; omega)))
      clear hlt
      go_wp2_with fail
      refine T1.out.mono ?_
      rintro e w4 ⟨rfl, rfl⟩
      go_wp2_with fail
      go_ret
      exact ⟨rfl, HBr.out⟩
set_option maxHeartbeats 1000000 in
set_option maxRecDepth 100000 in
theorem once15 (b : Int) (w : World) (h0 : 0 ≤ b) (h1 : b < 256) (hr : b % 4 = 1) : Calls Try.prog 4 #[.int .u8 b] w fun e w' => e = .returned (.bool true) ∧ Below w.heap.size w w' := by
  go_enter Try.func4, Try.ntmps4
  go_wp2_with fail
  refine (awake_any w).mono ?_
  rintro e w1 ⟨rfl, B1⟩
  go_wp2_with fail
  refine (new_ok 15 w1 (by decide) (by decide)).mono ?_
  rintro e w2 ⟨rfl, F2, B2⟩
  replace F2 : FrAt w2 (w1.heap.size + 1) w1.heap.size (marks 7 0) := by rw [marks_zero]; exact F2
  have hm : w.heap.size ≤ w1.heap.size := B1.size
  have HB := Aside0.mk (below_step B1 B2)
  generalize w1.heap.size = m at *
  clear B1 B2
  go_wp2_with fail
  refine (room_any F2).mono ?_
  rintro e w3 ⟨rfl, rfl⟩
  rw [marks_length]
  have HF := Lib.hid F2
  clear F2
  go_wp2_with fail
  go_loopw [7] (fun c wr => ∃ i : Nat, 1 ≤ i ∧ i ≤ 7 + 1 ∧ c = .int .i64 (i : Int) ∧ Hid (FrAt wr (m + 1) m (marks 7 (i - 1))) ∧ Aside0 (Below w.heap.size w wr)) (fun c _ => 7 + 1 - (intOf c).toNat)
  case atStart => exact ⟨1, by omega, by omega, rfl, HF, HB⟩
  case round =>
    obtain ⟨i, hi1, hi2, rfl, HFr, HBr⟩ := hrel
    clear HF HB
    by_cases hlt : i ≤ 7
    · have hlt2 : (i : Int) ≤ 7 := by omega
      have hlt3 : (i : Int) ≤ 200 := by omega
      have T1 := Lib.hid (take_some HFr.out (i - 1) (by rw [marks_length]; omega) (marks_off (by omega) (by omega)) (fun j hj => marks_on (by omega) (by omega)))
      rw [show (i - 1 + 1) * 4096 = i * 4096 by omega, marks_set (by omega), show i - 1 + 1 = i by omega] at T1
      go_wp2_with fail
      refine T1.out.mono ?_
      rintro e w4 ⟨rfl, F4, G4⟩
      have HB4 := Aside0.mk (Fr.step HBr.out G4 hm)
      have T2 := Lib.hid (taken_any F4 (i * 4096) (by omega))
      have T3 := Lib.hid (free_any F4)
      rw [show tk (marks 7 i) (i * 4096) = true from marks_taken (by omega) (by omega)] at T2
      rw [marks_length, marks_count (by omega)] at T3
      have HF4 := Lib.hid F4
      clear HFr HBr G4 T1 F4
      have ek : ((i * 4096 : Nat) : Int) = (i : Int) * 4096 := by omega
      rw [ek] at T2
      rw [ek]
      clear ek
      go_wp2_with (first | (go_at_call 16; with_reducible refine T2.out.mono ?_; rintro e w' ⟨rfl, rfl⟩) | (go_at_call 18; with_reducible refine T3.out.mono ?_; rintro e w' ⟨rfl, ⟨nd, rfl⟩⟩))
      go_roundw
      case rel => exact ⟨i + 1, by omega, by omega, by go_num, HF4.out.drewN _, ⟨pw_below_drewN HB4.out _⟩⟩
      case measure => simp [intOf]; omega
    · obtain rfl : i = 7 + 1 := by omega
      have T1 := Lib.hid (take_none HFr.out (fun j hj => marks_on (by rw [marks_length] at hj; omega) (by rw [marks_length] at hj; omega)))
      clear hlt
      go_wp2_with fail
      refine T1.out.mono ?_
      rintro e w4 ⟨rfl, rfl⟩
      go_wp2_with fail
      go_ret
      exact ⟨rfl, HBr.out⟩
set_option maxHeartbeats 1000000 in
set_option maxRecDepth 100000 in
theorem once16 (b : Int) (w : World) (h0 : 0 ≤ b) (h1 : b < 256) (hr : b % 4 = 2) : Calls Try.prog 4 #[.int .u8 b] w fun e w' => e = .returned (.bool true) ∧ Below w.heap.size w w' := by
  go_enter Try.func4, Try.ntmps4
  go_wp2_with fail
  refine (awake_any w).mono ?_
  rintro e w1 ⟨rfl, B1⟩
  go_wp2_with fail
  refine (new_ok 16 w1 (by decide) (by decide)).mono ?_
  rintro e w2 ⟨rfl, F2, B2⟩
  replace F2 : FrAt w2 (w1.heap.size + 1) w1.heap.size (marks 15 0) := by rw [marks_zero]; exact F2
  have hm : w.heap.size ≤ w1.heap.size := B1.size
  have HB := Aside0.mk (below_step B1 B2)
  generalize w1.heap.size = m at *
  clear B1 B2
  go_wp2_with fail
  refine (room_any F2).mono ?_
  rintro e w3 ⟨rfl, rfl⟩
  rw [marks_length]
  have HF := Lib.hid F2
  clear F2
  go_wp2_with fail
  go_loopw [7] (fun c wr => ∃ i : Nat, 1 ≤ i ∧ i ≤ 15 + 1 ∧ c = .int .i64 (i : Int) ∧ Hid (FrAt wr (m + 1) m (marks 15 (i - 1))) ∧ Aside0 (Below w.heap.size w wr)) (fun c _ => 15 + 1 - (intOf c).toNat)
  case atStart => exact ⟨1, by omega, by omega, rfl, HF, HB⟩
  case round =>
    obtain ⟨i, hi1, hi2, rfl, HFr, HBr⟩ := hrel
    clear HF HB
    by_cases hlt : i ≤ 15
    · have hlt2 : (i : Int) ≤ 15 := by omega
      have hlt3 : (i : Int) ≤ 200 := by omega
      have T1 := Lib.hid (take_some HFr.out (i - 1) (by rw [marks_length]; omega) (marks_off (by omega) (by omega)) (fun j hj => marks_on (by omega) (by omega)))
      rw [show (i - 1 + 1) * 4096 = i * 4096 by omega, marks_set (by omega), show i - 1 + 1 = i by omega] at T1
      go_wp2_with fail
      refine T1.out.mono ?_
      rintro e w4 ⟨rfl, F4, G4⟩
      have HB4 := Aside0.mk (Fr.step HBr.out G4 hm)
      have T2 := Lib.hid (taken_any F4 (i * 4096) (by omega))
      have T3 := Lib.hid (free_any F4)
      rw [show tk (marks 15 i) (i * 4096) = true from marks_taken (by omega) (by omega)] at T2
      rw [marks_length, marks_count (by omega)] at T3
      have HF4 := Lib.hid F4
      clear HFr HBr G4 T1 F4
      have ek : ((i * 4096 : Nat) : Int) = (i : Int) * 4096 := by omega
      rw [ek] at T2
      rw [ek]
      clear ek
      go_wp2_with (first | (go_at_call 16; with_reducible refine T2.out.mono ?_; rintro e w' ⟨rfl, rfl⟩) | (go_at_call 18; with_reducible refine T3.out.mono ?_; rintro e w' ⟨rfl, ⟨nd, rfl⟩⟩))
      go_roundw
      case rel => exact ⟨i + 1, by omega, by omega, by go_num, HF4.out.drewN _, ⟨pw_below_drewN HB4.out _⟩⟩
      case measure => simp [intOf]; omega
    · obtain rfl : i = 15 + 1 := by omega
      have T1 := Lib.hid (take_none HFr.out (fun j hj => marks_on (by rw [marks_length] at hj; omega) (by rw [marks_length] at hj; omega)))
      clear hlt
      go_wp2_with fail
      refine T1.out.mono ?_
      rintro e w4 ⟨rfl, rfl⟩
      go_wp2_with fail
      go_ret
      exact ⟨rfl, HBr.out⟩
set_option maxHeartbeats 1000000 in
set_option maxRecDepth 100000 in
theorem once17 (b : Int) (w : World) (h0 : 0 ≤ b) (h1 : b < 256) (hr : b % 4 = 3) : Calls Try.prog 4 #[.int .u8 b] w fun e w' => e = .returned (.bool true) ∧ Below w.heap.size w w' := by
  go_enter Try.func4, Try.ntmps4
  go_wp2_with fail
  refine (awake_any w).mono ?_
  rintro e w1 ⟨rfl, B1⟩
  go_wp2_with fail
  refine (new_ok 17 w1 (by decide) (by decide)).mono ?_
  rintro e w2 ⟨rfl, F2, B2⟩
  replace F2 : FrAt w2 (w1.heap.size + 1) w1.heap.size (marks 31 0) := by rw [marks_zero]; exact F2
  have hm : w.heap.size ≤ w1.heap.size := B1.size
  have HB := Aside0.mk (below_step B1 B2)
  generalize w1.heap.size = m at *
  clear B1 B2
  go_wp2_with fail
  refine (room_any F2).mono ?_
  rintro e w3 ⟨rfl, rfl⟩
  rw [marks_length]
  have HF := Lib.hid F2
  clear F2
  go_wp2_with fail
  go_loopw [7] (fun c wr => ∃ i : Nat, 1 ≤ i ∧ i ≤ 31 + 1 ∧ c = .int .i64 (i : Int) ∧ Hid (FrAt wr (m + 1) m (marks 31 (i - 1))) ∧ Aside0 (Below w.heap.size w wr)) (fun c _ => 31 + 1 - (intOf c).toNat)
  case atStart => exact ⟨1, by omega, by omega, rfl, HF, HB⟩
  case round =>
    obtain ⟨i, hi1, hi2, rfl, HFr, HBr⟩ := hrel
    clear HF HB
    by_cases hlt : i ≤ 31
    · have hlt2 : (i : Int) ≤ 31 := by omega
      have hlt3 : (i : Int) ≤ 200 := by omega
      have T1 := Lib.hid (take_some HFr.out (i - 1) (by rw [marks_length]; omega) (marks_off (by omega) (by omega)) (fun j hj => marks_on (by omega) (by omega)))
      rw [show (i - 1 + 1) * 4096 = i * 4096 by omega, marks_set (by omega), show i - 1 + 1 = i by omega] at T1
      go_wp2_with fail
      refine T1.out.mono ?_
      rintro e w4 ⟨rfl, F4, G4⟩
      have HB4 := Aside0.mk (Fr.step HBr.out G4 hm)
      have T2 := Lib.hid (taken_any F4 (i * 4096) (by omega))
      have T3 := Lib.hid (free_any F4)
      rw [show tk (marks 31 i) (i * 4096) = true from marks_taken (by omega) (by omega)] at T2
      rw [marks_length, marks_count (by omega)] at T3
      have HF4 := Lib.hid F4
      clear HFr HBr G4 T1 F4
      have ek : ((i * 4096 : Nat) : Int) = (i : Int) * 4096 := by omega
      rw [ek] at T2
      rw [ek]
      clear ek
      go_wp2_with (first | (go_at_call 16; with_reducible refine T2.out.mono ?_; rintro e w' ⟨rfl, rfl⟩) | (go_at_call 18; with_reducible refine T3.out.mono ?_; rintro e w' ⟨rfl, ⟨nd, rfl⟩⟩))
      go_roundw
      case rel => exact ⟨i + 1, by omega, by omega, by go_num, HF4.out.drewN _, ⟨pw_below_drewN HB4.out _⟩⟩
      case measure => simp [intOf]; omega
    · obtain rfl : i = 31 + 1 := by omega
      have T1 := Lib.hid (take_none HFr.out (fun j hj => marks_on (by rw [marks_length] at hj; omega) (by rw [marks_length] at hj; omega)))
      clear hlt
      go_wp2_with fail
      refine T1.out.mono ?_
      rintro e w4 ⟨rfl, rfl⟩
      go_wp2_with fail
      go_ret
      exact ⟨rfl, HBr.out⟩
theorem FramesOnce (b : Int) (w : World) (wb : (Lit.int .u8 b).wf = true) : Calls Try.prog 4 #[.int .u8 b] w fun e w' => e = .returned (.bool true) ∧ Below w.heap.size w w' := by
  obtain ⟨h0, h1⟩ := u8_lit wb
  have h : b % 4 = 0 ∨ b % 4 = 1 ∨ b % 4 = 2 ∨ b % 4 = 3 := by omega
  rcases h with h | h | h | h
  · exact once14 b w h0 h1 h
  · exact once15 b w h0 h1 h
  · exact once16 b w h0 h1 h
  · exact once17 b w h0 h1 h
end Go.Proofs.Ytekfcbgndjmhnaa.Pu
