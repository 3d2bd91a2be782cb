/- What is given is free, and the next one that is taken; given twice it is refused. No condition. -/
import Derived.Test.YtekfcbgndjmhnaaFa
set_option linter.unusedVariables false
set_option linter.unusedSimpArgs false
namespace Go.Proofs.Ytekfcbgndjmhnaa.Pu
open Go.RowKit Go.Maps Go.Proofs.Ytekfcbgndjmhnaa.FrP Go.Proofs.Ytekfcbgndjmhnaa.Fr Go.Proofs.YtekfcbgndjmhnaaW.PrintWords
set_option maxHeartbeats 1000000 in
set_option maxRecDepth 100000 in
theorem back (a b : Int) (w : World) (c k : Nat) (h0 : 0 ≤ a) (h1 : a < 256) (g0 : 0 ≤ b) (g1 : b < 256) (ha : a % 15 = (c : Int)) (hc : c < 15) (hb : b % (1 + (c : Int)) = (k : Int)) (hk : k ≤ c) :
    Calls Try.prog 5 #[.int .u8 a, .int .u8 b] w fun e w' => e = .returned (.bool true) ∧ Below w.heap.size w w' := by
  go_enter Try.func5, Try.ntmps5
  go_wp2_with fail
  refine (awake_any w).mono ?_
  rintro e w1 ⟨rfl, B1⟩
  go_wp2_with fail
  refine (new_ok 16 w1 (by decide) (by decide)).mono ?_
  rintro e w2 ⟨rfl, F2, B2⟩
  replace F2 : FrAt w2 (w1.heap.size + 1) w1.heap.size (marks 15 0) := by rw [marks_zero]; exact F2
  have hm : w.heap.size ≤ w1.heap.size := B1.size
  have HB := Aside0.mk (below_step B1 B2)
  generalize w1.heap.size = m at *
  clear B1 B2
  have HF := Lib.hid F2
  clear F2
  go_wp2_with fail
  simp only [ha]
  clear ha
  go_loopw [8] (fun x wr => ∃ i : Nat, i ≤ c + 1 ∧ x = .int .i64 (i : Int) ∧ Hid (FrAt wr (m + 1) m (marks 15 i)) ∧ Aside0 (Below w.heap.size w wr)) (fun x _ => c + 1 - (intOf x).toNat)
  case atStart => exact ⟨0, by omega, rfl, HF, HB⟩
  case round =>
    obtain ⟨i, hi, rfl, HFr, HBr⟩ := hrel
    clear HF HB
    by_cases hlt : i < c + 1
    · have hlt2 : (i : Int) < 1 + (c : Int) := by omega
      have T1 := Lib.hid (take_some HFr.out i (by rw [marks_length]; omega) (marks_off (by omega) (by omega)) (fun j hj => marks_on (n := 15) (i := i) (by omega) (by omega)))
      rw [marks_set (by omega)] at T1
      go_wp2_with fail
      refine T1.out.mono ?_
      rintro e w4 ⟨rfl, F4, G4⟩
      have HB4 := Aside0.mk (Fr.step HBr.out G4 hm)
      have HF4 := Lib.hid F4
      clear HFr HBr G4 T1 F4
      go_wp2_with fail
      go_roundw
      case rel => exact ⟨i + 1, by omega, by go_num, HF4, HB4⟩
      case measure => simp [intOf]; omega
    · obtain rfl : i = c + 1 := by omega
      clear hlt
      have e1 := count_set_false (S := marks 15 (c + 1)) (i := k) (by rw [marks_length]; omega) (marks_on (by omega) (by omega))
      rw [marks_count (by omega)] at e1
      have q1 : ((marks 15 (c + 1)).set k false).getD k false = false := by
        have h := tk_set_same (S := marks 15 (c + 1)) (i := k) (by rw [marks_length]; omega) false
        rwa [tk_at] at h
      have e2 := count_set_true (S := (marks 15 (c + 1)).set k false) (i := k) (by rw [List.length_set, marks_length]; omega) q1
      have q2 := tk_set_same (S := marks 15 (c + 1)) (i := k) (by rw [marks_length]; omega) false
      have q3 : ∀ j, j < k → ((marks 15 (c + 1)).set k false).getD j false = true := by
        intro j hj
        have h := tk_set_other (S := marks 15 (c + 1)) (i := k) (a := (j + 1) * 4096) false (by omega)
        rw [tk_at, tk_at, marks_on (by omega) (by omega)] at h
        exact h
      have l2 : ((marks 15 (c + 1)).set k false).length = 15 := by rw [List.length_set, marks_length]
      have q1 := Lib.hid q1
      have q2 := Lib.hid q2
      have q3 := Lib.hid q3
      have l2 := Lib.hid l2
      have e2 := Lib.hid (show (((marks 15 (c + 1)).set k false).set k true).count true = c + 1 by omega)
      clear e1
      have T1 := Lib.hid (give_ok HFr.out k (by rw [marks_length]; omega) (marks_on (by omega) (by omega)))
      generalize (marks 15 (c + 1)).set k false = S2 at *
      go_wp2_with fail
      rw [show 4096 * (1 + (k : Int)) = (((k + 1) * 4096 : Nat) : Int) by omega]
      refine T1.out.mono ?_
      rintro e w4 ⟨rfl, F4, G4⟩
      have HB4 := Aside0.mk (Fr.step HBr.out G4 hm)
      have T2 := Lib.hid (taken_any F4 ((k + 1) * 4096) (by omega))
      have T3 := Lib.hid (give_bad F4 ((k + 1) * 4096) (by omega) q2.out)
      have T4 := Lib.hid (take_some F4 k (by rw [l2.out]; omega) q1.out q3.out)
      rw [q2.out] at T2
      have ek : (((k + 1) * 4096 : Nat) : Int) = ((k : Int) + 1) * 4096 := by omega
      rw [ek] at T2 T3 T4
      rw [ek]
      clear ek
      clear HFr HBr G4 T1 F4
      go_wp2_with (first | (go_at_call 16; with_reducible refine T2.out.mono ?_; rintro e w' ⟨rfl, rfl⟩) | (go_at_call 14; with_reducible refine T3.out.mono ?_; rintro e w' ⟨rfl, rfl⟩))
      refine T4.out.mono ?_
      rintro e w5 ⟨rfl, F5, G5⟩
      have HB5 := Aside0.mk (Fr.step HB4.out G5 hm)
      have T5 := Lib.hid (free_any F5)
      rw [e2.out, List.length_set, l2.out] at T5
      clear T2 T3 T4 G5 HB4 F5
      go_wp2_with (first | (go_at_call 18; with_reducible refine T5.out.mono ?_; rintro e w' ⟨rfl, ⟨nd, rfl⟩⟩))
      go_ret
      refine ⟨?_, pw_below_drewN HB5.out _⟩
      have he : (15 - ((c : Int) + 1) == 15 - (1 + (c : Int))) = true := by
        rw [beq_iff_eq]
        omega
      exact congrArg (fun b => Ending.returned (Value.bool b)) he
theorem FramesBack (a b : Int) (w : World) (wa : (Lit.int .u8 a).wf = true) (wb : (Lit.int .u8 b).wf = true) : Calls Try.prog 5 #[.int .u8 a, .int .u8 b] w fun e w' => e = .returned (.bool true) ∧ Below w.heap.size w w' := by
  obtain ⟨h0, h1⟩ := u8_lit wa
  obtain ⟨g0, g1⟩ := u8_lit wb
  obtain ⟨c, hc⟩ : ∃ c : Nat, a % 15 = (c : Int) := ⟨(a % 15).toNat, by omega⟩
  have hp : (0 : Int) < 1 + (c : Int) := by omega
  have k1 := Int.emod_nonneg b (Int.ne_of_gt hp)
  have k2 := Int.emod_lt_of_pos b hp
  obtain ⟨k, hk⟩ : ∃ k : Nat, b % (1 + (c : Int)) = (k : Int) := ⟨(b % (1 + (c : Int))).toNat, by omega⟩
  exact back a b w c k h0 h1 g0 g1 hc (by omega) hk (by omega)
end Go.Proofs.Ytekfcbgndjmhnaa.Pu
