/- The law's own example of frames (awake), which each law runs first. No condition. -/
import Derived.Test.YtekfcbgndjmhnaaFt
set_option linter.unusedVariables false
set_option linter.unusedSimpArgs false
namespace Go.Proofs.Ytekfcbgndjmhnaa.Fr
open Go.RowKit Go.Maps Go.Proofs.Ytekfcbgndjmhnaa.FrP Go.Proofs.YtekfcbgndjmhnaaW.PrintWords
theorem step {w w1 w2 : World} {m : Nat} (h : Below w.heap.size w w1) (hg : w1.grownBy w2 (some m)) (hm : w.heap.size ≤ m) : Below w.heap.size w w2 := h.grown hg h.size (fun k hk => by cases hk; exact hm)
set_option maxHeartbeats 1000000 in
set_option maxRecDepth 100000 in
theorem awake_any (w : World) : Calls Try.prog 9 #[] w fun e w' => e = .returned (.bool true) ∧ Below w.heap.size w w' := by
  go_enter Try.func9, Try.ntmps9
  go_wp2_with fail
  refine (new_ok 14 w (by decide) (by decide)).mono ?_
  rintro e w1 ⟨rfl, F1, B1⟩
  go_wp2_with fail
  refine (take_some F1 0 (by decide) rfl (fun j hj => by omega)).mono ?_
  rintro e w2 ⟨rfl, F2, G2⟩
  have B2 := step B1 G2 (Nat.le_refl _)
  clear F1 B1 G2
  go_wp2_with fail
  refine (take_some F2 1 (by decide) rfl (fun j hj => by match j, hj with | 0, _ => rfl)).mono ?_
  rintro e w3 ⟨rfl, F3, G3⟩
  have B3 := step B2 G3 (Nat.le_refl _)
  clear F2 B2 G3
  go_wp2_with fail
  refine (free_any F3).mono ?_
  rintro e w4 ⟨rfl, ⟨nd, rfl⟩⟩
  replace F3 := F3.drewN nd
  replace B3 := pw_below_drewN B3 nd
  go_wp2_with fail
  refine (give_ok F3 0 (by decide) rfl).mono ?_
  rintro e w5 ⟨rfl, F5, G5⟩
  have B5 := step B3 G5 (Nat.le_refl _)
  clear F3 B3 G5
  go_wp2_with fail
  refine (take_some F5 0 (by decide) rfl (fun j hj => by omega)).mono ?_
  rintro e w6 ⟨rfl, F6, G6⟩
  have B6 := step B5 G6 (Nat.le_refl _)
  clear F5 B5 G6
  go_wp2_with fail
  refine (room_any F6).mono ?_
  rintro e w7 ⟨rfl, rfl⟩
  go_wp2_with fail
  go_ret
  exact ⟨rfl, B6⟩
end Go.Proofs.Ytekfcbgndjmhnaa.Fr
