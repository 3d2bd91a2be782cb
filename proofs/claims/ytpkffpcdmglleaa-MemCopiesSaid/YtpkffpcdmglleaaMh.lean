/- The law's own example of a memory (awake). No condition. -/
import Derived.Test.YtpkffpcdmglleaaMg
set_option linter.unusedVariables false
set_option linter.unusedSimpArgs false
namespace Go.Proofs.Ytpkffpcdmglleaa.Me
open Go.RowKit Go.Maps Go.Proofs.YtpkffpcdmglleaaW.PrintWords Go.Proofs.YtpkffpcdmglleaaW.PrintMore
set_option maxHeartbeats 1000000 in
set_option maxRecDepth 100000 in
theorem awake_any (w : World) : Calls Try.prog 9 #[] w fun e w' => e = .returned (.bool true) ∧ Below w.heap.size w w' := by
  go_enter Try.func9, Try.ntmps9
  go_wp2_with fail
  refine (new_ok 16 w (by decide) (by decide)).mono ?_
  rintro e w1 ⟨rfl, M1, B1⟩
  go_wp2_with fail
  refine (store_ok M1 (by decide) 8 258 (by decide) (by decide) (by decide) (by decide)).mono ?_
  rintro e w2 ⟨rfl, pg2, M2, _, _, b2⟩
  have B2 := B1.trans (b2 _ (Nat.le_refl _))
  clear M1 B1 b2
  go_wp2_with fail
  refine (get_ok M2 (by decide) 8 (by decide) 2 (by decide +kernel)).mono ?_
  rintro e w3 ⟨rfl, ⟨nd, rfl⟩⟩
  replace M2 := M2.below (pw_below_drewN (Below.refl _ _) nd)
  replace B2 := pw_below_drewN B2 nd
  go_wp2_with fail
  generalize w2.drewN nd = w3 at *
  refine (get_ok M2 (by decide) 9 (by decide) 1 (by decide +kernel)).mono ?_
  rintro e w4 ⟨rfl, ⟨nd2, rfl⟩⟩
  replace M2 := M2.below (pw_below_drewN (Below.refl _ _) nd2)
  replace B2 := pw_below_drewN B2 nd2
  generalize w3.drewN nd2 = w4 at *
  go_wp2_with fail
  refine (load_ok M2 (by decide) 8 (by decide) (by decide) (by decide)).mono ?_
  rintro e w5 ⟨rfl, A5, c5, M5, _, b5⟩
  have B5 := B2.trans (b5 _ (Nat.le_refl _))
  clear M2 B2 b5
  go_wp2_with fail
  refine (trace_any M5 (by decide)).mono ?_
  rintro e w6 ⟨v, rfl, hR, hB6⟩
  obtain ⟨A6, c6, rfl⟩ := Kd.R_slice hR
  have M6 := M5.below hB6
  have B6 := Aside0.mk (below_step B5 hB6)
  clear M5 B5 hR hB6
  go_wp2_with fail
  refine (bits_any M6).mono ?_
  rintro e w7 ⟨rfl, rfl⟩
  go_wp2_with fail
  go_ret
  exact ⟨rfl, B6.out⟩
end Go.Proofs.Ytpkffpcdmglleaa.Me
