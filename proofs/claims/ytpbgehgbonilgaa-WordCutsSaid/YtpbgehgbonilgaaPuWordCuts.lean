/- Of any word, any value and any place, word.Cut and word.Lay answer as the reference does. No condition. -/
import Derived.Test.YtpbgehgbonilgaaFlWordCuts
import Derived.Test.YtpbgehgbonilgaaNF
namespace Go.Proofs.Ytpbgehgbonilgaa.Pu
open Go.RowKit Go.Proofs.Ytpbgehgbonilgaa.NL Go.Proofs.Ytpbgehgbonilgaa.Fn Go.Proofs.YtpbgehgbonilgaaW.PrintWords Go.Proofs.YtpbgehgbonilgaaW.PrintMore
theorem awake2 : dormerlaw02_awake.f 200 = some true := by decide +kernel
theorem WordCuts (a0 a1 p0 p1 : Int) (w0 : (Lit.int .u64 a0).wf = true) (w1 : (Lit.int .u64 a1).wf = true) : dormerlaw02_WordCuts.f 200 a0 a1 p0 p1 = some true := by
  have u0 := u64_lit w0
  have u1 := u64_lit w1
  obtain ⟨x, rfl⟩ := Int.eq_ofNat_of_zero_le u0.1
  obtain ⟨v, rfl⟩ := Int.eq_ofNat_of_zero_le u1.1
  have hx := nat_lt u0.2
  have hv := nat_lt u1.2
  unfold dormerlaw02_WordCuts.f
  rw [awake2, Option.bind_some, if_pos rfl]
  by_cases h : p0 < 0 ∨ p1 < 1 ∨ 8 < p1 ∨ 8 - p1 < p0
  · rw [NF.cut_bad h, Option.bind_some, NF.rcut_bad (by omega) h, Option.bind_some, if_pos rfl, NF.lay_bad h, Option.bind_some, NF.rlay_bad (by omega) h, Option.bind_some]
    exact congrArg some (beq_self_eq_true _)
  · obtain ⟨f, rfl⟩ := Int.eq_ofNat_of_zero_le (show 0 ≤ p0 by omega)
    obtain ⟨n, rfl⟩ := Int.eq_ofNat_of_zero_le (show 0 ≤ p1 by omega)
    rw [NF.cut hx (by omega) (by omega), Option.bind_some, NF.rcut (by omega) hx (by omega) (by omega), Option.bind_some, if_pos rfl, NF.lay hx hv (by omega) (by omega), Option.bind_some, NF.rlay (by omega) hx hv (by omega) (by omega), Option.bind_some]
    exact congrArg some (beq_self_eq_true _)
end Go.Proofs.Ytpbgehgbonilgaa.Pu
