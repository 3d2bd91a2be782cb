/- Of any word, any value and any place, field.Set and field.With answer as the reference does. No condition. -/
import Derived.Test.YtpbgehgbonilgaaFlFieldSets
import Derived.Test.YtpbgehgbonilgaaNF
namespace Go.Proofs.Ytpbgehgbonilgaa.Pu
open Go.RowKit Go.Proofs.Ytpbgehgbonilgaa.NL Go.Proofs.Ytpbgehgbonilgaa.Fn Go.Proofs.YtpbgehgbonilgaaW.PrintWords Go.Proofs.YtpbgehgbonilgaaW.PrintMore
theorem FieldSets (a0 a1 p0 p1 : Int) (w0 : (Lit.int .u64 a0).wf = true) (w1 : (Lit.int .u64 a1).wf = true) : dormerlaw01_FieldSets.f 200 a0 a1 p0 p1 = some true := by
  have u0 := u64_lit w0
  have u1 := u64_lit w1
  obtain ⟨x, rfl⟩ := Int.eq_ofNat_of_zero_le u0.1
  obtain ⟨v, rfl⟩ := Int.eq_ofNat_of_zero_le u1.1
  have hx := nat_lt u0.2
  have hv := nat_lt u1.2
  unfold dormerlaw01_FieldSets.f
  rw [NF.awake1, Option.bind_some, if_pos rfl]
  have hwith : ∀ is : Bool, ((field_With.f x p0 is).bind fun t127 => (dormerref01_With.f 200 x p0 is).bind fun t128 => some (t127 == t128)) = some true := by
    intro is
    by_cases h : p0 < 0 ∨ 64 ≤ p0
    · rw [NF.with_bad is h, Option.bind_some, NF.rwith_bad is h, Option.bind_some]
      exact congrArg some (beq_self_eq_true _)
    · obtain ⟨i, rfl⟩ := Int.eq_ofNat_of_zero_le (show 0 ≤ p0 by omega)
      rw [NF.with_ is hx (by omega), Option.bind_some, NF.rwith is (by omega) hx (by omega), Option.bind_some]
      exact congrArg some (beq_self_eq_true _)
  by_cases h : p0 < 0 ∨ p1 < 1 ∨ 64 ≤ p0 ∨ 64 - p0 < p1
  · rw [NF.set_bad h, Option.bind_some, NF.rset_bad h, Option.bind_some, if_pos rfl]
    exact hwith _
  · obtain ⟨lo, rfl⟩ := Int.eq_ofNat_of_zero_le (show 0 ≤ p0 by omega)
    obtain ⟨n, rfl⟩ := Int.eq_ofNat_of_zero_le (show 0 ≤ p1 by omega)
    rw [NF.set hx hv (by omega) (by omega), Option.bind_some, NF.rset (by omega) hx hv (by omega) (by omega), Option.bind_some, if_pos rfl]
    exact hwith _
end Go.Proofs.Ytpbgehgbonilgaa.Pu
