/- A field that is none is nothing, and changes nothing. No condition. -/
import Derived.Test.YtpbgehgbonilgaaFlFieldNone
import Derived.Test.YtpbgehgbonilgaaNF
namespace Go.Proofs.Ytpbgehgbonilgaa.Pu
open Go.RowKit Go.Proofs.Ytpbgehgbonilgaa.NL Go.Proofs.Ytpbgehgbonilgaa.Fn Go.Proofs.YtpbgehgbonilgaaW.PrintWords Go.Proofs.YtpbgehgbonilgaaW.PrintMore
theorem FieldNone : dormerlaw01_FieldNone.Pure := by
  intro a0 a1 a2 w0 w1 w2
  have u1 := u8_lit w1
  have u2 := u8_lit w2
  obtain ⟨b, rfl⟩ := Int.eq_ofNat_of_zero_le u1.1
  obtain ⟨A, hA⟩ : ∃ A : Int, A = ((b % 64 : Nat) : Int) + 1 := ⟨_, rfl⟩
  have e1 : wrap64 (wrap64 (Int.tmod (b : Int) 64) + 1) = A := by
    rw [show Int.tmod (b : Int) 64 = ((b % 64 : Nat) : Int) from rfl, w64 (a := ((b % 64 : Nat) : Int)) (by omega) (by omega), w64 (by omega) (by omega), hA]
  have e2 : wrap64 (wrap64 (65 - A) + wrap64 a2) = 65 - A + a2 := by
    rw [w64 (a := 65 - A) (by omega) (by omega), w64 (a := a2) (by omega) (by omega), w64 (by omega) (by omega)]
  have e3 : wrap64 (-A) = -A := w64 (by omega) (by omega)
  have e4 : wrap64 (64 + wrap64 a2) = 64 + a2 := by rw [w64 (a := a2) (by omega) (by omega), w64 (by omega) (by omega)]
  have h1 : A < 0 ∨ 65 - A + a2 < 1 ∨ 64 ≤ A ∨ 64 - A < 65 - A + a2 := by omega
  unfold dormerlaw01_FieldNone.f
  rw [NF.awake1, Option.bind_some, if_pos rfl, e1, e2, e3, e4, NF.get_bad h1, Option.bind_some, if_pos rfl, NF.set_bad h1, Option.bind_some, if_pos rfl, NF.mask_bad h1, Option.bind_some, if_pos rfl, NF.get_bad (by omega), Option.bind_some, if_pos rfl,
    NF.set_bad (by omega), Option.bind_some, if_pos rfl, NF.with_bad _ (by omega), Option.bind_some, if_pos rfl, NF.bit_bad (by omega), Option.bind_some]
  rfl
end Go.Proofs.Ytpbgehgbonilgaa.Pu
