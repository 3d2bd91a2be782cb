/- Of any word and any place, field.Mask, field.Get and field.Bit answer as the reference does. No condition. -/
import Derived.Test.YtpbgehgbonilgaaPFieldGetsx2
import Derived.Test.YtpbgehgbonilgaaNFFieldGets
namespace Go.Proofs.Ytpbgehgbonilgaa.Pure
open Go.RowKit Go.Proofs.Ytpbgehgbonilgaa.PFieldGets Go.Proofs.YtpbgehgbonilgaaW.PrintWords Go.Proofs.YtpbgehgbonilgaaW.PrintLast

/-- YOURS: ∀ (a0 : Int) (a1 : Int) (a2 : Int), (Lit.int .u64 a0).wf = true → (Lit.int .i64 a1).wf = true → (Lit.int .i64 a2).wf = true → ∃ k, dormerlaw01_FieldGets.f k a0 a1 a2 = some true
What it reaches (each with k first where it has rounds; `.mono`: more rounds tell the same; `.l0`, ..: its loops, with `.mono_l`): field_none.f, field_ones.f, field_Mask.f, field_Get.f, field_Bit.f, field_Set.f, field_With.f, dormerlaw01_awake.f, dormerref01_is.f, dormerref01_Power.f, dormerref01_Mask.f, dormerref01_Get.f, dormerref01_Bit.f, dormerlaw01_FieldGets.f -/
theorem FieldGets : dormerlaw01_FieldGets.Pure := by
  intro a0 a1 a2 w0 w1 w2
  have u0 := NL.u64_lit w0
  obtain ⟨x, rfl⟩ := Int.eq_ofNat_of_zero_le u0.1
  have hx := NL.nat_lt u0.2
  refine ⟨200, ?_⟩
  unfold dormerlaw01_FieldGets.f
  rw [NFFieldGets.awake1, Option.bind_some, if_pos rfl]
  have hbit : (field_Bit.f x a1).bind (fun t126 => (dormerref01_Bit.f 200 x a1).bind fun t127 => some (t126 == t127)) = some true := by
    by_cases h : a1 < 0 ∨ 64 ≤ a1
    · rw [NFFieldGets.bit_bad h, NFFieldGets.rbit_bad h]; rfl
    · obtain ⟨i, rfl⟩ := Int.eq_ofNat_of_zero_le (show 0 ≤ a1 by omega)
      rw [NFFieldGets.bit hx (by omega), NFFieldGets.rbit (by omega) hx (by omega), Option.bind_some, Option.bind_some]
      exact congrArg some (beq_self_eq_true _)
  by_cases h : a1 < 0 ∨ a2 < 1 ∨ 64 ≤ a1 ∨ 64 - a1 < a2
  · rw [NFFieldGets.mask_bad h, Option.bind_some, NFFieldGets.rmask_bad (by omega) h, Option.bind_some, if_pos rfl, NFFieldGets.get_bad h, Option.bind_some, NFFieldGets.rget_bad h, Option.bind_some, if_pos rfl]
    exact hbit
  · obtain ⟨lo, rfl⟩ := Int.eq_ofNat_of_zero_le (show 0 ≤ a1 by omega)
    obtain ⟨n, rfl⟩ := Int.eq_ofNat_of_zero_le (show 0 ≤ a2 by omega)
    have hn : 1 ≤ n := by omega
    have hl : lo + n ≤ 64 := by omega
    rw [NFFieldGets.mask hn hl, Option.bind_some, NFFieldGets.rmask (by omega) hn hl, Option.bind_some, if_pos rfl, NFFieldGets.get hx hn hl, Option.bind_some, NFFieldGets.rget (by omega) hx hn hl, Option.bind_some, if_pos rfl]
    exact hbit

end Go.Proofs.Ytpbgehgbonilgaa.Pure
