/- Of any word, value and place: what was set is got, nothing else is changed, set twice the last holds, and what was got, set again, changes nothing. No condition. -/
import Derived.Test.YtpbgehgbonilgaaFlFieldBack
import Derived.Test.YtpbgehgbonilgaaNF
namespace Go.Proofs.Ytpbgehgbonilgaa.Pu
open Go.RowKit Go.Proofs.Ytpbgehgbonilgaa.NL Go.Proofs.Ytpbgehgbonilgaa.Fn Go.Proofs.YtpbgehgbonilgaaW.PrintWords Go.Proofs.YtpbgehgbonilgaaW.PrintMore
theorem back_end {x v lo n : Nat} (hx : x < 2 ^ 64) (hv : v < 2 ^ 64) (hn : 1 ≤ n) (h : lo + n ≤ 64) :
    dormerlaw01_FieldBack.j0 200 x v true ((mN lo n : Nat) : Int) ((sN x lo n v : Nat) : Int) ((v % 2 ^ n : Nat) : Int) lo n = some true := by
  simp only [dormerlaw01_FieldBack.j0]
  have hy := sN_lt (v := v) h hx
  rw [if_pos trivial, NF.get hy hn h, Option.bind_some, gN_sN_same, if_pos rfl, andNot_nat, andNot_nat, anN_sN hx h, if_pos rfl, NF.get hx hn h, Option.bind_some, NF.set hy (gN_lt64 (by omega)) hn h, Option.bind_some, sN_gN, if_pos rfl,
    xor_nat hv, NF.set hx (notN_lt v) hn h, Option.bind_some, NF.set (sN_lt h hx) hv hn h, Option.bind_some, sN_sN]
  exact congrArg some (beq_self_eq_true _)
theorem and63 {n : Nat} (h : n < 64) : bits .and .i64 (n : Int) 63 = (n : Int) := by
  have h2 := (bits_nat .i64 63 (by decide) (fun m h0 h1 => by
    have : (2 : Int) ^ 63 = 9223372036854775808 := rfl
    rw [IntKind.wrap_i64]; omega) n 63 (by omega) (by decide)).1
  rw [show ((63 : Nat) : Int) = 63 from rfl] at h2
  rw [h2]
  congr 1
  have := Nat.and_two_pow_sub_one_eq_mod n 6
  rw [show 2 ^ 6 - 1 = 63 from rfl] at this
  rw [this]
  omega
theorem FieldBack (a0 a1 p0 p1 : Int) (w0 : (Lit.int .u64 a0).wf = true) (w1 : (Lit.int .u64 a1).wf = true) : dormerlaw01_FieldBack.f 200 a0 a1 p0 p1 = some true := by
  have u0 := u64_lit w0
  have u1 := u64_lit w1
  obtain ⟨x, rfl⟩ := Int.eq_ofNat_of_zero_le u0.1
  obtain ⟨v, rfl⟩ := Int.eq_ofNat_of_zero_le u1.1
  have hx := nat_lt u0.2
  have hv := nat_lt u1.2
  unfold dormerlaw01_FieldBack.f
  rw [NF.awake1, Option.bind_some]
  by_cases h : p0 < 0 ∨ p1 < 1 ∨ 64 ≤ p0 ∨ 64 - p0 < p1
  · rw [NF.mask_bad h, Option.bind_some, NF.set_bad h, Option.bind_some, if_pos rfl, if_pos rfl, if_pos rfl, NF.get_bad h]
    rfl
  · obtain ⟨lo, rfl⟩ := Int.eq_ofNat_of_zero_le (show 0 ≤ p0 by omega)
    obtain ⟨n, rfl⟩ := Int.eq_ofNat_of_zero_le (show 0 ≤ p1 by omega)
    have hn : 1 ≤ n := by omega
    have hl : lo + n ≤ 64 := by omega
    have hm := mN_ne (lo := lo) hn
    have hb := back_end hx hv hn hl
    rw [NF.mask hn hl, Option.bind_some, NF.set hx hv hn hl, Option.bind_some, if_neg (by omega)]
    by_cases h64 : (n : Int) < 64
    · have hp : 0 < 2 ^ n := Nat.two_pow_pos n
      have hq : 2 ^ n < 2 ^ 64 := Nat.pow_lt_pow_right (by decide) (by omega)
      have hc := cast_lt hq
      have e1 : shl .u64 1 (n : Int) = ((2 ^ n : Nat) : Int) := by
        have := shl_nat 1 n (by omega)
        unfold shl
        rw [show (IntKind.u64.bits) = 64 from rfl, show ((1 : Int)) = ((1 : Nat) : Int) from rfl, this, Nat.shiftLeft_eq, Nat.one_mul, Nat.mod_eq_of_lt hq]
      have e2 : IntKind.u64.wrap (((2 ^ n : Nat) : Int) - 1) = ((2 ^ n - 1 : Nat) : Int) := by rw [wu (by omega) (by omega)]; omega
      rw [if_pos h64, and63 (by omega), wu (a := (n : Int)) (by omega) (by omega), if_pos (by omega), e1, e2, and_nat hv (by omega), Nat.and_two_pow_sub_one_eq_mod]
      exact hb
    · rw [if_neg h64]
      obtain rfl : n = 64 := by omega
      rw [Nat.mod_eq_of_lt hv] at hb
      exact hb
end Go.Proofs.Ytpbgehgbonilgaa.Pu
