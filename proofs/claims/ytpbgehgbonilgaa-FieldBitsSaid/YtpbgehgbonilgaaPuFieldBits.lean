/- Of any word and any bit: a field is its bits, a word with a bit turned twice is as it was, a bit is a field of one. No condition. -/
import Derived.Test.YtpbgehgbonilgaaFlFieldBits
import Derived.Test.YtpbgehgbonilgaaNF
namespace Go.Proofs.Ytpbgehgbonilgaa.Pu
open Go.RowKit Go.Proofs.Ytpbgehgbonilgaa.NL Go.Proofs.Ytpbgehgbonilgaa.Fn Go.Proofs.YtpbgehgbonilgaaW.PrintWords Go.Proofs.YtpbgehgbonilgaaW.PrintMore

theorem gN_one (x i : Nat) : gN x i 1 = (x.testBit i).toNat := by
  unfold gN; rw [Nat.toNat_testBit]
theorem div_step (x m : Nat) : x / 2 ^ m = 2 * (x / 2 ^ (m + 1)) + (x.testBit m).toNat := by
  rw [Nat.toNat_testBit, Nat.pow_succ, ← Nat.div_div_eq_div_mul]
  omega
theorem bits_end (k x i : Nat) (is : Bool) (hx : x < 2 ^ 64) (hi : i < 64) :
    dormerlaw01_FieldBits.l0 (k + 1) x is true i (x.testBit i) ((sN x i 1 is.toNat : Nat) : Int) ((x / 2 ^ 0 : Nat) : Int) (((0 : Nat) : Int) - 1) = some true := by
  simp only [dormerlaw01_FieldBits.l0]
  have hy : sN x i 1 is.toNat < 2 ^ 64 := sN_lt (by omega) hx
  have b1 : (sN x i 1 is.toNat).testBit i = is := by
    rw [sN_bit, if_pos (by omega), Nat.sub_self]
    cases is <;> rfl
  have b2 : sN (sN x i 1 is.toNat) i 1 (x.testBit i).toNat = x := by rw [← gN_one, sN_gN]
  have b3 : field_Get.f x i 1 = some ((gN x i 1 : Nat) : Int) := NF.get (lo := i) (n := 1) hx (by omega) (by omega)
  have b4 : field_Mask.f i 1 = some ((mN i 1 : Nat) : Int) := NF.mask (lo := i) (n := 1) (by omega) (by omega)
  have b5 : shl .u64 1 (i : Int) = ((mN i 1 : Nat) : Int) := by
    have := shl_nat 1 i (by omega)
    unfold shl
    rw [show (IntKind.u64.bits) = 64 from rfl, show ((1 : Int)) = ((1 : Nat) : Int) from rfl, this]
    have h2 := mask_bits (lo := i) (n := 1) (by omega)
    rw [← h2]
  have b6 : field_Mask.f 0 64 = some 18446744073709551615 := by decide +kernel
  rw [if_neg (by omega), if_pos trivial, Nat.pow_zero, Nat.div_one, if_pos rfl, NF.bit hy hi, Option.bind_some, b1, if_pos (beq_self_eq_true _), NF.with_ _ hy hi, Option.bind_some, b2, if_pos rfl, b3, Option.bind_some, NF.one_bit,
    if_pos (beq_self_eq_true _), b4, Option.bind_some, wu (by omega) (by omega), if_pos (by omega), b5, if_pos rfl, b6]
  rfl
theorem bits_l (x i : Nat) (is : Bool) (hx : x < 2 ^ 64) (hi : i < 64) (m : Nat) : ∀ k : Nat, m ≤ 64 → m < k →
    dormerlaw01_FieldBits.l0 k x is true i (x.testBit i) ((sN x i 1 is.toNat : Nat) : Int) ((x / 2 ^ m : Nat) : Int) ((m : Int) - 1) = some true := by
  induction m with
  | zero =>
    intro k _ hk
    obtain ⟨k, rfl⟩ : ∃ m, k = m + 1 := ⟨k - 1, by omega⟩
    exact bits_end k x i is hx hi
  | succ m ih =>
    intro k hm hk
    obtain ⟨k, rfl⟩ : ∃ m, k = m + 1 := ⟨k - 1, by omega⟩
    simp only [dormerlaw01_FieldBits.l0]
    have hih := ih k (by omega) (by omega)
    have hd := div_step x m
    have hb : x / 2 ^ m < 2 ^ 64 := Nat.lt_of_le_of_lt (Nat.div_le_self _ _) hx
    have hb' := cast_lt hb
    have e : ((m + 1 : Nat) : Int) - 1 = (m : Int) := by omega
    rw [e, if_pos (by omega), NF.bit hx (by omega), Option.bind_some]
    generalize x / 2 ^ m = q at *
    generalize x / 2 ^ (m + 1) = r at *
    cases hz : x.testBit m
    · rw [hz] at hd
      simp only [Bool.toNat_false] at hd
      rw [if_neg (by decide), wu (by omega) (by omega), w64 (by omega) (by omega), show (2 : Int) * (r : Int) = (q : Int) by omega]
      exact hih
    · rw [hz] at hd
      simp only [Bool.toNat_true] at hd
      rw [if_pos rfl, wu (a := 2 * (r : Int)) (by omega) (by omega), wu (by omega) (by omega), w64 (by omega) (by omega), show (2 : Int) * (r : Int) + 1 = (q : Int) by omega]
      exact hih
theorem FieldBits : dormerlaw01_FieldBits.Pure := by
  intro a0 a1 is w0 w1
  have u0 := u64_lit w0
  have u1 := u8_lit w1
  obtain ⟨x, rfl⟩ := Int.eq_ofNat_of_zero_le u0.1
  obtain ⟨b, rfl⟩ := Int.eq_ofNat_of_zero_le u1.1
  have hx := nat_lt u0.2
  refine ⟨100, ?_⟩
  have hi : b % 64 < 64 := Nat.mod_lt _ (by decide)
  have e : wrap64 (Int.tmod (b : Int) 64) = ((b % 64 : Nat) : Int) := by
    rw [show Int.tmod (b : Int) 64 = ((b % 64 : Nat) : Int) from rfl, w64 (by omega) (by omega)]
  unfold dormerlaw01_FieldBits.f
  rw [NF.awake1, Option.bind_some, e, NF.bit hx hi, Option.bind_some, NF.with_ is hx hi, Option.bind_some]
  have := bits_l x (b % 64) is hx hi 64 100 (by omega) (by omega)
  rw [Nat.div_eq_of_lt hx] at this
  exact this
end Go.Proofs.Ytpbgehgbonilgaa.Pu
