/- What the printed functions of this law come to, on whole numbers with bits (FieldGets). Conditions: those each lemma names. -/
import Derived.Test.YtpbgehgbonilgaaPFieldGetsx
import Derived.Test.YtpbgehgbonilgaaNL
set_option linter.unusedVariables false
set_option linter.unusedSimpArgs false
namespace Go.Proofs.Ytpbgehgbonilgaa.NFFieldGets
open Go.RowKit Go.Proofs.Ytpbgehgbonilgaa.NL Go.Proofs.Ytpbgehgbonilgaa.PFieldGets Go.Proofs.YtpbgehgbonilgaaW.PrintWords Go.Proofs.YtpbgehgbonilgaaW.PrintLast Go.Proofs.YtpbgehgbonilgaaW.PrintMore

theorem none_ok {lo n : Nat} (hn : 1 ≤ n) (h : lo + n ≤ 64) : field_none.f lo n = some false := by
  unfold field_none.f
  rw [if_neg (by omega), if_neg (by omega), if_neg (by omega), w64 (by omega) (by omega), if_neg (by omega)]
theorem none_bad {a b : Int} (h : a < 0 ∨ b < 1 ∨ 64 ≤ a ∨ 64 - a < b) : field_none.f a b = some true := by
  unfold field_none.f
  by_cases h1 : a < 0
  · rw [if_pos h1]
  · rw [if_neg h1]
    by_cases h2 : b < 1
    · rw [if_pos h2]
    · rw [if_neg h2]
      by_cases h3 : a ≥ 64
      · rw [if_pos h3]
      · rw [if_neg h3, w64 (by omega) (by omega), if_pos (by omega)]
theorem ones {n : Nat} (h : n ≤ 64) : field_ones.f n = some ((2 ^ n - 1 : Nat) : Int) := by
  unfold field_ones.f
  by_cases h2 : (n : Int) ≥ 64
  · obtain rfl : n = 64 := by omega
    rw [if_pos h2]; rfl
  · rw [if_neg h2, wu (by omega) (by omega), if_pos (by omega)]
    have e : shl .u64 1 (n : Int) = ((2 ^ n : Nat) : Int) := by
      have := shl_nat 1 n h
      unfold shl
      rw [show ((1 : Int)) = ((1 : Nat) : Int) from rfl]
      refine this.trans ?_
      rw [Nat.shiftLeft_eq, Nat.one_mul, Nat.mod_eq_of_lt (Nat.pow_lt_pow_right (by decide) (by omega))]
    have hp : 0 < 2 ^ n := Nat.two_pow_pos n
    have hq : 2 ^ n < 2 ^ 64 := Nat.pow_lt_pow_right (by decide) (by omega)
    have hc := cast_lt hq
    rw [e, wu (by omega) (by omega)]
    congr 1
    omega
theorem mask {lo n : Nat} (hn : 1 ≤ n) (h : lo + n ≤ 64) : field_Mask.f lo n = some ((mN lo n : Nat) : Int) := by
  unfold field_Mask.f
  rw [none_ok hn h, Option.bind_some, if_neg (by decide), ones (by omega), Option.bind_some, wu (by omega) (by omega), if_pos (by omega)]
  have := shl_nat (2 ^ n - 1) lo (by omega)
  unfold shl
  rw [show (IntKind.u64.bits) = 64 from rfl, this, mask_bits h]
theorem mask_bad {a b : Int} (h : a < 0 ∨ b < 1 ∨ 64 ≤ a ∨ 64 - a < b) : field_Mask.f a b = some 0 := by
  unfold field_Mask.f
  rw [none_bad h, Option.bind_some, if_pos rfl]
theorem get {x lo n : Nat} (hx : x < 2 ^ 64) (hn : 1 ≤ n) (h : lo + n ≤ 64) : field_Get.f x lo n = some ((gN x lo n : Nat) : Int) := by
  unfold field_Get.f
  rw [none_ok hn h, Option.bind_some, if_neg (by decide), wu (by omega) (by omega), if_pos (by omega), ones (by omega), Option.bind_some]
  have := shr_nat x lo (by omega)
  unfold shr
  rw [show (IntKind.u64.bits) = 64 from rfl, this, and_nat (Nat.lt_of_le_of_lt (Nat.div_le_self _ _) hx) (Nat.lt_of_lt_of_le (Nat.sub_lt (Nat.two_pow_pos n) (by decide)) (Nat.pow_le_pow_right (by decide) (by omega))), get_bits]
theorem get_bad {x a b : Int} (h : a < 0 ∨ b < 1 ∨ 64 ≤ a ∨ 64 - a < b) : field_Get.f x a b = some 0 := by
  unfold field_Get.f
  rw [none_bad h, Option.bind_some, if_pos rfl]
theorem set {x lo n v : Nat} (hx : x < 2 ^ 64) (hv : v < 2 ^ 64) (hn : 1 ≤ n) (h : lo + n ≤ 64) : field_Set.f x lo n v = some ((sN x lo n v : Nat) : Int) := by
  unfold field_Set.f
  rw [none_ok hn h, Option.bind_some, if_neg (by decide), mask hn h, Option.bind_some, wu (by omega) (by omega), if_pos (by omega)]
  have := shl_nat v lo (by omega)
  unfold shl
  rw [show (IntKind.u64.bits) = 64 from rfl, this, andNot_nat, and_nat (Nat.mod_lt _ (by decide)) (mN_lt h), or_nat (anN_lt _ _) (Nat.and_lt_two_pow _ (mN_lt h)), set_bits hx h]
theorem set_bad {x a b v : Int} (h : a < 0 ∨ b < 1 ∨ 64 ≤ a ∨ 64 - a < b) : field_Set.f x a b v = some x := by
  unfold field_Set.f
  rw [none_bad h, Option.bind_some, if_pos rfl]
theorem one_bit (x i : Nat) : (((gN x i 1 : Nat) : Int) == 1) = x.testBit i := by
  have h : gN x i 1 = (x.testBit i).toNat := by
    unfold gN; rw [Nat.toNat_testBit]
  rw [h]
  cases x.testBit i <;> rfl
theorem bit {x i : Nat} (hx : x < 2 ^ 64) (hi : i < 64) : field_Bit.f x i = some (x.testBit i) := by
  unfold field_Bit.f
  have := get (lo := i) (n := 1) hx (by omega) (by omega)
  rw [show ((1 : Int)) = ((1 : Nat) : Int) from rfl, this, Option.bind_some]
  exact congrArg some (one_bit x i)
theorem bit_bad {x a : Int} (h : a < 0 ∨ 64 ≤ a) : field_Bit.f x a = some false := by
  unfold field_Bit.f
  rw [get_bad (by omega), Option.bind_some]; rfl
theorem with_ {x i : Nat} (is : Bool) (hx : x < 2 ^ 64) (hi : i < 64) : field_With.f x i is = some ((sN x i 1 is.toNat : Nat) : Int) := by
  unfold field_With.f
  cases is
  · rw [if_neg (by decide)]
    have := set (lo := i) (n := 1) (v := 0) hx (by decide) (by omega) (by omega)
    rw [show field_Set.f x i 1 0 = _ from this]; rfl
  · rw [if_pos rfl]
    have := set (lo := i) (n := 1) (v := 1) hx (by decide) (by omega) (by omega)
    rw [show field_Set.f x i 1 1 = _ from this]; rfl
theorem with_bad {x a : Int} (is : Bool) (h : a < 0 ∨ 64 ≤ a) : field_With.f x a is = some x := by
  unfold field_With.f
  cases is
  · rw [if_neg (by decide), set_bad (by omega)]; rfl
  · rw [if_pos rfl, set_bad (by omega)]; rfl
theorem awake1 : dormerlaw01_awake.f = some true := by decide +kernel
theorem power_l (n : Nat) (hn : n ≤ 63) (d : Nat) : ∀ k i : Nat, i + d = n → d < k → dormerref01_Power.l0 k n ((2 ^ i : Nat) : Int) i = some ((2 ^ n : Nat) : Int) := by
  induction d with
  | zero =>
    intro k i h hk
    obtain ⟨k, rfl⟩ : ∃ m, k = m + 1 := ⟨k - 1, by omega⟩
    simp only [dormerref01_Power.l0]
    rw [if_neg (by omega)]
    obtain rfl : i = n := by omega
    rfl
  | succ d ih =>
    intro k i h hk
    obtain ⟨k, rfl⟩ : ∃ m, k = m + 1 := ⟨k - 1, by omega⟩
    simp only [dormerref01_Power.l0]
    have h2 : 2 ^ (i + 1) < 2 ^ 64 := Nat.pow_lt_pow_right (by decide) (by omega)
    have h3 := cast_lt h2
    have h4 : (2 : Nat) ^ (i + 1) = 2 * 2 ^ i := by rw [Nat.pow_succ, Nat.mul_comm]
    rw [if_pos (by omega), wu (by omega) (by omega), w64 (by omega) (by omega)]
    have := ih k (i + 1) (by omega) (by omega)
    rw [h4] at this
    exact this
theorem power {k n : Nat} (hn : n ≤ 63) (hk : 64 ≤ k) : dormerref01_Power.f k n = some ((2 ^ n : Nat) : Int) := by
  unfold dormerref01_Power.f
  exact power_l n hn n k 0 (by omega) (by omega)
theorem pow_ne (n : Nat) : ¬ ((2 ^ n : Nat) : Int) = 0 := by
  have := Nat.two_pow_pos n
  omega
theorem quo (x n : Nat) (hx : x < 2 ^ 64) : IntKind.u64.wrap (Int.tdiv (x : Int) ((2 ^ n : Nat) : Int)) = ((x / 2 ^ n : Nat) : Int) := by
  have h1 : Int.tdiv (x : Int) ((2 ^ n : Nat) : Int) = ((x / 2 ^ n : Nat) : Int) := rfl
  rw [h1]
  exact wu (Int.natCast_nonneg _) (cast_lt (Nat.lt_of_le_of_lt (Nat.div_le_self _ _) hx))
theorem rbit {k x i : Nat} (hk : 64 ≤ k) (hx : x < 2 ^ 64) (hi : i < 64) : dormerref01_Bit.f k x i = some (x.testBit i) := by
  unfold dormerref01_Bit.f
  rw [if_pos (by omega), if_pos (by omega), power (by omega) hk, Option.bind_some, if_neg (pow_ne i), quo x i hx]
  have h1 : Int.tmod ((x / 2 ^ i : Nat) : Int) 2 = ((x / 2 ^ i % 2 : Nat) : Int) := rfl
  rw [h1, ← Nat.toNat_testBit]
  cases x.testBit i <;> rfl
theorem rbit_bad {k : Nat} {x a : Int} (h : a < 0 ∨ 64 ≤ a) : dormerref01_Bit.f k x a = some false := by
  unfold dormerref01_Bit.f
  by_cases h1 : a ≥ 0
  · rw [if_pos h1, if_neg (by omega)]
  · rw [if_neg h1]
theorem is_ok {lo n : Nat} (hn : 1 ≤ n) (h : lo + n ≤ 64) : dormerref01_is.f lo n = some true := by
  unfold dormerref01_is.f
  rw [if_pos (by omega), if_pos (by omega), if_pos (by omega), w64 (by omega) (by omega)]
  exact congrArg some (decide_eq_true (by omega))
theorem is_bad {a b : Int} (h : a < 0 ∨ b < 1 ∨ 64 ≤ a ∨ 64 - a < b) : dormerref01_is.f a b = some false := by
  unfold dormerref01_is.f
  by_cases h1 : a ≥ 0
  · rw [if_pos h1]
    by_cases h2 : b ≥ 1
    · rw [if_pos h2]
      by_cases h3 : a ≤ 64
      · rw [if_pos h3, w64 (by omega) (by omega)]
        exact congrArg some (decide_eq_false (by omega))
      · rw [if_neg h3]
    · rw [if_neg h2]
  · rw [if_neg h1]
theorem rget {k x lo n : Nat} (hk : 64 ≤ k) (hx : x < 2 ^ 64) (hn : 1 ≤ n) (h : lo + n ≤ 64) : dormerref01_Get.f k x lo n = some ((gN x lo n : Nat) : Int) := by
  unfold dormerref01_Get.f
  rw [is_ok hn h, Option.bind_some, if_pos rfl, power (by omega) hk, Option.bind_some, if_neg (pow_ne lo), quo x lo hx]
  by_cases h2 : (n : Int) = 64
  · obtain rfl : n = 64 := by omega
    rw [if_pos h2]
    unfold gN
    rw [Nat.mod_eq_of_lt (Nat.lt_of_le_of_lt (Nat.div_le_self _ _) hx)]
  · rw [if_neg h2, power (by omega) hk, Option.bind_some, if_neg (pow_ne n)]
    rfl
theorem rget_bad {k : Nat} {x a b : Int} (h : a < 0 ∨ b < 1 ∨ 64 ≤ a ∨ 64 - a < b) : dormerref01_Get.f k x a b = some 0 := by
  unfold dormerref01_Get.f
  rw [is_bad h, Option.bind_some, if_neg (by decide)]
theorem rmask_l {lo n : Nat} (hn : 1 ≤ n) (h : lo + n ≤ 64) (d : Nat) : ∀ k i : Nat, i + d = 64 → 64 + d < k →
    dormerref01_Mask.l0 k lo n ((mN lo n % 2 ^ i : Nat) : Int) i = some ((mN lo n : Nat) : Int) := by
  induction d with
  | zero =>
    intro k i hd hk
    obtain ⟨k, rfl⟩ : ∃ m, k = m + 1 := ⟨k - 1, by omega⟩
    simp only [dormerref01_Mask.l0]
    obtain rfl : i = 64 := by omega
    rw [if_neg (by omega), Nat.mod_eq_of_lt (mN_lt h)]
  | succ d ih =>
    intro k i hd hk
    obtain ⟨k, rfl⟩ : ∃ m, k = m + 1 := ⟨k - 1, by omega⟩
    simp only [dormerref01_Mask.l0]
    have hih := ih k (i + 1) (by omega) (by omega)
    have hs := mod_succ (mN lo n) i
    rw [mN_bit] at hs
    rw [if_pos (by omega), is_ok hn h, Option.bind_some, if_pos rfl, w64 (a := (i : Int) + 1) (by omega) (by omega), w64 (a := (lo : Int) + n) (by omega) (by omega)]
    by_cases h1 : lo ≤ i
    · rw [if_pos (by omega)]
      by_cases h2 : i < lo + n
      · rw [if_pos (by omega), power (by omega) (by omega), Option.bind_some]
        simp only [h1, h2, decide_true, Bool.and_self, if_true] at hs
        have hlt : mN lo n % 2 ^ (i + 1) < 2 ^ 64 := Nat.lt_of_le_of_lt (Nat.mod_le _ _) (mN_lt h)
        have := cast_lt hlt
        rw [wu (by omega) (by omega)]
        rw [hs] at hih
        exact hih
      · rw [if_neg (by omega)]
        simp only [h1, h2, decide_true, decide_false, Bool.and_false, Bool.false_eq_true, if_false, Nat.add_zero] at hs
        rw [hs] at hih
        exact hih
    · rw [if_neg (by omega)]
      simp only [h1, decide_false, Bool.false_and, Bool.false_eq_true, if_false, Nat.add_zero] at hs
      rw [hs] at hih
      exact hih
theorem rmask {k lo n : Nat} (hk : 129 ≤ k) (hn : 1 ≤ n) (h : lo + n ≤ 64) : dormerref01_Mask.f k lo n = some ((mN lo n : Nat) : Int) := by
  unfold dormerref01_Mask.f
  have := rmask_l hn h 64 k 0 (by omega) (by omega)
  rw [Nat.pow_zero, Nat.mod_one] at this
  exact this
theorem rmask_bad_l {a b : Int} (h : a < 0 ∨ b < 1 ∨ 64 ≤ a ∨ 64 - a < b) (d : Nat) : ∀ k i : Nat, i + d = 64 → d < k → dormerref01_Mask.l0 k a b 0 i = some 0 := by
  induction d with
  | zero =>
    intro k i hd hk
    obtain ⟨k, rfl⟩ : ∃ m, k = m + 1 := ⟨k - 1, by omega⟩
    simp only [dormerref01_Mask.l0]
    rw [if_neg (by omega)]
  | succ d ih =>
    intro k i hd hk
    obtain ⟨k, rfl⟩ : ∃ m, k = m + 1 := ⟨k - 1, by omega⟩
    simp only [dormerref01_Mask.l0]
    rw [if_pos (by omega), is_bad h, Option.bind_some, if_neg (by decide), w64 (by omega) (by omega)]
    exact ih k (i + 1) (by omega) (by omega)
theorem rmask_bad {k : Nat} {a b : Int} (hk : 65 ≤ k) (h : a < 0 ∨ b < 1 ∨ 64 ≤ a ∨ 64 - a < b) : dormerref01_Mask.f k a b = some 0 :=
  rmask_bad_l h 64 k 0 (by omega) (by omega)
end Go.Proofs.Ytpbgehgbonilgaa.NFFieldGets
