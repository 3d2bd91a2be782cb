/- Whole numbers of 64 bits as natural numbers with bits: fields of a word, plainly. No Go in it. Conditions: none but those each lemma names. -/
import Derived.Laws.BitsLemmas
import Derived.Laws.Bits64
import Derived.RowKit
import Derived.IntWalk
set_option linter.unusedVariables false
set_option linter.unusedSimpArgs false
namespace Go.Proofs.Ytpkffpcdmglleaa.NL
open Go.RowKit

theorem u64_lit {a : Int} (h : (Lit.int .u64 a).wf = true) : 0 ≤ a ∧ a < 18446744073709551616 := by
  have h1 : IntKind.u64.min = 0 := by decide
  have h2 : IntKind.u64.max = 18446744073709551615 := by decide
  simp only [Lit.wf, Bool.and_eq_true, decide_eq_true_eq] at h
  omega
theorem i64_lit {a : Int} (h : (Lit.int .i64 a).wf = true) : -9223372036854775808 ≤ a ∧ a < 9223372036854775808 := by
  have h1 : IntKind.i64.min = -9223372036854775808 := by decide
  have h2 : IntKind.i64.max = 9223372036854775807 := by decide
  simp only [Lit.wf, Bool.and_eq_true, decide_eq_true_eq] at h
  omega
theorem u8_lit {a : Int} (h : (Lit.int .u8 a).wf = true) : 0 ≤ a ∧ a < 256 := by
  have h1 : IntKind.u8.min = 0 := by decide
  have h2 : IntKind.u8.max = 255 := by decide
  simp only [Lit.wf, Bool.and_eq_true, decide_eq_true_eq] at h
  omega
theorem w64 {a : Int} (h0 : -9223372036854775808 ≤ a) (h1 : a < 9223372036854775808) : wrap64 a = a := by
  unfold wrap64; omega
theorem wu {a : Int} (h0 : 0 ≤ a) (h1 : a < 18446744073709551616) : IntKind.u64.wrap a = a := by
  rw [IntKind.wrap_u64]; omega

/-- What a word has in a field; the word with a field; a field's mask. -/
def gN (x lo n : Nat) : Nat := x / 2 ^ lo % 2 ^ n
def sN (x lo n v : Nat) : Nat := (x % 2 ^ lo) ||| ((v % 2 ^ n) <<< lo) ||| ((x >>> (lo + n)) <<< (lo + n))
def mN (lo n : Nat) : Nat := (2 ^ n - 1) <<< lo

theorem gN_bit (x lo n i : Nat) : (gN x lo n).testBit i = (decide (i < n) && x.testBit (lo + i)) := by
  simp [gN, Nat.testBit_mod_two_pow, Nat.testBit_div_two_pow, Nat.add_comm]
theorem mN_bit (lo n i : Nat) : (mN lo n).testBit i = (decide (lo ≤ i) && decide (i < lo + n)) := by
  simp only [mN, Nat.testBit_shiftLeft, Nat.testBit_two_pow_sub_one]
  by_cases h : lo ≤ i
  · have e : (i - lo < n) = (i < lo + n) := by simp only [eq_iff_iff]; omega
    simp [h, e]
  · simp [h]
theorem sN_bit (x lo n v i : Nat) : (sN x lo n v).testBit i = if lo ≤ i ∧ i < lo + n then v.testBit (i - lo) else x.testBit i := by
  simp only [sN, Nat.testBit_or, Nat.testBit_shiftLeft, Nat.testBit_mod_two_pow, Nat.testBit_shiftRight]
  by_cases h : lo ≤ i
  · by_cases h2 : i < lo + n
    · have e1 : ¬ i < lo := by omega
      have e2 : ¬ lo + n ≤ i := by omega
      have e3 : i - lo < n := by omega
      simp [h, h2, e1, e2, e3]
    · have e1 : ¬ i < lo := by omega
      have e2 : lo + n ≤ i := by omega
      have e3 : ¬ i - lo < n := by omega
      simp [h, h2, e1, e2, e3, Nat.add_sub_cancel' e2]
  · have e1 : i < lo := by omega
    have e2 : ¬ lo + n ≤ i := by omega
    simp [h, e1, e2]
theorem lt_of_bits {x n : Nat} (h : ∀ i, n ≤ i → x.testBit i = false) : x < 2 ^ n := Nat.lt_pow_two_of_testBit x h
theorem bit_high {x n i : Nat} (h : x < 2 ^ n) (hi : n ≤ i) : x.testBit i = false :=
  Nat.testBit_lt_two_pow (Nat.lt_of_lt_of_le h (Nat.pow_le_pow_right (by decide) hi))
theorem gN_lt (x lo n : Nat) : gN x lo n < 2 ^ n := Nat.mod_lt _ (Nat.two_pow_pos n)
theorem gN_lt64 {x lo n : Nat} (hn : n ≤ 64) : gN x lo n < 2 ^ 64 := Nat.lt_of_lt_of_le (gN_lt x lo n) (Nat.pow_le_pow_right (by decide) hn)
theorem mN_lt {lo n : Nat} (h : lo + n ≤ 64) : mN lo n < 2 ^ 64 := lt_of_bits fun i hi => by
  rw [mN_bit]
  have : ¬ i < lo + n := by omega
  simp [this]
theorem sN_lt {x lo n v : Nat} (h : lo + n ≤ 64) (hx : x < 2 ^ 64) : sN x lo n v < 2 ^ 64 := lt_of_bits fun i hi => by
  rw [sN_bit, if_neg (by omega)]
  exact bit_high hx hi
theorem eq_bits {x y : Nat} (h : ∀ i, x.testBit i = y.testBit i) : x = y := Nat.eq_of_testBit_eq h

/-! ### the operations on words, as the machine has them -/
theorem cast_lt {a : Nat} (h : a < 2 ^ 64) : (a : Int) < 18446744073709551616 := by
  have : (2 : Nat) ^ 64 = 18446744073709551616 := rfl
  omega
theorem nat_lt {a : Nat} (h : (a : Int) < 18446744073709551616) : a < 2 ^ 64 := by
  have : (2 : Nat) ^ 64 = 18446744073709551616 := rfl
  omega
theorem wraps_u64 (n : Int) (h0 : 0 ≤ n) (h1 : n < 2 ^ 64) : IntKind.u64.wrap n = n := by
  rw [IntKind.wrap_u64]
  have : (2 : Int) ^ 64 = 18446744073709551616 := rfl
  omega
theorem and_nat {a b : Nat} (ha : a < 2 ^ 64) (hb : b < 2 ^ 64) : bits .and .u64 a b = ((a &&& b : Nat) : Int) := (bits_nat .u64 64 (by decide) wraps_u64 a b ha hb).1
theorem or_nat {a b : Nat} (ha : a < 2 ^ 64) (hb : b < 2 ^ 64) : bits .or .u64 a b = ((a ||| b : Nat) : Int) := (bits_nat .u64 64 (by decide) wraps_u64 a b ha hb).2
/-- a and not b. -/
def anN (a b : Nat) : Nat := (BitVec.ofNat 64 a &&& ~~~ BitVec.ofNat 64 b).toNat
theorem anN_bit {a b : Nat} (ha : a < 2 ^ 64) (i : Nat) : (anN a b).testBit i = (a.testBit i && !b.testBit i) := by
  simp only [anN, BitVec.testBit_toNat, BitVec.getLsbD_and, BitVec.getLsbD_not, BitVec.getLsbD_ofNat]
  by_cases h : i < 64
  · simp [h]
  · rw [bit_high ha (by omega)]
    simp [h]
theorem anN_lt (a b : Nat) : anN a b < 2 ^ 64 := (BitVec.ofNat 64 a &&& ~~~ BitVec.ofNat 64 b).isLt
theorem andNot_nat (a b : Nat) : bits .andNot .u64 a b = ((anN a b : Nat) : Int) := by
  show IntKind.u64.wrap ((BitVec.ofInt 64 a &&& ~~~ BitVec.ofInt 64 b).toNat : Int) = _
  rw [BitVec.ofInt_natCast, BitVec.ofInt_natCast]
  exact wu (Int.natCast_nonneg _) (cast_lt (anN_lt a b))
/-- not a. -/
def notN (a : Nat) : Nat := 2 ^ 64 - 1 - a
theorem notN_lt (a : Nat) : notN a < 2 ^ 64 := by unfold notN; omega
theorem notN_bit {a : Nat} (ha : a < 2 ^ 64) (i : Nat) : (notN a).testBit i = (decide (i < 64) && !a.testBit i) := by
  have := Nat.testBit_two_pow_sub_succ ha i
  unfold notN
  rw [show 2 ^ 64 - 1 - a = 2 ^ 64 - (a + 1) by omega]
  exact this
theorem shl_nat (v lo : Nat) (h : lo ≤ 64) : IntKind.u64.wrap ((v : Int) * 2 ^ min (lo : Int).toNat 64) = (((v <<< lo) % 2 ^ 64 : Nat) : Int) := by
  rw [Int.toNat_natCast, Nat.min_eq_left h, IntKind.wrap_u64, Nat.shiftLeft_eq]
  have e : (18446744073709551616 : Int) = ((2 ^ 64 : Nat) : Int) := rfl
  rw [e, Int.natCast_emod]
  simp
theorem shr_nat (v lo : Nat) (h : lo ≤ 64) : (v : Int) / 2 ^ min (lo : Int).toNat 64 = ((v / 2 ^ lo : Nat) : Int) := by
  rw [Int.toNat_natCast, Nat.min_eq_left h]
  simp

/-- '^x' of a word. -/
theorem xor_nat {a : Nat} (ha : a < 2 ^ 64) : bits .xor .u64 IntKind.u64.max (a : Int) = ((notN a : Nat) : Int) := by
  show IntKind.u64.wrap ((BitVec.ofInt 64 IntKind.u64.max ^^^ BitVec.ofInt 64 (a : Int)).toNat : Int) = _
  have h1 : BitVec.ofInt 64 IntKind.u64.max = BitVec.allOnes 64 := by decide
  rw [h1, BitVec.allOnes_xor, BitVec.toNat_not, BitVec.ofInt_natCast, BitVec.toNat_ofNat, Nat.mod_eq_of_lt ha]
  exact wu (Int.natCast_nonneg _) (cast_lt (notN_lt a))
theorem mN_ne {lo n : Nat} (hn : 1 ≤ n) : mN lo n ≠ 0 := by
  intro h
  have h1 := mN_bit lo n lo
  rw [h, Nat.zero_testBit] at h1
  simp at h1
  omega
theorem anN_sN {x lo n v : Nat} (hx : x < 2 ^ 64) (h : lo + n ≤ 64) : anN (sN x lo n v) (mN lo n) = anN x (mN lo n) := eq_bits fun i => by
  rw [anN_bit (sN_lt h hx), anN_bit hx, sN_bit, mN_bit]
  by_cases h1 : lo ≤ i ∧ i < lo + n
  · simp [h1]
  · rw [if_neg h1]
/-- A field's word, as the program sets it. -/
theorem set_bits {x v lo n : Nat} (hx : x < 2 ^ 64) (h : lo + n ≤ 64) :
    (anN x (mN lo n) ||| ((v <<< lo) % 2 ^ 64 &&& mN lo n)) = sN x lo n v := eq_bits fun i => by
  rw [Nat.testBit_or, Nat.testBit_and, anN_bit hx, mN_bit, sN_bit, Nat.testBit_mod_two_pow, Nat.testBit_shiftLeft]
  by_cases h1 : lo ≤ i
  · by_cases h2 : i < lo + n
    · have h3 : i < 64 := by omega
      simp [h1, h2, h3]
    · simp [h1, h2]
  · simp [h1]
theorem get_bits (x lo n : Nat) : (x / 2 ^ lo) &&& (2 ^ n - 1) = gN x lo n := by
  rw [Nat.and_two_pow_sub_one_eq_mod]; rfl
theorem mask_bits {lo n : Nat} (h : lo + n ≤ 64) : ((2 ^ n - 1) <<< lo) % 2 ^ 64 = mN lo n := Nat.mod_eq_of_lt (mN_lt h)

/-! ### laws on fields -/
theorem gN_sN_same (x lo n v : Nat) : gN (sN x lo n v) lo n = v % 2 ^ n := eq_bits fun i => by
  rw [gN_bit, sN_bit, Nat.testBit_mod_two_pow]
  by_cases h : i < n
  · simp [h]
  · simp [h]
theorem sN_gN (x lo n v : Nat) : sN (sN x lo n v) lo n (gN x lo n) = x := eq_bits fun i => by
  rw [sN_bit, sN_bit, gN_bit]
  by_cases h : lo ≤ i ∧ i < lo + n
  · rw [if_pos h]
    have e1 : i - lo < n := by omega
    have e2 : lo + (i - lo) = i := by omega
    simp [e1, e2]
  · rw [if_neg h, if_neg h]
theorem sN_sN (x lo n v u : Nat) : sN (sN x lo n v) lo n u = sN x lo n u := eq_bits fun i => by
  rw [sN_bit, sN_bit, sN_bit]
  by_cases h : lo ≤ i ∧ i < lo + n <;> simp [h]
theorem sN_gN_self (x lo n : Nat) : sN x lo n (gN x lo n) = x := by
  have h := sN_gN x lo n (gN x lo n)
  rwa [sN_sN] at h
theorem gN_zero (lo n : Nat) : gN 0 lo n = 0 := by simp [gN]
theorem gN_all {x : Nat} (h : x < 2 ^ 64) : gN x 0 64 = x := by simp [gN, Nat.mod_eq_of_lt h]
theorem gN_mod (v n k : Nat) : gN (v % 2 ^ k) 0 n = v % 2 ^ min n k := by
  apply eq_bits
  intro i
  rw [gN_bit, Nat.testBit_mod_two_pow, Nat.testBit_mod_two_pow]
  by_cases h : i < n <;> by_cases h2 : i < k <;> simp [h, h2, Nat.lt_min]

/-- Two to a power, bit by bit: what a word is so far. -/
theorem mod_succ (y i : Nat) : y % 2 ^ (i + 1) = y % 2 ^ i + (if y.testBit i = true then 2 ^ i else 0) := by
  have h1 : y / 2 ^ i % 2 = (y.testBit i).toNat := by rw [Nat.toNat_testBit]
  rw [Nat.pow_succ, Nat.mod_mul, h1]
  cases y.testBit i <;> simp
theorem testBit_div (y i : Nat) : (y / 2 ^ i % 2 = 1) = (y.testBit i = true) := by
  rw [Nat.testBit_eq_decide_div_mod_eq]; simp
end Go.Proofs.Ytpkffpcdmglleaa.NL
