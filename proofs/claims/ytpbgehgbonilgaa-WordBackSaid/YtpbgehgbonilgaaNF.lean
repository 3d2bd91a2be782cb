/- What the printed functions (namespace Fn) come to, on whole numbers with bits. Conditions: those each lemma names. -/
import Derived.Test.YtpbgehgbonilgaaFnx
import Derived.Test.YtpbgehgbonilgaaNB
set_option linter.unusedVariables false
set_option linter.unusedSimpArgs false
namespace Go.Proofs.Ytpbgehgbonilgaa.NF
open Go.RowKit Go.Proofs.Ytpbgehgbonilgaa.NL Go.Proofs.Ytpbgehgbonilgaa.Fn Go.Proofs.YtpbgehgbonilgaaW.PrintWords Go.Proofs.YtpbgehgbonilgaaW.PrintLast Go.Proofs.YtpbgehgbonilgaaW.PrintMore

theorem none_ok {lo n : Nat} (hn : 1 ≤ n) (h : lo + n ≤ 64) : field_none.f lo n = some false := by
  unfold field_none.f
  rw [if_neg (by omega), if_neg (by omega), if_neg (by omega), w64 (by omega) (by omega), if_neg (by omega)]
theorem none_bad {a b : Int} (h : a < 0 ∨ b < 1 ∨ 64 ≤ a ∨ 64 - a < b) : field_none.f a b = some true := by
  unfold field_none.f
  by_cases h1 : a < 0
  · rw [if_pos h1]
  · rw [if_neg h1]
    by_cases h2 : b < 1
    · rw [if_pos h2]
    · rw [if_neg h2]
      by_cases h3 : a ≥ 64
      · rw [if_pos h3]
      · rw [if_neg h3, w64 (by omega) (by omega), if_pos (by omega)]
theorem ones {n : Nat} (h : n ≤ 64) : field_ones.f n = some ((2 ^ n - 1 : Nat) : Int) := by
  unfold field_ones.f
  by_cases h2 : (n : Int) ≥ 64
  · obtain rfl : n = 64 := by omega
    rw [if_pos h2]; rfl
  · rw [if_neg h2, wu (by omega) (by omega), if_pos (by omega)]
    have e : shl .u64 1 (n : Int) = ((2 ^ n : Nat) : Int) := by
      have := shl_nat 1 n h
      unfold shl
      rw [show ((1 : Int)) = ((1 : Nat) : Int) from rfl]
      refine this.trans ?_
      rw [Nat.shiftLeft_eq, Nat.one_mul, Nat.mod_eq_of_lt (Nat.pow_lt_pow_right (by decide) (by omega))]
    have hp : 0 < 2 ^ n := Nat.two_pow_pos n
    have hq : 2 ^ n < 2 ^ 64 := Nat.pow_lt_pow_right (by decide) (by omega)
    have hc := cast_lt hq
    rw [e, wu (by omega) (by omega)]
    congr 1
    omega
theorem mask {lo n : Nat} (hn : 1 ≤ n) (h : lo + n ≤ 64) : field_Mask.f lo n = some ((mN lo n : Nat) : Int) := by
  unfold field_Mask.f
  rw [none_ok hn h, Option.bind_some, if_neg (by decide), ones (by omega), Option.bind_some, wu (by omega) (by omega), if_pos (by omega)]
  have := shl_nat (2 ^ n - 1) lo (by omega)
  unfold shl
  rw [show (IntKind.u64.bits) = 64 from rfl, this, mask_bits h]
theorem mask_bad {a b : Int} (h : a < 0 ∨ b < 1 ∨ 64 ≤ a ∨ 64 - a < b) : field_Mask.f a b = some 0 := by
  unfold field_Mask.f
  rw [none_bad h, Option.bind_some, if_pos rfl]
theorem get {x lo n : Nat} (hx : x < 2 ^ 64) (hn : 1 ≤ n) (h : lo + n ≤ 64) : field_Get.f x lo n = some ((gN x lo n : Nat) : Int) := by
  unfold field_Get.f
  rw [none_ok hn h, Option.bind_some, if_neg (by decide), wu (by omega) (by omega), if_pos (by omega), ones (by omega), Option.bind_some]
  have := shr_nat x lo (by omega)
  unfold shr
  rw [show (IntKind.u64.bits) = 64 from rfl, this, and_nat (Nat.lt_of_le_of_lt (Nat.div_le_self _ _) hx) (Nat.lt_of_lt_of_le (Nat.sub_lt (Nat.two_pow_pos n) (by decide)) (Nat.pow_le_pow_right (by decide) (by omega))), get_bits]
theorem get_bad {x a b : Int} (h : a < 0 ∨ b < 1 ∨ 64 ≤ a ∨ 64 - a < b) : field_Get.f x a b = some 0 := by
  unfold field_Get.f
  rw [none_bad h, Option.bind_some, if_pos rfl]
theorem set {x lo n v : Nat} (hx : x < 2 ^ 64) (hv : v < 2 ^ 64) (hn : 1 ≤ n) (h : lo + n ≤ 64) : field_Set.f x lo n v = some ((sN x lo n v : Nat) : Int) := by
  unfold field_Set.f
  rw [none_ok hn h, Option.bind_some, if_neg (by decide), mask hn h, Option.bind_some, wu (by omega) (by omega), if_pos (by omega)]
  have := shl_nat v lo (by omega)
  unfold shl
  rw [show (IntKind.u64.bits) = 64 from rfl, this, andNot_nat, and_nat (Nat.mod_lt _ (by decide)) (mN_lt h), or_nat (anN_lt _ _) (Nat.and_lt_two_pow _ (mN_lt h)), set_bits hx h]
theorem set_bad {x a b v : Int} (h : a < 0 ∨ b < 1 ∨ 64 ≤ a ∨ 64 - a < b) : field_Set.f x a b v = some x := by
  unfold field_Set.f
  rw [none_bad h, Option.bind_some, if_pos rfl]
theorem one_bit (x i : Nat) : (((gN x i 1 : Nat) : Int) == 1) = x.testBit i := by
  have h : gN x i 1 = (x.testBit i).toNat := by
    unfold gN; rw [Nat.toNat_testBit]
  rw [h]
  cases x.testBit i <;> rfl
theorem bit {x i : Nat} (hx : x < 2 ^ 64) (hi : i < 64) : field_Bit.f x i = some (x.testBit i) := by
  unfold field_Bit.f
  have := get (lo := i) (n := 1) hx (by omega) (by omega)
  rw [show ((1 : Int)) = ((1 : Nat) : Int) from rfl, this, Option.bind_some]
  exact congrArg some (one_bit x i)
theorem bit_bad {x a : Int} (h : a < 0 ∨ 64 ≤ a) : field_Bit.f x a = some false := by
  unfold field_Bit.f
  rw [get_bad (by omega), Option.bind_some]; rfl
theorem with_ {x i : Nat} (is : Bool) (hx : x < 2 ^ 64) (hi : i < 64) : field_With.f x i is = some ((sN x i 1 is.toNat : Nat) : Int) := by
  unfold field_With.f
  cases is
  · rw [if_neg (by decide)]
    have := set (lo := i) (n := 1) (v := 0) hx (by decide) (by omega) (by omega)
    rw [show field_Set.f x i 1 0 = _ from this]; rfl
  · rw [if_pos rfl]
    have := set (lo := i) (n := 1) (v := 1) hx (by decide) (by omega) (by omega)
    rw [show field_Set.f x i 1 1 = _ from this]; rfl
theorem with_bad {x a : Int} (is : Bool) (h : a < 0 ∨ 64 ≤ a) : field_With.f x a is = some x := by
  unfold field_With.f
  cases is
  · rw [if_neg (by decide), set_bad (by omega)]; rfl
  · rw [if_pos rfl, set_bad (by omega)]; rfl
theorem awake1 : dormerlaw01_awake.f = some true := by decide +kernel
theorem power_l (n : Nat) (hn : n ≤ 63) (d : Nat) : ∀ k i : Nat, i + d = n → d < k → dormerref01_Power.l0 k n ((2 ^ i : Nat) : Int) i = some ((2 ^ n : Nat) : Int) := by
  induction d with
  | zero =>
    intro k i h hk
    obtain ⟨k, rfl⟩ : ∃ m, k = m + 1 := ⟨k - 1, by omega⟩
    simp only [dormerref01_Power.l0]
    rw [if_neg (by omega)]
    obtain rfl : i = n := by omega
    rfl
  | succ d ih =>
    intro k i h hk
    obtain ⟨k, rfl⟩ : ∃ m, k = m + 1 := ⟨k - 1, by omega⟩
    simp only [dormerref01_Power.l0]
    have h2 : 2 ^ (i + 1) < 2 ^ 64 := Nat.pow_lt_pow_right (by decide) (by omega)
    have h3 := cast_lt h2
    have h4 : (2 : Nat) ^ (i + 1) = 2 * 2 ^ i := by rw [Nat.pow_succ, Nat.mul_comm]
    rw [if_pos (by omega), wu (by omega) (by omega), w64 (by omega) (by omega)]
    have := ih k (i + 1) (by omega) (by omega)
    rw [h4] at this
    exact this
theorem power {k n : Nat} (hn : n ≤ 63) (hk : 64 ≤ k) : dormerref01_Power.f k n = some ((2 ^ n : Nat) : Int) := by
  unfold dormerref01_Power.f
  exact power_l n hn n k 0 (by omega) (by omega)
theorem pow_ne (n : Nat) : ¬ ((2 ^ n : Nat) : Int) = 0 := by
  have := Nat.two_pow_pos n
  omega
theorem quo (x n : Nat) (hx : x < 2 ^ 64) : IntKind.u64.wrap (Int.tdiv (x : Int) ((2 ^ n : Nat) : Int)) = ((x / 2 ^ n : Nat) : Int) := by
  have h1 : Int.tdiv (x : Int) ((2 ^ n : Nat) : Int) = ((x / 2 ^ n : Nat) : Int) := rfl
  rw [h1]
  exact wu (Int.natCast_nonneg _) (cast_lt (Nat.lt_of_le_of_lt (Nat.div_le_self _ _) hx))
theorem rbit {k x i : Nat} (hk : 64 ≤ k) (hx : x < 2 ^ 64) (hi : i < 64) : dormerref01_Bit.f k x i = some (x.testBit i) := by
  unfold dormerref01_Bit.f
  rw [if_pos (by omega), if_pos (by omega), power (by omega) hk, Option.bind_some, if_neg (pow_ne i), quo x i hx]
  have h1 : Int.tmod ((x / 2 ^ i : Nat) : Int) 2 = ((x / 2 ^ i % 2 : Nat) : Int) := rfl
  rw [h1, ← Nat.toNat_testBit]
  cases x.testBit i <;> rfl
theorem rbit_bad {k : Nat} {x a : Int} (h : a < 0 ∨ 64 ≤ a) : dormerref01_Bit.f k x a = some false := by
  unfold dormerref01_Bit.f
  by_cases h1 : a ≥ 0
  · rw [if_pos h1, if_neg (by omega)]
  · rw [if_neg h1]
theorem is_ok {lo n : Nat} (hn : 1 ≤ n) (h : lo + n ≤ 64) : dormerref01_is.f lo n = some true := by
  unfold dormerref01_is.f
  rw [if_pos (by omega), if_pos (by omega), if_pos (by omega), w64 (by omega) (by omega)]
  exact congrArg some (decide_eq_true (by omega))
theorem is_bad {a b : Int} (h : a < 0 ∨ b < 1 ∨ 64 ≤ a ∨ 64 - a < b) : dormerref01_is.f a b = some false := by
  unfold dormerref01_is.f
  by_cases h1 : a ≥ 0
  · rw [if_pos h1]
    by_cases h2 : b ≥ 1
    · rw [if_pos h2]
      by_cases h3 : a ≤ 64
      · rw [if_pos h3, w64 (by omega) (by omega)]
        exact congrArg some (decide_eq_false (by omega))
      · rw [if_neg h3]
    · rw [if_neg h2]
  · rw [if_neg h1]
theorem rget {k x lo n : Nat} (hk : 64 ≤ k) (hx : x < 2 ^ 64) (hn : 1 ≤ n) (h : lo + n ≤ 64) : dormerref01_Get.f k x lo n = some ((gN x lo n : Nat) : Int) := by
  unfold dormerref01_Get.f
  rw [is_ok hn h, Option.bind_some, if_pos rfl, power (by omega) hk, Option.bind_some, if_neg (pow_ne lo), quo x lo hx]
  by_cases h2 : (n : Int) = 64
  · obtain rfl : n = 64 := by omega
    rw [if_pos h2]
    unfold gN
    rw [Nat.mod_eq_of_lt (Nat.lt_of_le_of_lt (Nat.div_le_self _ _) hx)]
  · rw [if_neg h2, power (by omega) hk, Option.bind_some, if_neg (pow_ne n)]
    rfl
theorem rget_bad {k : Nat} {x a b : Int} (h : a < 0 ∨ b < 1 ∨ 64 ≤ a ∨ 64 - a < b) : dormerref01_Get.f k x a b = some 0 := by
  unfold dormerref01_Get.f
  rw [is_bad h, Option.bind_some, if_neg (by decide)]
theorem rmask_l {lo n : Nat} (hn : 1 ≤ n) (h : lo + n ≤ 64) (d : Nat) : ∀ k i : Nat, i + d = 64 → 64 + d < k →
    dormerref01_Mask.l0 k lo n ((mN lo n % 2 ^ i : Nat) : Int) i = some ((mN lo n : Nat) : Int) := by
  induction d with
  | zero =>
    intro k i hd hk
    obtain ⟨k, rfl⟩ : ∃ m, k = m + 1 := ⟨k - 1, by omega⟩
    simp only [dormerref01_Mask.l0]
    obtain rfl : i = 64 := by omega
    rw [if_neg (by omega), Nat.mod_eq_of_lt (mN_lt h)]
  | succ d ih =>
    intro k i hd hk
    obtain ⟨k, rfl⟩ : ∃ m, k = m + 1 := ⟨k - 1, by omega⟩
    simp only [dormerref01_Mask.l0]
    have hih := ih k (i + 1) (by omega) (by omega)
    have hs := mod_succ (mN lo n) i
    rw [mN_bit] at hs
    rw [if_pos (by omega), is_ok hn h, Option.bind_some, if_pos rfl, w64 (a := (i : Int) + 1) (by omega) (by omega), w64 (a := (lo : Int) + n) (by omega) (by omega)]
    by_cases h1 : lo ≤ i
    · rw [if_pos (by omega)]
      by_cases h2 : i < lo + n
      · rw [if_pos (by omega), power (by omega) (by omega), Option.bind_some]
        simp only [h1, h2, decide_true, Bool.and_self, if_true] at hs
        have hlt : mN lo n % 2 ^ (i + 1) < 2 ^ 64 := Nat.lt_of_le_of_lt (Nat.mod_le _ _) (mN_lt h)
        have := cast_lt hlt
        rw [wu (by omega) (by omega)]
        rw [hs] at hih
        exact hih
      · rw [if_neg (by omega)]
        simp only [h1, h2, decide_true, decide_false, Bool.and_false, Bool.false_eq_true, if_false, Nat.add_zero] at hs
        rw [hs] at hih
        exact hih
    · rw [if_neg (by omega)]
      simp only [h1, decide_false, Bool.false_and, Bool.false_eq_true, if_false, Nat.add_zero] at hs
      rw [hs] at hih
      exact hih
theorem rmask {k lo n : Nat} (hk : 129 ≤ k) (hn : 1 ≤ n) (h : lo + n ≤ 64) : dormerref01_Mask.f k lo n = some ((mN lo n : Nat) : Int) := by
  unfold dormerref01_Mask.f
  have := rmask_l hn h 64 k 0 (by omega) (by omega)
  rw [Nat.pow_zero, Nat.mod_one] at this
  exact this
theorem rmask_bad_l {a b : Int} (h : a < 0 ∨ b < 1 ∨ 64 ≤ a ∨ 64 - a < b) (d : Nat) : ∀ k i : Nat, i + d = 64 → d < k → dormerref01_Mask.l0 k a b 0 i = some 0 := by
  induction d with
  | zero =>
    intro k i hd hk
    obtain ⟨k, rfl⟩ : ∃ m, k = m + 1 := ⟨k - 1, by omega⟩
    simp only [dormerref01_Mask.l0]
    rw [if_neg (by omega)]
  | succ d ih =>
    intro k i hd hk
    obtain ⟨k, rfl⟩ : ∃ m, k = m + 1 := ⟨k - 1, by omega⟩
    simp only [dormerref01_Mask.l0]
    rw [if_pos (by omega), is_bad h, Option.bind_some, if_neg (by decide), w64 (by omega) (by omega)]
    exact ih k (i + 1) (by omega) (by omega)
theorem rmask_bad {k : Nat} {a b : Int} (hk : 65 ≤ k) (h : a < 0 ∨ b < 1 ∨ 64 ≤ a ∨ 64 - a < b) : dormerref01_Mask.f k a b = some 0 :=
  rmask_bad_l h 64 k 0 (by omega) (by omega)
theorem rset_l {x lo n v : Nat} (hx : x < 2 ^ 64) (hv : v < 2 ^ 64) (hn : 1 ≤ n) (h : lo + n ≤ 64) (d : Nat) : ∀ k i : Nat, i + d = 64 → 66 + 2 * d < k →
    dormerref01_Set.l0 k x lo n v ((sN x lo n v % 2 ^ i : Nat) : Int) i = some ((sN x lo n v : Nat) : Int) := by
  induction d with
  | zero =>
    intro k i hd hk
    obtain ⟨k, rfl⟩ : ∃ m, k = m + 1 := ⟨k - 1, by omega⟩
    simp only [dormerref01_Set.l0]
    obtain rfl : i = 64 := by omega
    rw [if_neg (by omega), Nat.mod_eq_of_lt (sN_lt h hx)]
  | succ d ih =>
    intro k i hd hk
    obtain ⟨k, rfl⟩ : ∃ m, k = m + 2 := ⟨k - 2, by omega⟩
    have hih := ih k (i + 1) (by omega) (by omega)
    have hw : wrap64 ((i : Int) + 1) = ((i + 1 : Nat) : Int) := by rw [w64 (by omega) (by omega)]; omega
    have hl : wrap64 ((lo : Int) + n) = ((lo + n : Nat) : Int) := by rw [w64 (by omega) (by omega)]; omega
    simp only [dormerref01_Set.l0]
    rw [if_pos (by omega), rbit (by omega) hx (by omega), Option.bind_some]
    -- whichever way, the join comes to the next round
    have way : ∀ (b c : Bool), (if b = true then v.testBit (i - lo) else c) = (if lo ≤ i ∧ i < lo + n then v.testBit (i - lo) else x.testBit i) → (b = true → lo ≤ i) →
        c = x.testBit i → dormerref01_Set.j1 (k + 1) x lo n v ((sN x lo n v % 2 ^ i : Nat) : Int) i c b = some ((sN x lo n v : Nat) : Int) := by
      intro b c he hb hc
      have hs := mod_succ (sN x lo n v) i
      rw [sN_bit, ← he] at hs
      have hlt : sN x lo n v % 2 ^ (i + 1) < 2 ^ 64 := Nat.lt_of_le_of_lt (Nat.mod_le _ _) (sN_lt h hx)
      have hlt' := cast_lt hlt
      clear hlt he
      simp only [dormerref01_Set.j1]
      have step : ∀ z : Bool, sN x lo n v % 2 ^ (i + 1) = sN x lo n v % 2 ^ i + (if z = true then 2 ^ i else 0) →
          (if z = true then (dormerref01_Power.f k i).bind fun t => dormerref01_Set.l0 k x lo n v (IntKind.u64.wrap (((sN x lo n v % 2 ^ i : Nat) : Int) + t)) (wrap64 ((i : Int) + 1))
            else dormerref01_Set.l0 k x lo n v ((sN x lo n v % 2 ^ i : Nat) : Int) (wrap64 ((i : Int) + 1))) = some ((sN x lo n v : Nat) : Int) := by
        intro z hz
        cases z
        · rw [if_neg (by decide), hw]
          simp only [Bool.false_eq_true, if_false, Nat.add_zero] at hz
          rw [← hz]; exact hih
        · rw [if_pos rfl] at hz
          have hp := power (k := k) (n := i) (by clear hs hz hlt' hb hih; omega) (by clear hs hz hlt' hb hih; omega)
          rw [if_pos rfl, hp, Option.bind_some, hw]
          clear hs hb
          rw [wu (by omega) (by omega)]
          have e : ((sN x lo n v % 2 ^ i : Nat) : Int) + ((2 ^ i : Nat) : Int) = ((sN x lo n v % 2 ^ (i + 1) : Nat) : Int) := by omega
          rw [e]; exact hih
      cases b
      · rw [if_neg (by decide)]
        simp only [Bool.false_eq_true, if_false] at hs
        exact step c hs
      · rw [if_pos rfl]
        simp only [if_true] at hs
        have hli := hb rfl
        have e : wrap64 ((i : Int) - lo) = ((i - lo : Nat) : Int) := by clear hs hlt' step hih; rw [w64 (by omega) (by omega)]; omega
        have hr := rbit (k := k) (x := v) (i := i - lo) (by clear hs hlt' step hih; omega) hv (by clear hs hlt' step hih; omega)
        rw [e, hr, Option.bind_some]
        exact step _ hs
    by_cases h1 : lo ≤ i
    · rw [if_pos (by omega), hl]
      by_cases h2 : i < lo + n
      · rw [decide_eq_true (by omega)]
        exact way true _ (by rw [if_pos rfl, if_pos ⟨h1, h2⟩]) (fun _ => h1) rfl
      · rw [decide_eq_false (by omega)]
        exact way false _ (by rw [if_neg (by decide), if_neg (by omega)]) (fun e => by cases e) rfl
    · rw [if_neg (by omega)]
      exact way false _ (by rw [if_neg (by decide), if_neg (by omega)]) (fun e => by cases e) rfl
theorem rset {k x lo n v : Nat} (hk : 195 ≤ k) (hx : x < 2 ^ 64) (hv : v < 2 ^ 64) (hn : 1 ≤ n) (h : lo + n ≤ 64) : dormerref01_Set.f k x lo n v = some ((sN x lo n v : Nat) : Int) := by
  unfold dormerref01_Set.f
  rw [is_ok hn h, Option.bind_some, if_pos rfl]
  have := rset_l hx hv hn h 64 k 0 (by omega) (by omega)
  rw [Nat.pow_zero, Nat.mod_one] at this
  exact this
theorem rset_bad {k : Nat} {x a b v : Int} (h : a < 0 ∨ b < 1 ∨ 64 ≤ a ∨ 64 - a < b) : dormerref01_Set.f k x a b v = some x := by
  unfold dormerref01_Set.f
  rw [is_bad h, Option.bind_some, if_neg (by decide)]
theorem rwith {k x i : Nat} (is : Bool) (hk : 195 ≤ k) (hx : x < 2 ^ 64) (hi : i < 64) : dormerref01_With.f k x i is = some ((sN x i 1 is.toNat : Nat) : Int) := by
  unfold dormerref01_With.f
  cases is
  · rw [if_neg (by decide)]
    have := rset (lo := i) (n := 1) (v := 0) hk hx (by decide) (by omega) (by omega)
    rw [show dormerref01_Set.f k x i 1 0 = _ from this]; rfl
  · rw [if_pos rfl]
    have := rset (lo := i) (n := 1) (v := 1) hk hx (by decide) (by omega) (by omega)
    rw [show dormerref01_Set.f k x i 1 1 = _ from this]; rfl
theorem rwith_bad {k : Nat} {x a : Int} (is : Bool) (h : a < 0 ∨ 64 ≤ a) : dormerref01_With.f k x a is = some x := by
  unfold dormerref01_With.f
  cases is
  · rw [if_neg (by decide), rset_bad (by omega)]; rfl
  · rw [if_pos rfl, rset_bad (by omega)]; rfl
theorem in_ok {f n : Nat} (hn : 1 ≤ n) (h : f + n ≤ 8) : word_in.f f n = some true := by
  unfold word_in.f
  rw [if_pos (by omega), if_pos (by omega), if_pos (by omega), w64 (by omega) (by omega)]
  exact congrArg some (decide_eq_true (by omega))
theorem in_bad {a b : Int} (h : a < 0 ∨ b < 1 ∨ 8 < b ∨ 8 - b < a) : word_in.f a b = some false := by
  unfold word_in.f
  by_cases h1 : a ≥ 0
  · rw [if_pos h1]
    by_cases h2 : b ≥ 1
    · rw [if_pos h2]
      by_cases h3 : b ≤ 8
      · rw [if_pos h3, w64 (by omega) (by omega)]
        exact congrArg some (decide_eq_false (by omega))
      · rw [if_neg h3]
    · rw [if_neg h2]
  · rw [if_neg h1]
theorem cut {x f n : Nat} (hx : x < 2 ^ 64) (hn : 1 ≤ n) (h : f + n ≤ 8) : word_Cut.f x f n = some ((gN x (8 * f) (8 * n) : Nat) : Int) := by
  unfold word_Cut.f
  rw [in_ok hn h, Option.bind_some, if_pos rfl, w64 (by omega) (by omega), w64 (by omega) (by omega)]
  have := get (lo := 8 * f) (n := 8 * n) hx (by omega) (by omega)
  rw [show ((8 : Int) * f) = ((8 * f : Nat) : Int) by omega, show ((8 : Int) * n) = ((8 * n : Nat) : Int) by omega, this]; rfl
theorem cut_bad {x a b : Int} (h : a < 0 ∨ b < 1 ∨ 8 < b ∨ 8 - b < a) : word_Cut.f x a b = some 0 := by
  unfold word_Cut.f
  rw [in_bad h, Option.bind_some, if_neg (by decide)]
theorem lay {x f n v : Nat} (hx : x < 2 ^ 64) (hv : v < 2 ^ 64) (hn : 1 ≤ n) (h : f + n ≤ 8) : word_Lay.f x f n v = some ((sN x (8 * f) (8 * n) v : Nat) : Int) := by
  unfold word_Lay.f
  rw [in_ok hn h, Option.bind_some, if_pos rfl, w64 (by omega) (by omega), w64 (by omega) (by omega)]
  have := set (lo := 8 * f) (n := 8 * n) hx hv (by omega) (by omega)
  rw [show ((8 : Int) * f) = ((8 * f : Nat) : Int) by omega, show ((8 : Int) * n) = ((8 * n : Nat) : Int) by omega, this]; rfl
theorem lay_bad {x a b v : Int} (h : a < 0 ∨ b < 1 ∨ 8 < b ∨ 8 - b < a) : word_Lay.f x a b v = some x := by
  unfold word_Lay.f
  rw [in_bad h, Option.bind_some, if_neg (by decide)]
theorem byte {x i : Nat} (hx : x < 2 ^ 64) (hi : i < 8) : word_Byte.f x i = some ((gN x (8 * i) 8 : Nat) : Int) := by
  unfold word_Byte.f
  have := cut (f := i) (n := 1) hx (by omega) (by omega)
  rw [show word_Cut.f x i 1 = _ from this, Option.bind_some]
  have h2 : gN x (8 * i) (8 * 1) < 2 ^ 8 := gN_lt x (8 * i) 8
  congr 1
  show ((gN x (8 * i) (8 * 1) : Nat) : Int) % 256 = _
  have : (2 : Nat) ^ 8 = 256 := rfl
  rw [Int.emod_eq_of_lt (by omega) (by omega)]
theorem byte_bad {x a : Int} (h : a < 0 ∨ 8 ≤ a) : word_Byte.f x a = some 0 := by
  unfold word_Byte.f
  rw [cut_bad (by omega), Option.bind_some]; rfl
theorem put {x i c : Nat} (hx : x < 2 ^ 64) (hc : c < 256) (hi : i < 8) : word_Put.f x i c = some ((sN x (8 * i) 8 c : Nat) : Int) := by
  unfold word_Put.f
  rw [wu (by omega) (by omega)]
  have := lay (f := i) (n := 1) (v := c) hx (Nat.lt_trans hc (by decide)) (by omega) (by omega)
  rw [show word_Lay.f x i 1 c = _ from this]; rfl
theorem put_bad {x a c : Int} (h : a < 0 ∨ 8 ≤ a) : word_Put.f x a c = some x := by
  unfold word_Put.f
  rw [lay_bad (by omega)]; rfl
theorem bytes_l {x : Nat} (hx : x < 2 ^ 64) (d : Nat) : ∀ k i : Nat, i + d = 8 → d < k → word_Bytes.l0 k x (ints ((bytesN x).take i)) i = some (ints (bytesN x)) := by
  induction d with
  | zero =>
    intro k i hd hk
    obtain ⟨k, rfl⟩ : ∃ m, k = m + 1 := ⟨k - 1, by omega⟩
    simp only [word_Bytes.l0]
    obtain rfl : i = 8 := by omega
    rw [if_neg (by omega), List.take_of_length_le (by rw [bytesN_length]; omega)]
  | succ d ih =>
    intro k i hd hk
    obtain ⟨k, rfl⟩ : ∃ m, k = m + 1 := ⟨k - 1, by omega⟩
    simp only [word_Bytes.l0]
    have hih := ih k (i + 1) (by omega) (by omega)
    rw [take_snocN _ _ (by rw [bytesN_length]; omega), ints_snoc, bytesN_getD _ _ (by omega)] at hih
    have hlen : (ints ((bytesN x).take i)).length ≤ 8 := by rw [ints_length, List.length_take, bytesN_length]; omega
    rw [if_pos (by omega), byte hx (by omega), Option.bind_some, if_pos (by omega), w64 (by omega) (by omega)]
    exact hih
theorem bytes {k x : Nat} (hk : 9 ≤ k) (hx : x < 2 ^ 64) : word_Bytes.f k x = some (ints (bytesN x)) :=
  bytes_l hx 8 k 0 (by omega) (by omega)
theorem from_l {bs : List Nat} (hl : bs.length = 8) (h : ∀ b ∈ bs, b < 256) (d : Nat) : ∀ k i : Nat, i + d = 8 → d < k → word_From.l0 k (ints bs) ((valN (bs.take i) : Nat) : Int) i = some (((valN bs : Nat) : Int), 0) := by
  induction d with
  | zero =>
    intro k i hd hk
    obtain ⟨k, rfl⟩ : ∃ m, k = m + 1 := ⟨k - 1, by omega⟩
    simp only [word_From.l0]
    obtain rfl : i = 8 := by omega
    rw [if_neg (by omega), List.take_of_length_le (by omega)]
  | succ d ih =>
    intro k i hd hk
    obtain ⟨k, rfl⟩ : ∃ m, k = m + 1 := ⟨k - 1, by omega⟩
    simp only [word_From.l0]
    have hih := ih k (i + 1) (by omega) (by omega)
    have ht : ∀ b ∈ bs.take i, b < 256 := fun b hb => h b (List.mem_of_mem_take hb)
    have hb := getD_lt h i
    have htl : (bs.take i).length = i := by rw [List.length_take]; omega
    have ho := or_byte (bs.take i) (bs.getD i 0) ht
    rw [htl] at ho
    rw [take_snocN _ _ (by omega), ← ho] at hih
    have hv : valN (bs.take i) < 2 ^ 64 := by
      have h1 := valN_lt _ ht
      rw [htl] at h1
      exact Nat.lt_of_lt_of_le h1 (by rw [show (256 : Nat) = 2 ^ 8 from rfl, ← Nat.pow_mul]; exact Nat.pow_le_pow_right (by decide) (by omega))
    have hs : bs.getD i 0 <<< (8 * i) < 2 ^ 64 := by
      rw [Nat.shiftLeft_eq]
      calc bs.getD i 0 * 2 ^ (8 * i) < 2 ^ 8 * 2 ^ (8 * i) := Nat.mul_lt_mul_of_pos_right hb (Nat.two_pow_pos _)
        _ = 2 ^ (8 + 8 * i) := by rw [← Nat.pow_add]
        _ ≤ 2 ^ 64 := Nat.pow_le_pow_right (by decide) (by omega)
    rw [if_pos (by omega), if_pos (by omega), if_pos (by rw [ints_length]; omega), w64 (a := (8 : Int) * i) (by omega) (by omega), wu (by omega) (by omega), if_pos (by omega), w64 (a := (i : Int) + 1) (by omega) (by omega)]
    have hrd : rd (ints bs) i = ((bs.getD i 0 : Nat) : Int) := by unfold rd; rw [Int.toNat_natCast, ints_getD]
    rw [hrd, wu (by omega) (by omega)]
    have hsh := shl_nat (bs.getD i 0) (8 * i) (by omega)
    unfold shl
    rw [show (IntKind.u64.bits) = 64 from rfl, show ((8 : Int) * i) = ((8 * i : Nat) : Int) by omega, hsh, Nat.mod_eq_of_lt hs, or_nat hv hs]
    exact hih
theorem from_ {k : Nat} {bs : List Nat} (hk : 9 ≤ k) (hl : bs.length = 8) (h : ∀ b ∈ bs, b < 256) : word_From.f k (ints bs) = some (((valN bs : Nat) : Int), 0) := by
  unfold word_From.f
  rw [if_pos (by rw [ints_length, hl]; rfl)]
  exact from_l hl h 8 k 0 (by omega) (by omega)
theorem from_bad {k : Nat} {bs : List Nat} (hl : bs.length ≠ 8) : word_From.f k (ints bs) = some (0, 1) := by
  unfold word_From.f
  rw [if_neg (by rw [ints_length]; omega)]
theorem rbyte {k x i : Nat} (hk : 64 ≤ k) (hx : x < 2 ^ 64) (hi : i < 8) : dormerref02_Byte.f k x i = some ((gN x (8 * i) 8 : Nat) : Int) := by
  unfold dormerref02_Byte.f
  rw [if_neg (by omega), if_neg (by omega), w64 (by omega) (by omega), show ((8 : Int) * i) = ((8 * i : Nat) : Int) by omega, power (by omega) hk, Option.bind_some, if_neg (pow_ne _), quo x _ hx]
  have h1 : Int.tmod ((x / 2 ^ (8 * i) : Nat) : Int) 256 = ((x / 2 ^ (8 * i) % 256 : Nat) : Int) := rfl
  rw [h1]
  have h2 : x / 2 ^ (8 * i) % 256 < 256 := Nat.mod_lt _ (by decide)
  congr 1
  rw [Int.emod_eq_of_lt (by omega) (by omega)]
  rfl
theorem rbyte_bad {k : Nat} {x a : Int} (h : a < 0 ∨ 8 ≤ a) : dormerref02_Byte.f k x a = some 0 := by
  unfold dormerref02_Byte.f
  by_cases h1 : a < 0
  · rw [if_pos h1]
  · rw [if_neg h1, if_pos (by omega)]
theorem rbytes_l {x : Nat} (hx : x < 2 ^ 64) (d : Nat) : ∀ k i : Nat, i + d = 8 → 64 + d < k → dormerref02_Bytes.l0 k x (ints ((bytesN x).take i)) i = some (ints (bytesN x)) := by
  induction d with
  | zero =>
    intro k i hd hk
    obtain ⟨k, rfl⟩ : ∃ m, k = m + 1 := ⟨k - 1, by omega⟩
    simp only [dormerref02_Bytes.l0]
    obtain rfl : i = 8 := by omega
    rw [if_neg (by omega), List.take_of_length_le (by rw [bytesN_length]; omega)]
  | succ d ih =>
    intro k i hd hk
    obtain ⟨k, rfl⟩ : ∃ m, k = m + 1 := ⟨k - 1, by omega⟩
    simp only [dormerref02_Bytes.l0]
    have hih := ih k (i + 1) (by omega) (by omega)
    rw [take_snocN _ _ (by rw [bytesN_length]; omega), ints_snoc, bytesN_getD _ _ (by omega)] at hih
    have hlen : (ints ((bytesN x).take i)).length ≤ 8 := by rw [ints_length, List.length_take, bytesN_length]; omega
    rw [if_pos (by omega), rbyte (by omega) hx (by omega), Option.bind_some, if_pos (by omega), w64 (by omega) (by omega)]
    exact hih
theorem rbytes {k x : Nat} (hk : 73 ≤ k) (hx : x < 2 ^ 64) : dormerref02_Bytes.f k x = some (ints (bytesN x)) :=
  rbytes_l hx 8 k 0 (by omega) (by omega)
theorem rfrom_l {bs : List Nat} (hl : bs.length = 8) (h : ∀ b ∈ bs, b < 256) (i : Nat) : ∀ k : Nat, i ≤ 8 → i < k → dormerref02_From.l0 k (ints bs) ((valN (bs.drop i) : Nat) : Int) ((i : Int) - 1) = some (((valN bs : Nat) : Int), 0) := by
  induction i with
  | zero =>
    intro k hi hk
    obtain ⟨k, rfl⟩ : ∃ m, k = m + 1 := ⟨k - 1, by omega⟩
    simp only [dormerref02_From.l0]
    rw [if_neg (by omega), List.drop_zero]
  | succ i ih =>
    intro k hi hk
    obtain ⟨k, rfl⟩ : ∃ m, k = m + 1 := ⟨k - 1, by omega⟩
    simp only [dormerref02_From.l0]
    have hih := ih k (by omega) (by omega)
    have hb := getD_lt h i
    have hd : ∀ b ∈ bs.drop i, b < 256 := fun b hb => h b (List.mem_of_mem_drop hb)
    have hdl := valN_lt _ hd
    rw [List.length_drop, hl] at hdl
    have hv : valN (bs.drop i) < 2 ^ 64 := Nat.lt_of_lt_of_le hdl (by rw [show (256 : Nat) = 2 ^ 8 from rfl, ← Nat.pow_mul]; exact Nat.pow_le_pow_right (by decide) (by omega))
    have hv' := cast_lt hv
    rw [drop_consN bs i (by omega)] at hih hv'
    simp only [valN] at hih hv'
    have e : ((i + 1 : Nat) : Int) - 1 = (i : Int) := by omega
    rw [e, if_pos (by omega), if_pos (by omega), if_pos (by rw [ints_length]; omega)]
    have hrd : rd (ints bs) i = ((bs.getD i 0 : Nat) : Int) := by unfold rd; rw [Int.toNat_natCast, ints_getD]
    rw [hrd, wu (a := 256 * _) (by omega) (by omega), wu (a := ((bs.getD i 0 : Nat) : Int)) (by omega) (by omega), wu (by omega) (by omega), w64 (by omega) (by omega)]
    rw [show (256 : Int) * ((valN (bs.drop (i + 1)) : Nat) : Int) + ((bs.getD i 0 : Nat) : Int) = ((bs.getD i 0 + 256 * valN (bs.drop (i + 1)) : Nat) : Int) by omega]
    exact hih
theorem rfrom {k : Nat} {bs : List Nat} (hk : 9 ≤ k) (hl : bs.length = 8) (h : ∀ b ∈ bs, b < 256) : dormerref02_From.f k (ints bs) = some (((valN bs : Nat) : Int), 0) := by
  unfold dormerref02_From.f
  rw [if_pos (by rw [ints_length, hl]; rfl)]
  have := rfrom_l hl h 8 k (by omega) (by omega)
  rw [List.drop_of_length_le (by omega)] at this
  exact this
theorem rfrom_bad {k : Nat} {bs : List Nat} (hl : bs.length ≠ 8) : dormerref02_From.f k (ints bs) = some (0, 1) := by
  unfold dormerref02_From.f
  rw [if_neg (by rw [ints_length]; omega)]
theorem rput {k x i c : Nat} (hk : 73 ≤ k) (hx : x < 2 ^ 64) (hc : c < 256) (hi : i < 8) : dormerref02_Put.f k x i c = some ((sN x (8 * i) 8 c : Nat) : Int) := by
  unfold dormerref02_Put.f
  have hb : ∀ b ∈ (bytesN x).set i c, b < 256 := by
    intro b hb
    rcases List.mem_or_eq_of_mem_set hb with hb | rfl
    · exact bytesN_lt x b hb
    · exact hc
  rw [rbytes hk hx, Option.bind_some, if_pos (by omega), if_pos (by omega), if_pos (by omega), if_pos (by rw [ints_length, bytesN_length]; omega), Int.toNat_natCast, ints_set,
    rfrom (by omega) (by rw [List.length_set, bytesN_length]) hb, Option.bind_some, val_set hx hi hc]
theorem rput_bad {k x : Nat} {a c : Int} (hk : 73 ≤ k) (hx : x < 2 ^ 64) (h : a < 0 ∨ 8 ≤ a) : dormerref02_Put.f k x a c = some (x : Int) := by
  unfold dormerref02_Put.f
  have hf := rfrom (k := k) (by omega) (bytesN_length x) (bytesN_lt x)
  rw [val_bytes hx] at hf
  rw [rbytes hk hx, Option.bind_some]
  by_cases h1 : a ≥ 0
  · rw [if_pos h1, if_neg (by omega), hf, Option.bind_some]
  · rw [if_neg h1, hf, Option.bind_some]
theorem ris_ok {f n : Nat} (hn : 1 ≤ n) (h : f + n ≤ 8) : dormerref02_is.f f n = some true := by
  unfold dormerref02_is.f
  rw [if_pos (by omega), if_pos (by omega), if_pos (by omega), w64 (by omega) (by omega)]
  exact congrArg some (decide_eq_true (by omega))
theorem ris_bad {a b : Int} (h : a < 0 ∨ b < 1 ∨ 8 < b ∨ 8 - b < a) : dormerref02_is.f a b = some false := by
  unfold dormerref02_is.f
  by_cases h1 : a ≥ 0
  · rw [if_pos h1]
    by_cases h2 : b ≥ 1
    · rw [if_pos h2]
      by_cases h3 : b ≤ 8
      · rw [if_pos h3, w64 (by omega) (by omega)]
        exact congrArg some (decide_eq_false (by omega))
      · rw [if_neg h3]
    · rw [if_neg h2]
  · rw [if_neg h1]
/-- One byte more of a word, at the end of what was cut. -/
theorem cut_step (x f i : Nat) : sN (gN x (8 * f) (8 * i)) (8 * i) 8 (gN x (8 * (f + i)) 8) = gN x (8 * f) (8 * (i + 1)) := eq_bits fun j => by
  rw [sN_bit, gN_bit, gN_bit, gN_bit]
  by_cases h1 : 8 * i ≤ j
  · by_cases h2 : j < 8 * i + 8
    · rw [if_pos ⟨h1, h2⟩]
      have e1 : j - 8 * i < 8 := by omega
      have e2 : j < 8 * (i + 1) := by omega
      have e3 : 8 * (f + i) + (j - 8 * i) = 8 * f + j := by omega
      simp [e1, e2, e3]
    · rw [if_neg (by omega)]
      have e1 : ¬ j < 8 * i := by omega
      have e2 : ¬ j < 8 * (i + 1) := by omega
      simp [e1, e2]
  · rw [if_neg (by omega)]
    have e1 : j < 8 * i := by omega
    have e2 : j < 8 * (i + 1) := by omega
    simp [e1, e2]
theorem lay_step (x f i v : Nat) : sN (sN x (8 * f) (8 * i) v) (8 * (f + i)) 8 (gN v (8 * i) 8) = sN x (8 * f) (8 * (i + 1)) v := eq_bits fun j => by
  rw [sN_bit, sN_bit, sN_bit, gN_bit]
  by_cases h1 : 8 * (f + i) ≤ j
  · by_cases h2 : j < 8 * (f + i) + 8
    · rw [if_pos ⟨h1, h2⟩, if_pos (by omega)]
      have e1 : j - 8 * (f + i) < 8 := by omega
      have e3 : 8 * i + (j - 8 * (f + i)) = j - 8 * f := by omega
      simp [e1, e3]
    · rw [if_neg (by omega), if_neg (by omega), if_neg (by omega)]
  · rw [if_neg (by omega)]
    by_cases h3 : 8 * f ≤ j
    · rw [if_pos (by omega), if_pos (by omega)]
    · rw [if_neg (by omega), if_neg (by omega)]
theorem sN_none (x lo v : Nat) : sN x lo 0 v = x := eq_bits fun j => by rw [sN_bit, if_neg (by omega)]
theorem gN_none (x lo : Nat) : gN x lo 0 = 0 := by unfold gN; exact Nat.mod_one _
theorem rcut_l {x f n : Nat} (hx : x < 2 ^ 64) (hn : 1 ≤ n) (h : f + n ≤ 8) (d : Nat) : ∀ k i : Nat, i + d = n → 75 + 2 * d < k → dormerref02_Cut.l0 k x f n ((gN x (8 * f) (8 * i) : Nat) : Int) i = some ((gN x (8 * f) (8 * n) : Nat) : Int) := by
  induction d with
  | zero =>
    intro k i hd hk
    obtain ⟨k, rfl⟩ : ∃ m, k = m + 2 := ⟨k - 2, by omega⟩
    simp only [dormerref02_Cut.l0, dormerref02_Cut.j1]
    obtain rfl : i = n := by omega
    rw [if_neg (by omega), if_neg (by decide)]
  | succ d ih =>
    intro k i hd hk
    obtain ⟨k, rfl⟩ : ∃ m, k = m + 2 := ⟨k - 2, by omega⟩
    simp only [dormerref02_Cut.l0, dormerref02_Cut.j1]
    have hih := ih k (i + 1) (by omega) (by omega)
    rw [← cut_step] at hih
    rw [if_pos (by omega), ris_ok hn h, Option.bind_some, if_pos rfl, w64 (a := (f : Int) + i) (by omega) (by omega), show (f : Int) + i = ((f + i : Nat) : Int) by omega,
      rbyte (by omega) hx (by omega), Option.bind_some, rput (by omega) (gN_lt64 (by omega)) (gN_lt x _ 8) (by omega), Option.bind_some, w64 (by omega) (by omega)]
    exact hih
theorem rcut {k x f n : Nat} (hk : 100 ≤ k) (hx : x < 2 ^ 64) (hn : 1 ≤ n) (h : f + n ≤ 8) : dormerref02_Cut.f k x f n = some ((gN x (8 * f) (8 * n) : Nat) : Int) := by
  unfold dormerref02_Cut.f
  have := rcut_l hx hn h n k 0 (by omega) (by omega)
  rw [show 8 * 0 = 0 from rfl, gN_none] at this
  exact this
theorem rcut_bad {k : Nat} {x a b : Int} (hk : 2 ≤ k) (h : a < 0 ∨ b < 1 ∨ 8 < b ∨ 8 - b < a) : dormerref02_Cut.f k x a b = some 0 := by
  obtain ⟨k, rfl⟩ : ∃ m, k = m + 2 := ⟨k - 2, by omega⟩
  simp only [dormerref02_Cut.f, dormerref02_Cut.l0, dormerref02_Cut.j1]
  by_cases h1 : (0 : Int) < b
  · rw [if_pos h1, ris_bad h, Option.bind_some, if_neg (by decide)]
  · rw [if_neg h1, if_neg (by decide)]
theorem rlay_l {x f n v : Nat} (hx : x < 2 ^ 64) (hv : v < 2 ^ 64) (hn : 1 ≤ n) (h : f + n ≤ 8) (d : Nat) : ∀ k i : Nat, i + d = n → 75 + 2 * d < k → dormerref02_Lay.l0 k ((sN x (8 * f) (8 * i) v : Nat) : Int) f n v i = some ((sN x (8 * f) (8 * n) v : Nat) : Int) := by
  induction d with
  | zero =>
    intro k i hd hk
    obtain ⟨k, rfl⟩ : ∃ m, k = m + 2 := ⟨k - 2, by omega⟩
    simp only [dormerref02_Lay.l0, dormerref02_Lay.j1]
    obtain rfl : i = n := by omega
    rw [if_neg (by omega), if_neg (by decide)]
  | succ d ih =>
    intro k i hd hk
    obtain ⟨k, rfl⟩ : ∃ m, k = m + 2 := ⟨k - 2, by omega⟩
    simp only [dormerref02_Lay.l0, dormerref02_Lay.j1]
    have hih := ih k (i + 1) (by omega) (by omega)
    rw [← lay_step] at hih
    rw [if_pos (by omega), ris_ok hn h, Option.bind_some, if_pos rfl, rbyte (by omega) hv (by omega), Option.bind_some, w64 (a := (f : Int) + i) (by omega) (by omega), show (f : Int) + i = ((f + i : Nat) : Int) by omega,
      rput (by omega) (sN_lt (by omega) hx) (gN_lt v _ 8) (by omega), Option.bind_some, w64 (by omega) (by omega)]
    exact hih
theorem rlay {k x f n v : Nat} (hk : 100 ≤ k) (hx : x < 2 ^ 64) (hv : v < 2 ^ 64) (hn : 1 ≤ n) (h : f + n ≤ 8) : dormerref02_Lay.f k x f n v = some ((sN x (8 * f) (8 * n) v : Nat) : Int) := by
  unfold dormerref02_Lay.f
  have := rlay_l hx hv hn h n k 0 (by omega) (by omega)
  rw [show 8 * 0 = 0 from rfl, sN_none] at this
  exact this
theorem rlay_bad {k : Nat} {x a b v : Int} (hk : 2 ≤ k) (h : a < 0 ∨ b < 1 ∨ 8 < b ∨ 8 - b < a) : dormerref02_Lay.f k x a b v = some x := by
  obtain ⟨k, rfl⟩ : ∃ m, k = m + 2 := ⟨k - 2, by omega⟩
  simp only [dormerref02_Lay.f, dormerref02_Lay.l0, dormerref02_Lay.j1]
  by_cases h1 : (0 : Int) < b
  · rw [if_pos h1, ris_bad h, Option.bind_some, if_neg (by decide)]
  · rw [if_neg h1, if_neg (by decide)]
end Go.Proofs.Ytpbgehgbonilgaa.NF
