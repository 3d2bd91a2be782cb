/- What the printed functions (namespace Fn) come to, on whole numbers with bits. Conditions: those each lemma names. -/
import Derived.Test.YtpkffpcdmglleaaFnx1
import Derived.Test.YtpkffpcdmglleaaNB
set_option linter.unusedVariables false
set_option linter.unusedSimpArgs false
namespace Go.Proofs.Ytpkffpcdmglleaa.NF
open Go.RowKit Go.Proofs.Ytpkffpcdmglleaa.NL Go.Proofs.Ytpkffpcdmglleaa.Fn Go.Proofs.YtpkffpcdmglleaaW.PrintWords Go.Proofs.YtpkffpcdmglleaaW.PrintLast Go.Proofs.YtpkffpcdmglleaaW.PrintMore

theorem none_ok {lo n : Nat} (hn : 1 ≤ n) (h : lo + n ≤ 64) : field_none.f lo n = some false := by
  unfold field_none.f
  rw [if_neg (by omega), if_neg (by omega), if_neg (by omega), w64 (by omega) (by omega), if_neg (by omega)]
theorem none_bad {a b : Int} (h : a < 0 ∨ b < 1 ∨ 64 ≤ a ∨ 64 - a < b) : field_none.f a b = some true := by
  unfold field_none.f
  by_cases h1 : a < 0
  · rw [if_pos h1]
  · rw [if_neg h1]
    by_cases h2 : b < 1
    · rw [if_pos h2]
    · rw [if_neg h2]
      by_cases h3 : a ≥ 64
      · rw [if_pos h3]
      · rw [if_neg h3, w64 (by omega) (by omega), if_pos (by omega)]
theorem ones {n : Nat} (h : n ≤ 64) : field_ones.f n = some ((2 ^ n - 1 : Nat) : Int) := by
  unfold field_ones.f
  by_cases h2 : (n : Int) ≥ 64
  · obtain rfl : n = 64 := by omega
    rw [if_pos h2]; rfl
  · rw [if_neg h2, wu (by omega) (by omega), if_pos (by omega)]
    have e : shl .u64 1 (n : Int) = ((2 ^ n : Nat) : Int) := by
      have := shl_nat 1 n h
      unfold shl
      rw [show ((1 : Int)) = ((1 : Nat) : Int) from rfl]
      refine this.trans ?_
      rw [Nat.shiftLeft_eq, Nat.one_mul, Nat.mod_eq_of_lt (Nat.pow_lt_pow_right (by decide) (by omega))]
    have hp : 0 < 2 ^ n := Nat.two_pow_pos n
    have hq : 2 ^ n < 2 ^ 64 := Nat.pow_lt_pow_right (by decide) (by omega)
    have hc := cast_lt hq
    rw [e, wu (by omega) (by omega)]
    congr 1
    omega
theorem mask {lo n : Nat} (hn : 1 ≤ n) (h : lo + n ≤ 64) : field_Mask.f lo n = some ((mN lo n : Nat) : Int) := by
  unfold field_Mask.f
  rw [none_ok hn h, Option.bind_some, if_neg (by decide), ones (by omega), Option.bind_some, wu (by omega) (by omega), if_pos (by omega)]
  have := shl_nat (2 ^ n - 1) lo (by omega)
  unfold shl
  rw [show (IntKind.u64.bits) = 64 from rfl, this, mask_bits h]
theorem mask_bad {a b : Int} (h : a < 0 ∨ b < 1 ∨ 64 ≤ a ∨ 64 - a < b) : field_Mask.f a b = some 0 := by
  unfold field_Mask.f
  rw [none_bad h, Option.bind_some, if_pos rfl]
theorem get {x lo n : Nat} (hx : x < 2 ^ 64) (hn : 1 ≤ n) (h : lo + n ≤ 64) : field_Get.f x lo n = some ((gN x lo n : Nat) : Int) := by
  unfold field_Get.f
  rw [none_ok hn h, Option.bind_some, if_neg (by decide), wu (by omega) (by omega), if_pos (by omega), ones (by omega), Option.bind_some]
  have := shr_nat x lo (by omega)
  unfold shr
  rw [show (IntKind.u64.bits) = 64 from rfl, this, and_nat (Nat.lt_of_le_of_lt (Nat.div_le_self _ _) hx) (Nat.lt_of_lt_of_le (Nat.sub_lt (Nat.two_pow_pos n) (by decide)) (Nat.pow_le_pow_right (by decide) (by omega))), get_bits]
theorem get_bad {x a b : Int} (h : a < 0 ∨ b < 1 ∨ 64 ≤ a ∨ 64 - a < b) : field_Get.f x a b = some 0 := by
  unfold field_Get.f
  rw [none_bad h, Option.bind_some, if_pos rfl]
theorem set {x lo n v : Nat} (hx : x < 2 ^ 64) (hv : v < 2 ^ 64) (hn : 1 ≤ n) (h : lo + n ≤ 64) : field_Set.f x lo n v = some ((sN x lo n v : Nat) : Int) := by
  unfold field_Set.f
  rw [none_ok hn h, Option.bind_some, if_neg (by decide), mask hn h, Option.bind_some, wu (by omega) (by omega), if_pos (by omega)]
  have := shl_nat v lo (by omega)
  unfold shl
  rw [show (IntKind.u64.bits) = 64 from rfl, this, andNot_nat, and_nat (Nat.mod_lt _ (by decide)) (mN_lt h), or_nat (anN_lt _ _) (Nat.and_lt_two_pow _ (mN_lt h)), set_bits hx h]
theorem set_bad {x a b v : Int} (h : a < 0 ∨ b < 1 ∨ 64 ≤ a ∨ 64 - a < b) : field_Set.f x a b v = some x := by
  unfold field_Set.f
  rw [none_bad h, Option.bind_some, if_pos rfl]
theorem power_l (n : Nat) (hn : n ≤ 63) (d : Nat) : ∀ k i : Nat, i + d = n → d < k → dormerref01_Power.l0 k n ((2 ^ i : Nat) : Int) i = some ((2 ^ n : Nat) : Int) := by
  induction d with
  | zero =>
    intro k i h hk
    obtain ⟨k, rfl⟩ : ∃ m, k = m + 1 := ⟨k - 1, by omega⟩
    simp only [dormerref01_Power.l0]
    rw [if_neg (by omega)]
    obtain rfl : i = n := by omega
    rfl
  | succ d ih =>
    intro k i h hk
    obtain ⟨k, rfl⟩ : ∃ m, k = m + 1 := ⟨k - 1, by omega⟩
    simp only [dormerref01_Power.l0]
    have h2 : 2 ^ (i + 1) < 2 ^ 64 := Nat.pow_lt_pow_right (by decide) (by omega)
    have h3 := cast_lt h2
    have h4 : (2 : Nat) ^ (i + 1) = 2 * 2 ^ i := by rw [Nat.pow_succ, Nat.mul_comm]
    rw [if_pos (by omega), wu (by omega) (by omega), w64 (by omega) (by omega)]
    have := ih k (i + 1) (by omega) (by omega)
    rw [h4] at this
    exact this
theorem power {k n : Nat} (hn : n ≤ 63) (hk : 64 ≤ k) : dormerref01_Power.f k n = some ((2 ^ n : Nat) : Int) := by
  unfold dormerref01_Power.f
  exact power_l n hn n k 0 (by omega) (by omega)
theorem pow_ne (n : Nat) : ¬ ((2 ^ n : Nat) : Int) = 0 := by
  have := Nat.two_pow_pos n
  omega
theorem quo (x n : Nat) (hx : x < 2 ^ 64) : IntKind.u64.wrap (Int.tdiv (x : Int) ((2 ^ n : Nat) : Int)) = ((x / 2 ^ n : Nat) : Int) := by
  have h1 : Int.tdiv (x : Int) ((2 ^ n : Nat) : Int) = ((x / 2 ^ n : Nat) : Int) := rfl
  rw [h1]
  exact wu (Int.natCast_nonneg _) (cast_lt (Nat.lt_of_le_of_lt (Nat.div_le_self _ _) hx))
theorem in_ok {f n : Nat} (hn : 1 ≤ n) (h : f + n ≤ 8) : word_in.f f n = some true := by
  unfold word_in.f
  rw [if_pos (by omega), if_pos (by omega), if_pos (by omega), w64 (by omega) (by omega)]
  exact congrArg some (decide_eq_true (by omega))
theorem in_bad {a b : Int} (h : a < 0 ∨ b < 1 ∨ 8 < b ∨ 8 - b < a) : word_in.f a b = some false := by
  unfold word_in.f
  by_cases h1 : a ≥ 0
  · rw [if_pos h1]
    by_cases h2 : b ≥ 1
    · rw [if_pos h2]
      by_cases h3 : b ≤ 8
      · rw [if_pos h3, w64 (by omega) (by omega)]
        exact congrArg some (decide_eq_false (by omega))
      · rw [if_neg h3]
    · rw [if_neg h2]
  · rw [if_neg h1]
theorem cut {x f n : Nat} (hx : x < 2 ^ 64) (hn : 1 ≤ n) (h : f + n ≤ 8) : word_Cut.f x f n = some ((gN x (8 * f) (8 * n) : Nat) : Int) := by
  unfold word_Cut.f
  rw [in_ok hn h, Option.bind_some, if_pos rfl, w64 (by omega) (by omega), w64 (by omega) (by omega)]
  have := get (lo := 8 * f) (n := 8 * n) hx (by omega) (by omega)
  rw [show ((8 : Int) * f) = ((8 * f : Nat) : Int) by omega, show ((8 : Int) * n) = ((8 * n : Nat) : Int) by omega, this]; rfl
theorem cut_bad {x a b : Int} (h : a < 0 ∨ b < 1 ∨ 8 < b ∨ 8 - b < a) : word_Cut.f x a b = some 0 := by
  unfold word_Cut.f
  rw [in_bad h, Option.bind_some, if_neg (by decide)]
theorem lay {x f n v : Nat} (hx : x < 2 ^ 64) (hv : v < 2 ^ 64) (hn : 1 ≤ n) (h : f + n ≤ 8) : word_Lay.f x f n v = some ((sN x (8 * f) (8 * n) v : Nat) : Int) := by
  unfold word_Lay.f
  rw [in_ok hn h, Option.bind_some, if_pos rfl, w64 (by omega) (by omega), w64 (by omega) (by omega)]
  have := set (lo := 8 * f) (n := 8 * n) hx hv (by omega) (by omega)
  rw [show ((8 : Int) * f) = ((8 * f : Nat) : Int) by omega, show ((8 : Int) * n) = ((8 * n : Nat) : Int) by omega, this]; rfl
theorem lay_bad {x a b v : Int} (h : a < 0 ∨ b < 1 ∨ 8 < b ∨ 8 - b < a) : word_Lay.f x a b v = some x := by
  unfold word_Lay.f
  rw [in_bad h, Option.bind_some, if_neg (by decide)]
theorem byte {x i : Nat} (hx : x < 2 ^ 64) (hi : i < 8) : word_Byte.f x i = some ((gN x (8 * i) 8 : Nat) : Int) := by
  unfold word_Byte.f
  have := cut (f := i) (n := 1) hx (by omega) (by omega)
  rw [show word_Cut.f x i 1 = _ from this, Option.bind_some]
  have h2 : gN x (8 * i) (8 * 1) < 2 ^ 8 := gN_lt x (8 * i) 8
  congr 1
  show ((gN x (8 * i) (8 * 1) : Nat) : Int) % 256 = _
  have : (2 : Nat) ^ 8 = 256 := rfl
  rw [Int.emod_eq_of_lt (by omega) (by omega)]
theorem byte_bad {x a : Int} (h : a < 0 ∨ 8 ≤ a) : word_Byte.f x a = some 0 := by
  unfold word_Byte.f
  rw [cut_bad (by omega), Option.bind_some]; rfl
theorem put {x i c : Nat} (hx : x < 2 ^ 64) (hc : c < 256) (hi : i < 8) : word_Put.f x i c = some ((sN x (8 * i) 8 c : Nat) : Int) := by
  unfold word_Put.f
  rw [wu (by omega) (by omega)]
  have := lay (f := i) (n := 1) (v := c) hx (Nat.lt_trans hc (by decide)) (by omega) (by omega)
  rw [show word_Lay.f x i 1 c = _ from this]; rfl
theorem put_bad {x a c : Int} (h : a < 0 ∨ 8 ≤ a) : word_Put.f x a c = some x := by
  unfold word_Put.f
  rw [lay_bad (by omega)]; rfl
theorem rbyte {k x i : Nat} (hk : 64 ≤ k) (hx : x < 2 ^ 64) (hi : i < 8) : dormerref02_Byte.f k x i = some ((gN x (8 * i) 8 : Nat) : Int) := by
  unfold dormerref02_Byte.f
  rw [if_neg (by omega), if_neg (by omega), w64 (by omega) (by omega), show ((8 : Int) * i) = ((8 * i : Nat) : Int) by omega, power (by omega) hk, Option.bind_some, if_neg (pow_ne _), quo x _ hx]
  have h1 : Int.tmod ((x / 2 ^ (8 * i) : Nat) : Int) 256 = ((x / 2 ^ (8 * i) % 256 : Nat) : Int) := rfl
  rw [h1]
  have h2 : x / 2 ^ (8 * i) % 256 < 256 := Nat.mod_lt _ (by decide)
  congr 1
  rw [Int.emod_eq_of_lt (by omega) (by omega)]
  rfl
theorem rbyte_bad {k : Nat} {x a : Int} (h : a < 0 ∨ 8 ≤ a) : dormerref02_Byte.f k x a = some 0 := by
  unfold dormerref02_Byte.f
  by_cases h1 : a < 0
  · rw [if_pos h1]
  · rw [if_neg h1, if_pos (by omega)]
theorem rbytes_l {x : Nat} (hx : x < 2 ^ 64) (d : Nat) : ∀ k i : Nat, i + d = 8 → 64 + d < k → dormerref02_Bytes.l0 k x (ints ((bytesN x).take i)) i = some (ints (bytesN x)) := by
  induction d with
  | zero =>
    intro k i hd hk
    obtain ⟨k, rfl⟩ : ∃ m, k = m + 1 := ⟨k - 1, by omega⟩
    simp only [dormerref02_Bytes.l0]
    obtain rfl : i = 8 := by omega
    rw [if_neg (by omega), List.take_of_length_le (by rw [bytesN_length]; omega)]
  | succ d ih =>
    intro k i hd hk
    obtain ⟨k, rfl⟩ : ∃ m, k = m + 1 := ⟨k - 1, by omega⟩
    simp only [dormerref02_Bytes.l0]
    have hih := ih k (i + 1) (by omega) (by omega)
    rw [take_snocN _ _ (by rw [bytesN_length]; omega), ints_snoc, bytesN_getD _ _ (by omega)] at hih
    have hlen : (ints ((bytesN x).take i)).length ≤ 8 := by rw [ints_length, List.length_take, bytesN_length]; omega
    rw [if_pos (by omega), rbyte (by omega) hx (by omega), Option.bind_some, if_pos (by omega), w64 (by omega) (by omega)]
    exact hih
theorem rbytes {k x : Nat} (hk : 73 ≤ k) (hx : x < 2 ^ 64) : dormerref02_Bytes.f k x = some (ints (bytesN x)) :=
  rbytes_l hx 8 k 0 (by omega) (by omega)
theorem rfrom_l {bs : List Nat} (hl : bs.length = 8) (h : ∀ b ∈ bs, b < 256) (i : Nat) : ∀ k : Nat, i ≤ 8 → i < k → dormerref02_From.l0 k (ints bs) ((valN (bs.drop i) : Nat) : Int) ((i : Int) - 1) = some (((valN bs : Nat) : Int), 0) := by
  induction i with
  | zero =>
    intro k hi hk
    obtain ⟨k, rfl⟩ : ∃ m, k = m + 1 := ⟨k - 1, by omega⟩
    simp only [dormerref02_From.l0]
    rw [if_neg (by omega), List.drop_zero]
  | succ i ih =>
    intro k hi hk
    obtain ⟨k, rfl⟩ : ∃ m, k = m + 1 := ⟨k - 1, by omega⟩
    simp only [dormerref02_From.l0]
    have hih := ih k (by omega) (by omega)
    have hb := getD_lt h i
    have hd : ∀ b ∈ bs.drop i, b < 256 := fun b hb => h b (List.mem_of_mem_drop hb)
    have hdl := valN_lt _ hd
    rw [List.length_drop, hl] at hdl
    have hv : valN (bs.drop i) < 2 ^ 64 := Nat.lt_of_lt_of_le hdl (by rw [show (256 : Nat) = 2 ^ 8 from rfl, ← Nat.pow_mul]; exact Nat.pow_le_pow_right (by decide) (by omega))
    have hv' := cast_lt hv
    rw [drop_consN bs i (by omega)] at hih hv'
    simp only [valN] at hih hv'
    have e : ((i + 1 : Nat) : Int) - 1 = (i : Int) := by omega
    rw [e, if_pos (by omega), if_pos (by omega), if_pos (by rw [ints_length]; omega)]
    have hrd : rd (ints bs) i = ((bs.getD i 0 : Nat) : Int) := by unfold rd; rw [Int.toNat_natCast, ints_getD]
    rw [hrd, wu (a := 256 * _) (by omega) (by omega), wu (a := ((bs.getD i 0 : Nat) : Int)) (by omega) (by omega), wu (by omega) (by omega), w64 (by omega) (by omega)]
    rw [show (256 : Int) * ((valN (bs.drop (i + 1)) : Nat) : Int) + ((bs.getD i 0 : Nat) : Int) = ((bs.getD i 0 + 256 * valN (bs.drop (i + 1)) : Nat) : Int) by omega]
    exact hih
theorem rfrom {k : Nat} {bs : List Nat} (hk : 9 ≤ k) (hl : bs.length = 8) (h : ∀ b ∈ bs, b < 256) : dormerref02_From.f k (ints bs) = some (((valN bs : Nat) : Int), 0) := by
  unfold dormerref02_From.f
  rw [if_pos (by rw [ints_length, hl]; rfl)]
  have := rfrom_l hl h 8 k (by omega) (by omega)
  rw [List.drop_of_length_le (by omega)] at this
  exact this
theorem rfrom_bad {k : Nat} {bs : List Nat} (hl : bs.length ≠ 8) : dormerref02_From.f k (ints bs) = some (0, 1) := by
  unfold dormerref02_From.f
  rw [if_neg (by rw [ints_length]; omega)]
theorem rput {k x i c : Nat} (hk : 73 ≤ k) (hx : x < 2 ^ 64) (hc : c < 256) (hi : i < 8) : dormerref02_Put.f k x i c = some ((sN x (8 * i) 8 c : Nat) : Int) := by
  unfold dormerref02_Put.f
  have hb : ∀ b ∈ (bytesN x).set i c, b < 256 := by
    intro b hb
    rcases List.mem_or_eq_of_mem_set hb with hb | rfl
    · exact bytesN_lt x b hb
    · exact hc
  rw [rbytes hk hx, Option.bind_some, if_pos (by omega), if_pos (by omega), if_pos (by omega), if_pos (by rw [ints_length, bytesN_length]; omega), Int.toNat_natCast, ints_set,
    rfrom (by omega) (by rw [List.length_set, bytesN_length]) hb, Option.bind_some, val_set hx hi hc]
theorem rput_bad {k x : Nat} {a c : Int} (hk : 73 ≤ k) (hx : x < 2 ^ 64) (h : a < 0 ∨ 8 ≤ a) : dormerref02_Put.f k x a c = some (x : Int) := by
  unfold dormerref02_Put.f
  have hf := rfrom (k := k) (by omega) (bytesN_length x) (bytesN_lt x)
  rw [val_bytes hx] at hf
  rw [rbytes hk hx, Option.bind_some]
  by_cases h1 : a ≥ 0
  · rw [if_pos h1, if_neg (by omega), hf, Option.bind_some]
  · rw [if_neg h1, hf, Option.bind_some]
end Go.Proofs.Ytpkffpcdmglleaa.NF
