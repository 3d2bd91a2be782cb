/- Of any word: both its parts, laid one behind the other, are the word. No condition. -/
import Derived.Test.YtpbgehgbonilgaaFlWordJoins
import Derived.Test.YtpbgehgbonilgaaNF
namespace Go.Proofs.Ytpbgehgbonilgaa.Pu
open Go.RowKit Go.Proofs.Ytpbgehgbonilgaa.NL Go.Proofs.Ytpbgehgbonilgaa.Fn Go.Proofs.YtpbgehgbonilgaaW.PrintWords Go.Proofs.YtpbgehgbonilgaaW.PrintMore
theorem awake2 : dormerlaw02_awake.f 200 = some true := by decide +kernel
theorem join_bits {x k : Nat} (hx : x < 2 ^ 64) (hk : k ≤ 8) : sN (sN 0 (8 * 0) (8 * k) (gN x (8 * 0) (8 * k))) (8 * k) (8 * (8 - k)) (gN x (8 * k) (8 * (8 - k))) = x := eq_bits fun j => by
  rw [sN_bit, sN_bit, gN_bit, gN_bit]
  by_cases h1 : 8 * k ≤ j
  · by_cases h2 : j < 8 * k + 8 * (8 - k)
    · rw [if_pos ⟨h1, h2⟩]
      have e1 : j - 8 * k < 8 * (8 - k) := by omega
      have e2 : 8 * k + (j - 8 * k) = j := by omega
      simp [e1, e2]
    · rw [if_neg (by omega), if_neg (by omega), bit_high hx (by omega)]
      simp
  · rw [if_neg (by omega), if_pos (by omega)]
    have e1 : j < 8 * k := by omega
    simp [e1]
theorem whole_bits {x : Nat} (hx : x < 2 ^ 64) : sN 0 (8 * 0) (8 * 8) x = x := eq_bits fun j => by
  rw [sN_bit]
  by_cases h : j < 64
  · rw [if_pos (by omega)]
    rfl
  · rw [if_neg (by omega), bit_high hx (by omega)]
    simp
theorem WordJoins : dormerlaw02_WordJoins.Pure := by
  intro a0 a1 w0 w1
  have u0 := u64_lit w0
  have u1 := u8_lit w1
  obtain ⟨x, rfl⟩ := Int.eq_ofNat_of_zero_le u0.1
  obtain ⟨b, rfl⟩ := Int.eq_ofNat_of_zero_le u1.1
  have hx := nat_lt u0.2
  refine ⟨200, ?_⟩
  obtain ⟨m, hm⟩ : ∃ m, m = 1 + b % 7 := ⟨_, rfl⟩
  have hm8 : m ≤ 7 := by omega
  have hm1 : 1 ≤ m := by omega
  have e : wrap64 (1 + wrap64 (Int.tmod (b : Int) 7)) = (m : Int) := by
    rw [show Int.tmod (b : Int) 7 = ((b % 7 : Nat) : Int) from rfl, w64 (a := ((b % 7 : Nat) : Int)) (by omega) (by omega), w64 (by omega) (by omega)]
    omega
  have e8 : wrap64 (8 - (m : Int)) = ((8 - m : Nat) : Int) := by rw [w64 (by omega) (by omega)]; omega
  have c1 : word_Cut.f x 0 m = some ((gN x (8 * 0) (8 * m) : Nat) : Int) := NF.cut (f := 0) hx hm1 (by omega)
  have c2 : word_Cut.f x m ((8 - m : Nat) : Int) = some ((gN x (8 * m) (8 * (8 - m)) : Nat) : Int) := NF.cut hx (by omega) (by omega)
  have c3 : word_Cut.f x 0 8 = some ((gN x (8 * 0) (8 * 8) : Nat) : Int) := NF.cut (f := 0) (n := 8) hx (by omega) (by omega)
  have g1 : gN x (8 * 0) (8 * m) < 2 ^ 64 := gN_lt64 (by omega)
  have g2 : gN x (8 * m) (8 * (8 - m)) < 2 ^ 64 := gN_lt64 (by omega)
  have l1 : word_Lay.f 0 0 m ((gN x (8 * 0) (8 * m) : Nat) : Int) = some ((sN 0 (8 * 0) (8 * m) (gN x (8 * 0) (8 * m)) : Nat) : Int) := NF.lay (x := 0) (f := 0) (by decide) g1 hm1 (by omega)
  have l2 := NF.lay (x := sN 0 (8 * 0) (8 * m) (gN x (8 * 0) (8 * m))) (f := m) (n := 8 - m) (sN_lt (by omega) (by decide)) g2 (by omega) (by omega)
  have l3 : word_Lay.f 0 0 8 x = some ((sN 0 (8 * 0) (8 * 8) x : Nat) : Int) := NF.lay (x := 0) (f := 0) (n := 8) (by decide) hx (by omega) (by omega)
  rw [join_bits hx (by omega)] at l2
  rw [whole_bits hx] at l3
  rw [show gN x (8 * 0) (8 * 8) = x from gN_all hx] at c3
  have hle : gN x (8 * 0) (8 * m) ≤ x := by
    unfold gN
    exact Nat.le_trans (Nat.mod_le _ _) (Nat.div_le_self _ _)
  unfold dormerlaw02_WordJoins.f
  rw [awake2, Option.bind_some, e, e8, c1, Option.bind_some, l1, Option.bind_some, c2, Option.bind_some, l2, Option.bind_some, if_pos rfl, if_pos rfl, c3, Option.bind_some, if_pos rfl, l3, Option.bind_some, if_pos rfl, Option.bind_some]
  exact congrArg some (decide_eq_true (by omega))
end Go.Proofs.Ytpbgehgbonilgaa.Pu
