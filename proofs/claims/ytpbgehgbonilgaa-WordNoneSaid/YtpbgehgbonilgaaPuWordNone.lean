/- Bytes that aren't there are nothing, and change nothing; a word needs eight. No condition. -/
import Derived.Test.YtpbgehgbonilgaaFlWordNone
import Derived.Test.YtpbgehgbonilgaaNF
namespace Go.Proofs.Ytpbgehgbonilgaa.Pu
open Go.RowKit Go.Proofs.Ytpbgehgbonilgaa.NL Go.Proofs.Ytpbgehgbonilgaa.Fn Go.Proofs.YtpbgehgbonilgaaW.PrintWords Go.Proofs.YtpbgehgbonilgaaW.PrintMore
theorem awake2 : dormerlaw02_awake.f 200 = some true := by decide +kernel
theorem from_zeros {m : Nat} (h : m ≠ 8) : word_From.f 200 (List.replicate m 0) = some (0, 1) := by
  have := NF.from_bad (k := 200) (bs := List.replicate m 0) (by rw [List.length_replicate]; exact h)
  rw [show ints (List.replicate m 0) = List.replicate m 0 by simp [ints]] at this
  exact this
theorem WordNone : dormerlaw02_WordNone.Pure := by
  intro a0 a1 a2 w0 w1 w2
  have u1 := u8_lit w1
  have u2 := u8_lit w2
  obtain ⟨b, rfl⟩ := Int.eq_ofNat_of_zero_le u1.1
  obtain ⟨c, rfl⟩ := Int.eq_ofNat_of_zero_le u2.1
  obtain ⟨A, hA⟩ : ∃ A : Int, A = ((b % 9 : Nat) : Int) := ⟨_, rfl⟩
  have hA0 : 0 ≤ A := by omega
  have hA9 : A < 9 := by omega
  have hc0 : 0 ≤ (c : Int) := by omega
  have h1 : A < 0 ∨ 9 - A + (c : Int) < 1 ∨ 8 < 9 - A + (c : Int) ∨ 8 - (9 - A + (c : Int)) < A := by clear hA w1 w2 u1; omega
  have e1 : wrap64 (Int.tmod (b : Int) 9) = A := by
    rw [show Int.tmod (b : Int) 9 = ((b % 9 : Nat) : Int) from rfl, w64 (by omega) (by omega), hA]
  have e2 : wrap64 (wrap64 (9 - A) + wrap64 (c : Int)) = 9 - A + c := by
    rw [w64 (a := 9 - A) (by omega) (by omega), w64 (a := (c : Int)) (by omega) (by omega), w64 (by omega) (by omega)]
  have e3 : wrap64 (-1 - A) = -1 - A := w64 (by omega) (by omega)
  have e4 : wrap64 (8 + wrap64 (c : Int)) = 8 + c := by rw [w64 (a := (c : Int)) (by omega) (by omega), w64 (by omega) (by omega)]
  have e5 : wrap64 (Int.tmod (c : Int) 8) = ((c % 8 : Nat) : Int) := by
    rw [show Int.tmod (c : Int) 8 = ((c % 8 : Nat) : Int) from rfl, w64 (by omega) (by omega)]
  have e6 : wrap64 (9 + wrap64 (c : Int)) = ((9 + c : Nat) : Int) := by rw [w64 (a := (c : Int)) (by omega) (by omega), w64 (by omega) (by omega)]; omega
  have g1 : (0 : Int) ≤ ((c % 8 : Nat) : Int) := Int.natCast_nonneg _
  have g2 : c % 8 ≤ 281474976710656 := by clear e1 e2 e3 e4 e5 e6; omega
  have g3 : (0 : Int) ≤ ((9 + c : Nat) : Int) := Int.natCast_nonneg _
  have g4 : 9 + c ≤ 281474976710656 := by clear e1 e2 e3 e4 e5 e6; omega
  have z1 := from_zeros (m := c % 8) (by clear e1 e2 e3 e4 e5 e6; omega)
  have z2 := from_zeros (m := 9 + c) (by clear e1 e2 e3 e4 e5 e6; omega)
  have n2 : -1 - A < 0 ∨ (2 : Int) < 1 ∨ 8 < (2 : Int) ∨ 8 - 2 < -1 - A := Or.inl (by clear e1 e2 e3 e4 e5 e6; omega)
  have n3 : A < 0 ∨ (0 : Int) < 1 ∨ 8 < (0 : Int) ∨ 8 - 0 < A := Or.inr (Or.inl (by decide))
  have n4 : 8 + (c : Int) < 0 ∨ 8 ≤ 8 + (c : Int) := Or.inr (by clear e1 e2 e3 e4 e5 e6; omega)
  have n5 : -1 - A < 0 ∨ 8 ≤ -1 - A := Or.inl (by clear e1 e2 e3 e4 e5 e6; omega)
  refine ⟨200, ?_⟩
  unfold dormerlaw02_WordNone.f
  rw [awake2, Option.bind_some, e1, e2, e3, e4, e5, e6, if_pos g1, Int.toNat_natCast, if_pos g2, z1, Option.bind_some, if_pos g3, Int.toNat_natCast, if_pos g4, z2, Option.bind_some, if_pos rfl,
    NF.cut_bad h1, Option.bind_some, if_pos rfl, NF.lay_bad h1, Option.bind_some, if_pos rfl, NF.cut_bad n2, Option.bind_some, if_pos rfl, NF.lay_bad n3, Option.bind_some, if_pos rfl, NF.put_bad n4, Option.bind_some, if_pos rfl,
    NF.byte_bad n5, Option.bind_some, if_pos rfl, if_pos rfl]
  rfl
end Go.Proofs.Ytpbgehgbonilgaa.Pu
