/- Two fields apart don't know of each other; in whichever order both are set it is the same. No condition. -/
import Derived.Test.YtpbgehgbonilgaaCn
namespace Go.Proofs.Ytpbgehgbonilgaa.Pu
open Go.RowKit Go.Proofs.Ytpbgehgbonilgaa.NL Go.Proofs.Ytpbgehgbonilgaa.Fn Go.Proofs.YtpbgehgbonilgaaW.PrintWords Go.Proofs.YtpbgehgbonilgaaW.PrintLast Go.Proofs.YtpbgehgbonilgaaW.PrintMore
set_option maxHeartbeats 1000000 in
set_option maxRecDepth 100000 in
theorem apart_any (x p q l : Int) (w : World) (hl0 : 0 ≤ l) (hl : l < 256)
    (t1 : (Cn.SetI (Cn.SetI x 0 (1 + l % 63) p) (1 + l % 63) (64 - (1 + l % 63)) q == Cn.SetI (Cn.SetI x (1 + l % 63) (64 - (1 + l % 63)) q) 0 (1 + l % 63) p) = true)
    (t2 : (Cn.GetI (Cn.SetI x (1 + l % 63) (64 - (1 + l % 63)) q) 0 (1 + l % 63) == Cn.GetI x 0 (1 + l % 63)) = true)
    (t3 : (Cn.GetI (Cn.SetI x 0 (1 + l % 63) p) (1 + l % 63) (64 - (1 + l % 63)) == Cn.GetI x (1 + l % 63) (64 - (1 + l % 63))) = true) :
    Calls Try.prog 6 #[.int .u64 x, .agg #[.int .u64 p, .int .u64 q], .int .u8 l] w fun e w' =>
      e = .returned (.bool (Cn.SetI (Cn.SetI x 0 (1 + l % 63) p) (1 + l % 63) (64 - (1 + l % 63)) q == bits .or .u64 (Cn.GetI p 0 (1 + l % 63)) (IntKind.u64.wrap (Cn.GetI q 0 (64 - (1 + l % 63)) * 2 ^ (1 + l % 63).toNat)))) ∧ Below w.heap.size w w' := by
  go_enter Try.func6, Try.ntmps6
  go_wp2_with (first | (go_at_call 15; refine (dormerlaw01_awake.calls true _ NF.awake1).mono ?_; rintro e w' ⟨rfl, ⟨nd, rfl⟩⟩))
  go_quiet ((first | (go_at_call 22; exact Cn.q_of (Cn.set_any _ _ _ _ _)) | (go_at_call 22; exact Cn.q_add (Cn.set_any _ _ _ _ _))))
  go_wp2_with fail
  go_quiet ((first | (go_at_call 22; exact Cn.q_of (Cn.set_any _ _ _ _ _)) | (go_at_call 22; exact Cn.q_add (Cn.set_any _ _ _ _ _))))
  go_wp2_with fail
  go_quiet ((first | (go_at_call 22; exact Cn.q_of (Cn.set_any _ _ _ _ _)) | (go_at_call 22; exact Cn.q_add (Cn.set_any _ _ _ _ _)) | (go_at_call 18; exact Cn.q_of (Cn.get_any _ _ _ _)) | (go_at_call 18; exact Cn.q_add (Cn.get_any _ _ _ _))))
  go_wp2_with fail
  go_ret
  refine ⟨rfl, ?_⟩
  repeat (first | exact Below.refl _ _ | apply pw_below_drewN | apply below_alloc)
theorem FieldApart (a0 p q l : Int) (w : World) (w0 : (Lit.int .u64 a0).wf = true) (wp : (Lit.int .u64 p).wf = true) (wq : (Lit.int .u64 q).wf = true) (wl : (Lit.int .u8 l).wf = true) :
    Calls Try.prog 6 #[.int .u64 a0, .agg #[.int .u64 p, .int .u64 q], .int .u8 l] w fun e w' => e = .returned (.bool true) ∧ Below w.heap.size w w' := by
  have u0 := u64_lit w0
  have up := u64_lit wp
  have uq := u64_lit wq
  have ul := u8_lit wl
  obtain ⟨x, rfl⟩ := Int.eq_ofNat_of_zero_le u0.1
  obtain ⟨p, rfl⟩ := Int.eq_ofNat_of_zero_le up.1
  obtain ⟨q, rfl⟩ := Int.eq_ofNat_of_zero_le uq.1
  obtain ⟨b, rfl⟩ := Int.eq_ofNat_of_zero_le ul.1
  have hx := nat_lt u0.2
  have hp := nat_lt up.2
  have hq := nat_lt uq.2
  obtain ⟨k, hk⟩ : ∃ k, k = 1 + b % 63 := ⟨_, rfl⟩
  have k1 : 1 ≤ k := by omega
  have k2 : k ≤ 63 := by omega
  have e1 : (1 : Int) + (b : Int) % 63 = (k : Int) := by omega
  have e2 : (64 : Int) - (k : Int) = ((64 - k : Nat) : Int) := by omega
  have s1 : Cn.SetI x 0 k p = ((sN x 0 k p : Nat) : Int) := Cn.setI (lo := 0) hx hp k1 (by omega)
  have s2 : Cn.SetI x k ((64 - k : Nat) : Int) q = ((sN x k (64 - k) q : Nat) : Int) := Cn.setI hx hq (by omega) (by omega)
  have s3 : Cn.SetI ((sN x 0 k p : Nat) : Int) k ((64 - k : Nat) : Int) q = ((sN (sN x 0 k p) k (64 - k) q : Nat) : Int) := Cn.setI (sN_lt (by omega) hx) hq (by omega) (by omega)
  have s4 : Cn.SetI ((sN x k (64 - k) q : Nat) : Int) 0 k p = ((sN (sN x k (64 - k) q) 0 k p : Nat) : Int) := Cn.setI (lo := 0) (sN_lt (by omega) hx) hp (by omega) (by omega)
  have g1 : Cn.GetI ((sN x k (64 - k) q : Nat) : Int) 0 k = ((gN (sN x k (64 - k) q) 0 k : Nat) : Int) := Cn.getI (lo := 0) (sN_lt (by omega) hx) (by omega) (by omega)
  have g2 : Cn.GetI x 0 k = ((gN x 0 k : Nat) : Int) := Cn.getI (lo := 0) hx (by omega) (by omega)
  have g3 : Cn.GetI ((sN x 0 k p : Nat) : Int) k ((64 - k : Nat) : Int) = ((gN (sN x 0 k p) k (64 - k) : Nat) : Int) := Cn.getI (sN_lt (by omega) hx) (by omega) (by omega)
  have g4 : Cn.GetI x k ((64 - k : Nat) : Int) = ((gN x k (64 - k) : Nat) : Int) := Cn.getI hx (by omega) (by omega)
  have g5 : Cn.GetI p 0 k = ((gN p 0 k : Nat) : Int) := Cn.getI (lo := 0) hp (by omega) (by omega)
  have g6 : Cn.GetI q 0 ((64 - k : Nat) : Int) = ((gN q 0 (64 - k) : Nat) : Int) := Cn.getI (lo := 0) hq (by omega) (by omega)
  have b1 : sN (sN x 0 k p) k (64 - k) q = sN (sN x k (64 - k) q) 0 k p := eq_bits fun i => by
    rw [sN_bit, sN_bit, sN_bit, sN_bit]
    by_cases h1 : i < k
    · rw [if_neg (by omega), if_pos (by omega), if_pos (by omega)]
    · rw [if_neg (c := 0 ≤ i ∧ i < 0 + k) (by omega), if_neg (c := 0 ≤ i ∧ i < 0 + k) (by omega)]
  have b2 : gN (sN x k (64 - k) q) 0 k = gN x 0 k := eq_bits fun i => by
    rw [gN_bit, gN_bit, sN_bit]
    by_cases h1 : i < k
    · rw [if_neg (by omega)]
    · simp [h1]
  have b3 : gN (sN x 0 k p) k (64 - k) = gN x k (64 - k) := eq_bits fun i => by
    rw [gN_bit, gN_bit, sN_bit, if_neg (by omega)]
  have b4 : sN (sN x 0 k p) k (64 - k) q = (gN p 0 k ||| (gN q 0 (64 - k) <<< k) % 2 ^ 64) := eq_bits fun i => by
    rw [sN_bit, sN_bit, Nat.testBit_or, Nat.testBit_mod_two_pow, Nat.testBit_shiftLeft, gN_bit, gN_bit]
    by_cases h1 : i < k
    · rw [if_neg (by omega), if_pos (by omega)]
      have h2 : ¬ k ≤ i := by omega
      simp [h1, h2]
    · by_cases h3 : i < 64
      · rw [if_pos (by omega)]
        have h2 : k ≤ i := by omega
        have h4 : i - k < 64 - k := by omega
        simp [h1, h2, h3, h4]
      · rw [if_neg (by omega), if_neg (by omega), bit_high hx (by omega)]
        simp [h1, h3]
  have r1 : IntKind.u64.wrap (((gN q 0 (64 - k) : Nat) : Int) * 2 ^ (k : Int).toNat) = (((gN q 0 (64 - k) <<< k) % 2 ^ 64 : Nat) : Int) := by
    have h := shl_nat (gN q 0 (64 - k)) k (by omega)
    rw [Int.toNat_natCast, Nat.min_eq_left (by omega)] at h
    rw [Int.toNat_natCast]
    exact h
  have main := apart_any x p q b w (by omega) (by omega)
  rw [e1, e2, s1, s2, s3, s4, g1, g2, g3, g4, g5, g6, r1, or_nat (gN_lt64 (by omega)) (Nat.mod_lt _ (by decide)), ← b4, b1, b2, b3] at main
  have m := main (beq_self_eq_true _) (beq_self_eq_true _) (beq_self_eq_true _)
  rw [beq_self_eq_true] at m
  exact m
end Go.Proofs.Ytpbgehgbonilgaa.Pu
