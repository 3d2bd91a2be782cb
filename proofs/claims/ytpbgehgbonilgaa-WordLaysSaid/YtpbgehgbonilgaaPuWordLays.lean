/- What was laid is cut; the other bytes stay; laid again what was there it is as it was. No condition. -/
import Derived.Test.YtpbgehgbonilgaaCn
import Derived.Test.YtpbgehgbonilgaaFw
set_option linter.unusedVariables false
namespace Go.Proofs.Ytpbgehgbonilgaa.Pu
open Go.RowKit Go.Proofs.Ytpbgehgbonilgaa.NL Go.Proofs.Ytpbgehgbonilgaa.Fn Go.Proofs.YtpbgehgbonilgaaW.PrintWords Go.Proofs.YtpbgehgbonilgaaW.PrintLast Go.Proofs.YtpbgehgbonilgaaW.PrintMore
theorem awake2 : dormerlaw02_awake.f 200 = some true := by decide +kernel
set_option maxHeartbeats 1000000 in
set_option maxRecDepth 100000 in
theorem lays_any (x v a b : Int) (w : World) (ha0 : 0 ≤ a) (ha : a < 256) (hb0 : 0 ≤ b) (hb : b < 256)
    (hr0 : 0 ≤ b % (8 - a % 8)) (hr1 : b % (8 - a % 8) < 8)
    (t1 : (Cn.CutI (Cn.LayI x (a % 8) (1 + b % (8 - a % 8)) v) (a % 8) (1 + b % (8 - a % 8)) == Cn.CutI v 0 (1 + b % (8 - a % 8))) = true)
    (t2 : (Cn.LayI (Cn.LayI x (a % 8) (1 + b % (8 - a % 8)) v) (a % 8) (1 + b % (8 - a % 8)) (Cn.CutI x (a % 8) (1 + b % (8 - a % 8))) == x) = true)
    (Hi : Hid (∀ i : Int, a % 8 ≤ i → i < a % 8 + (1 + b % (8 - a % 8)) → (Cn.ByteI (Cn.LayI x (a % 8) (1 + b % (8 - a % 8)) v) i != Cn.ByteI v (i - a % 8)) = false))
    (Ho : Hid (∀ i : Int, 0 ≤ i → i < 8 → (i < a % 8 ∨ a % 8 + (1 + b % (8 - a % 8)) ≤ i) → (Cn.ByteI (Cn.LayI x (a % 8) (1 + b % (8 - a % 8)) v) i != Cn.ByteI x i) = false)) :
    Calls Try.prog 11 #[.int .u64 x, .int .u64 v, .agg #[.int .u8 a, .int .u8 b]] w fun e w' => e = .returned (.bool true) ∧ Below w.heap.size w w' := by
  go_enter Try.func11, Try.ntmps11
  go_wp2_with fail
  refine (dormerlaw02_awake.calls 200 true _ awake2).mono ?_
  rintro e w1 ⟨rfl, HB1⟩
  have c0 : w1.cell? ⟨w.heap.size, 0, none⟩ = some (.int .u8 a) := (HB1.cell (by simp)).trans (World.cell?_alloc_at _ _ _ _ rfl)
  have c1 : w1.cell? ⟨w.heap.size, 1, none⟩ = some (.int .u8 b) := (HB1.cell (by simp)).trans (World.cell?_alloc_at _ _ _ _ rfl)
  have HB := Aside0.mk (below_step (below_alloc (Below.refl _ w) _) HB1)
  clear HB1
  go_wp2_with (first | (go_at_call 31; refine (Cn.lay_any _ _ _ _ _).mono ?_; rintro e w' ⟨rfl, ⟨nd, rfl⟩⟩))
  go_loopw [11] (fun i wr => ∃ k : Nat, k ≤ 8 ∧ i = .int .i64 k ∧ Aside0 (Below w.heap.size w wr)) (fun i _ => 8 - (intOf i).toNat)
  case atStart => exact ⟨0, by omega, rfl, ⟨pw_below_drewN HB.out nd⟩⟩
  case round =>
    obtain ⟨k, hk, rfl, HBr⟩ := hrel
    clear HB c0 c1
    by_cases hlt : k < 8
    · by_cases h1 : a % 8 ≤ (k : Int)
      · by_cases h2 : (k : Int) < a % 8 + (1 + b % (8 - a % 8))
        · have e1 := Hi.out k h1 h2
          go_wp2_with (first | (go_at_call 33; refine (Cn.byte_any _ _ _).mono ?_; rintro e w' ⟨rfl, ⟨nd, rfl⟩⟩) | (go_at_call 29; refine (Cn.cut_any _ _ _ _).mono ?_; rintro e w' ⟨rfl, ⟨nd, rfl⟩⟩) | (go_at_call 31; refine (Cn.lay_any _ _ _ _ _).mono ?_; rintro e w' ⟨rfl, ⟨nd, rfl⟩⟩))
          exact ⟨⟨k + 1, by omega, by go_num, ⟨pw_below_drewN HBr.out _⟩⟩, by simp [intOf]; omega⟩
        · have e1 := Ho.out k (by omega) (by omega) (.inr (by omega))
          go_wp2_with (first | (go_at_call 33; refine (Cn.byte_any _ _ _).mono ?_; rintro e w' ⟨rfl, ⟨nd, rfl⟩⟩) | (go_at_call 29; refine (Cn.cut_any _ _ _ _).mono ?_; rintro e w' ⟨rfl, ⟨nd, rfl⟩⟩) | (go_at_call 31; refine (Cn.lay_any _ _ _ _ _).mono ?_; rintro e w' ⟨rfl, ⟨nd, rfl⟩⟩))
          exact ⟨⟨k + 1, by omega, by go_num, ⟨pw_below_drewN HBr.out _⟩⟩, by simp [intOf]; omega⟩
      · have e1 := Ho.out k (by omega) (by omega) (.inl (by omega))
        go_wp2_with (first | (go_at_call 33; refine (Cn.byte_any _ _ _).mono ?_; rintro e w' ⟨rfl, ⟨nd, rfl⟩⟩) | (go_at_call 29; refine (Cn.cut_any _ _ _ _).mono ?_; rintro e w' ⟨rfl, ⟨nd, rfl⟩⟩) | (go_at_call 31; refine (Cn.lay_any _ _ _ _ _).mono ?_; rintro e w' ⟨rfl, ⟨nd, rfl⟩⟩))
        exact ⟨⟨k + 1, by omega, by go_num, ⟨pw_below_drewN HBr.out _⟩⟩, by simp [intOf]; omega⟩
    · go_wp2_with (first | (go_at_call 33; refine (Cn.byte_any _ _ _).mono ?_; rintro e w' ⟨rfl, ⟨nd, rfl⟩⟩) | (go_at_call 29; refine (Cn.cut_any _ _ _ _).mono ?_; rintro e w' ⟨rfl, ⟨nd, rfl⟩⟩) | (go_at_call 31; refine (Cn.lay_any _ _ _ _ _).mono ?_; rintro e w' ⟨rfl, ⟨nd, rfl⟩⟩))
      go_ret
      exact ⟨rfl, by repeat (first | exact HBr.out | apply pw_below_drewN)⟩
theorem WordLays (a0 a1 a b : Int) (w : World) (w0 : (Lit.int .u64 a0).wf = true) (w1 : (Lit.int .u64 a1).wf = true) (wa : (Lit.int .u8 a).wf = true) (wb : (Lit.int .u8 b).wf = true) :
    Calls Try.prog 11 #[.int .u64 a0, .int .u64 a1, .agg #[.int .u8 a, .int .u8 b]] w fun e w' => e = .returned (.bool true) ∧ Below w.heap.size w w' := by
  have u0 := u64_lit w0
  have u1 := u64_lit w1
  have ua := u8_lit wa
  have ub := u8_lit wb
  obtain ⟨x, rfl⟩ := Int.eq_ofNat_of_zero_le u0.1
  obtain ⟨v, rfl⟩ := Int.eq_ofNat_of_zero_le u1.1
  obtain ⟨a, rfl⟩ := Int.eq_ofNat_of_zero_le ua.1
  obtain ⟨b, rfl⟩ := Int.eq_ofNat_of_zero_le ub.1
  have hx := nat_lt u0.2
  have hv := nat_lt u1.2
  obtain ⟨f, hf⟩ : ∃ f, f = a % 8 := ⟨_, rfl⟩
  have hf8 : f < 8 := by omega
  have hm : b % (8 - f) < 8 - f := Nat.mod_lt _ (by omega)
  obtain ⟨n, hn⟩ : ∃ n, n = 1 + b % (8 - f) := ⟨_, rfl⟩
  have n1 : 1 ≤ n := by omega
  have n2 : f + n ≤ 8 := by omega
  have e1 : (a : Int) % 8 = (f : Int) := by omega
  have e2 : (b : Int) % (8 - (f : Int)) = ((b % (8 - f) : Nat) : Int) := by
    rw [show (8 : Int) - (f : Int) = ((8 - f : Nat) : Int) by omega]; rfl
  have e3 : (1 : Int) + ((b % (8 - f) : Nat) : Int) = (n : Int) := by omega
  have l1 : Cn.LayI x f n v = ((sN x (8 * f) (8 * n) v : Nat) : Int) := Cn.layI hx hv n1 n2
  have hy : sN x (8 * f) (8 * n) v < 2 ^ 64 := sN_lt (by omega) hx
  have c1 : Cn.CutI ((sN x (8 * f) (8 * n) v : Nat) : Int) f n = ((gN (sN x (8 * f) (8 * n) v) (8 * f) (8 * n) : Nat) : Int) := Cn.cutI hy n1 n2
  have c2 : Cn.CutI v 0 n = ((gN v (8 * 0) (8 * n) : Nat) : Int) := Cn.cutI (f := 0) hv n1 (by omega)
  have c3 : Cn.CutI x f n = ((gN x (8 * f) (8 * n) : Nat) : Int) := Cn.cutI hx n1 n2
  have l2 : Cn.LayI ((sN x (8 * f) (8 * n) v : Nat) : Int) f n ((gN x (8 * f) (8 * n) : Nat) : Int) = ((sN (sN x (8 * f) (8 * n) v) (8 * f) (8 * n) (gN x (8 * f) (8 * n)) : Nat) : Int) := Cn.layI hy (gN_lt64 (by omega)) n1 n2
  have b1 : gN (sN x (8 * f) (8 * n) v) (8 * f) (8 * n) = gN v (8 * 0) (8 * n) := by
    rw [gN_sN_same]; unfold gN; rw [Nat.mul_zero, Nat.pow_zero, Nat.div_one]
  have inn : ∀ i : Int, (f : Int) ≤ i → i < (f : Int) + (n : Int) → (Cn.ByteI ((sN x (8 * f) (8 * n) v : Nat) : Int) i != Cn.ByteI v (i - (f : Int))) = false := by
    intro i h1 h2
    obtain ⟨i, rfl⟩ := Int.eq_ofNat_of_zero_le (show 0 ≤ i by omega)
    rw [show (i : Int) - (f : Int) = ((i - f : Nat) : Int) by omega, Cn.byteI hy (by omega), Cn.byteI hv (by omega)]
    have : gN (sN x (8 * f) (8 * n) v) (8 * i) 8 = gN v (8 * (i - f)) 8 := eq_bits fun j => by
      rw [gN_bit, gN_bit, sN_bit]
      by_cases hj : j < 8
      · rw [if_pos (by omega)]
        have e : 8 * i + j - 8 * f = 8 * (i - f) + j := by omega
        simp [hj, e]
      · simp [hj]
    rw [this]; simp
  have outn : ∀ i : Int, 0 ≤ i → i < 8 → (i < (f : Int) ∨ (f : Int) + (n : Int) ≤ i) → (Cn.ByteI ((sN x (8 * f) (8 * n) v : Nat) : Int) i != Cn.ByteI x i) = false := by
    intro i h0 h8 h1
    obtain ⟨i, rfl⟩ := Int.eq_ofNat_of_zero_le h0
    rw [Cn.byteI hy (by omega), Cn.byteI hx (by omega)]
    have : gN (sN x (8 * f) (8 * n) v) (8 * i) 8 = gN x (8 * i) 8 := eq_bits fun j => by
      rw [gN_bit, gN_bit, sN_bit]
      by_cases hj : j < 8
      · rw [if_neg (by omega)]
      · simp [hj]
    rw [this]; simp
  have main := lays_any x v a b w (by omega) (by omega) (by omega) (by omega)
  rw [e1, e2, e3, l1, c1, c2, c3, l2, b1, sN_gN] at main
  exact main (by omega) (by omega) (beq_self_eq_true _) (beq_self_eq_true _) inn outn
end Go.Proofs.Ytpbgehgbonilgaa.Pu
