/- Contracts of package mem: what reads. Conditions: those each contract names. -/
import Derived.Test.YtpkffpcdmglleaaMa
set_option linter.unusedVariables false
set_option linter.unusedSimpArgs false
namespace Go.Proofs.Ytpkffpcdmglleaa.Me
open Go.RowKit Go.Maps Go.Proofs.YtpkffpcdmglleaaW.PrintWords Go.Proofs.YtpkffpcdmglleaaW.PrintMore
variable {base : Nat} {w : World} {g mp bits N c : Nat} {pg : Nat → Option Nat} {wd : Nat → Nat} {A : Option Addr} {Tr : List Int}
theorem bits_any (h : MAt base w g mp bits pg wd N A c Tr) : Calls Try.prog 15 #[.pointer (some ⟨g, 0, none⟩)] w fun e w' => e = .returned (.int .i64 (bits : Int)) ∧ w = w' := by
  have c0 := h.c0
  clear h
  go_enter Try.func15, Try.ntmps15
  go_wp2_with fail
  go_ret
  exact ⟨rfl, rfl⟩
theorem bits_nil (w : World) : Calls Try.prog 15 #[.pointer none] w fun e w' => e = .returned (.int .i64 0) ∧ w = w' := by
  go_enter Try.func15, Try.ntmps15
  go_wp2_with fail
  go_ret
  exact ⟨rfl, rfl⟩
theorem may_nil (a : Int) (w : World) : Calls Try.prog 37 #[.pointer none, .int .u64 a] w fun e w' => e = .returned (.int .i64 2) ∧ w = w' := by
  go_enter Try.func37, Try.ntmps37
  go_wp2_with fail
  go_ret
  exact ⟨rfl, rfl⟩
theorem u64_wf (a : Nat) (ha : a < 18446744073709551616) : (Lit.int .u64 (a : Int)).wf = true := by
  have h1 : IntKind.u64.min = 0 := by decide
  have h2 : IntKind.u64.max = 18446744073709551615 := by decide
  simp only [Lit.wf, Bool.and_eq_true, decide_eq_true_eq]
  omega
theorem pow_small {bits : Nat} (hb : bits ≤ 22) : 2 ^ bits ≤ 4194304 := by
  have : 2 ^ bits ≤ 2 ^ 22 := Nat.pow_le_pow_right (by omega) hb
  omega
theorem pow_wrap {bits : Nat} (hb : bits ≤ 22) : IntKind.u64.wrap ((2 : Int) ^ bits) = ((2 ^ bits : Nat) : Int) := by
  have h := pow_small hb
  have e : ((2 : Int) ^ bits) = ((2 ^ bits : Nat) : Int) := by rw [Int.natCast_pow]; rfl
  rw [e, IntKind.wrap_u64]
  generalize 2 ^ bits = E at *
  omega
theorem may_ok (h : MAt base w g mp bits pg wd N A c Tr) (hb : bits ≤ 22) (a : Nat) (ha : a < 2 ^ bits) : Calls Try.prog 37 #[.pointer (some ⟨g, 0, none⟩), .int .u64 (a : Int)] w fun e w' => e = .returned (.int .i64 0) ∧ w = w' := by
  have c0 := h.c0
  have hw := pow_wrap hb
  generalize 2 ^ bits = E at *
  have hl : ¬ ((E : Int) ≤ (a : Int)) := by omega
  clear h ha
  go_enter Try.func37, Try.ntmps37
  go_wp2_with fail
  go_ret
  exact ⟨rfl, rfl⟩
theorem may_bad (h : MAt base w g mp bits pg wd N A c Tr) (hb : bits ≤ 22) (a : Nat) (ha : 2 ^ bits ≤ a) : Calls Try.prog 37 #[.pointer (some ⟨g, 0, none⟩), .int .u64 (a : Int)] w fun e w' => e = .returned (.int .i64 2) ∧ w = w' := by
  have c0 := h.c0
  have hw := pow_wrap hb
  generalize 2 ^ bits = E at *
  have hl : (E : Int) ≤ (a : Int) := by omega
  clear h ha
  go_enter Try.func37, Try.ntmps37
  go_wp2_with fail
  go_ret
  exact ⟨rfl, rfl⟩
theorem aligned_nil (a : Int) (w : World) : Calls Try.prog 34 #[.pointer none, .int .u64 a] w fun e w' => e = .returned (.int .i64 2) ∧ w = w' := by
  go_enter Try.func34, Try.ntmps34
  go_wp2_with (first | (go_at_call 37; with_reducible refine (may_nil _ _).mono ?_; rintro e w' ⟨rfl, rfl⟩))
  go_ret
  exact ⟨rfl, rfl⟩
theorem aligned_bad (h : MAt base w g mp bits pg wd N A c Tr) (hb : bits ≤ 22) (a : Nat) (ha : 2 ^ bits ≤ a) : Calls Try.prog 34 #[.pointer (some ⟨g, 0, none⟩), .int .u64 (a : Int)] w fun e w' => e = .returned (.int .i64 2) ∧ w = w' := by
  have T := Lib.hid (may_bad h hb a ha)
  clear h hb ha
  go_enter Try.func34, Try.ntmps34
  go_wp2_with (first | (go_at_call 37; with_reducible refine T.out.mono ?_; rintro e w' ⟨rfl, rfl⟩))
  go_ret
  exact ⟨rfl, rfl⟩
theorem aligned_off (h : MAt base w g mp bits pg wd N A c Tr) (hb : bits ≤ 22) (a : Nat) (ha : a < 2 ^ bits) (h8 : a % 8 ≠ 0) : Calls Try.prog 34 #[.pointer (some ⟨g, 0, none⟩), .int .u64 (a : Int)] w fun e w' => e = .returned (.int .i64 3) ∧ w = w' := by
  have T := Lib.hid (may_ok h hb a ha)
  have h9 : ¬ ((a : Int) % 8 = 0) := by omega
  clear h hb ha h8
  go_enter Try.func34, Try.ntmps34
  go_wp2_with (first | (go_at_call 37; with_reducible refine T.out.mono ?_; rintro e w' ⟨rfl, rfl⟩))
  go_ret
  exact ⟨rfl, rfl⟩
theorem aligned_ok (h : MAt base w g mp bits pg wd N A c Tr) (hb : bits ≤ 22) (a : Nat) (ha : a < 2 ^ bits) (h8 : a % 8 = 0) : Calls Try.prog 34 #[.pointer (some ⟨g, 0, none⟩), .int .u64 (a : Int)] w fun e w' => e = .returned (.int .i64 0) ∧ w = w' := by
  have T := Lib.hid (may_ok h hb a ha)
  have h9 : (a : Int) % 8 = 0 := by omega
  clear h hb ha h8
  go_enter Try.func34, Try.ntmps34
  go_wp2_with (first | (go_at_call 37; with_reducible refine T.out.mono ?_; rintro e w' ⟨rfl, rfl⟩))
  go_ret
  exact ⟨rfl, rfl⟩
theorem at_any (h : MAt base w g mp bits pg wd N A c Tr) (a : Nat) (ha : a < 18446744073709551616) : Calls Try.prog 35 #[.pointer (some ⟨g, 0, none⟩), .int .u64 (a : Int)] w fun e w' => e = .returned (.int .u64 (wd (a / 8) : Int)) ∧ w = w' := by
  have c1 := h.c1
  have hz : (zeroValue 80).run Try.prog w = .ok (.pointer none) w := by kernel_rfl
  obtain ⟨D, ho, hD, hF⟩ := h.own
  have hk : keyOf Try.prog 30 (.int .u64 ((a / 4096 : Nat) : Int)) = some (key (a / 4096)) := keyOf_int_mk Try.underlying30 (u64_wf _ (by omega))
  have hr := hD (a / 4096)
  have e1 : ((a / 4096 : Nat) : Int) = (a : Int) / 4096 := by omega
  rw [e1] at hk
  have hk := Lib.hid hk
  clear e1
  cases hp : pg (a / 4096) with
  | none =>
    rw [hp] at hr
    have hr := Lib.hid hr
    have hv := h.zero _ hp (a % 4096 / 8) (by omega)
    rw [show a / 4096 * 512 + a % 4096 / 8 = a / 8 by omega] at hv
    rw [hv]
    clear hF hD hp hv h
    go_enter Try.func35, Try.ntmps35
    go_wp2_with (at_lookup; refine wpList_lookup_ptr _ rfl _ _ 64 rfl 30 80 law30 Try.underlying64 hz mp _ D rfl ho _ _ rfl hk.out none hr.out ?_; simp only [ptr])
    go_ret
    exact ⟨rfl, rfl⟩
  | some b =>
    rw [hp] at hr
    have hr := Lib.hid hr
    obtain ⟨cs, hb, hsz, hcs⟩ := h.page _ _ hp
    have hv := hcs (a % 4096 / 8) (by omega)
    rw [show a / 4096 * 512 + a % 4096 / 8 = a / 8 by omega] at hv
    have hc := (blk_cell hb (a % 4096 / 8)).trans hv
    have hi : ((a : Int) % 4096) / 8 = ((a % 4096 / 8 : Nat) : Int) := by omega
    have hi2 : (a % 4096 / 8) < 512 := by omega
    clear hF hD hp hv h hcs hsz hb
    generalize a % 4096 / 8 = q at *
    go_enter Try.func35, Try.ntmps35
    go_wp2_with (at_lookup; refine wpList_lookup_ptr _ rfl _ _ 64 rfl 30 80 law30 Try.underlying64 hz mp _ D rfl ho _ _ rfl hk.out (some b) hr.out ?_; simp only [ptr])
    go_ret
    exact ⟨rfl, rfl⟩
end Go.Proofs.Ytpkffpcdmglleaa.Me
