/- Contracts of package mem: Peek, Get, Store, Put, Forget, New. Conditions: those each contract names. -/
import Derived.Test.YtpkffpcdmglleaaMc
import Derived.Test.YtpkffpcdmglleaaFnx1
set_option linter.unusedVariables false
set_option linter.unusedSimpArgs false
namespace Go.Proofs.Ytpkffpcdmglleaa.Me
open Go.RowKit Go.Maps Go.Proofs.YtpkffpcdmglleaaW.PrintWords Go.Proofs.YtpkffpcdmglleaaW.PrintMore
variable {base : Nat} {w : World} {g mp bits N c : Nat} {pg : Nat → Option Nat} {wd : Nat → Nat} {A : Option Addr} {Tr : List Int}
theorem u64_of_bits {a : Nat} (hb : bits ≤ 22) (ha : a < 2 ^ bits) : a < 18446744073709551616 := by have := pow_small hb; omega
theorem peek_ok (h : MAt base w g mp bits pg wd N A c Tr) (hb : bits ≤ 22) (a : Nat) (ha : a < 2 ^ bits) (h8 : a % 8 = 0) : Calls Try.prog 17 #[.pointer (some ⟨g, 0, none⟩), .int .u64 (a : Int)] w fun e w' => e = .returned (.tuple #[.int .u64 (wd (a / 8) : Int), .int .i64 0]) ∧ w = w' := by
  have T1 := Lib.hid (aligned_ok h hb a ha h8)
  have T2 := Lib.hid (at_any h a (u64_of_bits hb ha))
  clear h hb ha h8
  go_enter Try.func17, Try.ntmps17
  go_wp2_with (first | (go_at_call 34; with_reducible refine T1.out.mono ?_; rintro e w' ⟨rfl, rfl⟩) | (go_at_call 35; with_reducible refine T2.out.mono ?_; rintro e w' ⟨rfl, rfl⟩))
  go_ret2
  exact ⟨rfl, rfl⟩
theorem peek_of {m : Value} {a k : Int} (hk : k ≠ 0) (T : Calls Try.prog 34 #[m, .int .u64 a] w fun e w' => e = .returned (.int .i64 k) ∧ w = w') : Calls Try.prog 17 #[m, .int .u64 a] w fun e w' => e = .returned (.tuple #[.int .u64 0, .int .i64 k]) ∧ w = w' := by
  have T1 := Lib.hid T
  clear T
  go_enter Try.func17, Try.ntmps17
  go_wp2_with (first | (go_at_call 34; with_reducible refine T1.out.mono ?_; rintro e w' ⟨rfl, rfl⟩))
  go_ret2
  exact ⟨rfl, rfl⟩
theorem store_of {m : Value} {a k x : Int} (hk : k ≠ 0) (T : Calls Try.prog 34 #[m, .int .u64 a] w fun e w' => e = .returned (.int .i64 k) ∧ w = w') : Calls Try.prog 18 #[m, .int .u64 a, .int .u64 x] w fun e w' => e = .returned (.int .i64 k) ∧ w = w' := by
  have T1 := Lib.hid T
  clear T
  go_enter Try.func18, Try.ntmps18
  go_wp2_with (first | (go_at_call 34; with_reducible refine T1.out.mono ?_; rintro e w' ⟨rfl, rfl⟩))
  go_ret
  exact ⟨rfl, rfl⟩
/-- What writes one word. -/
def Wrote (base : Nat) (w w' : World) (g mp bits : Nat) (pg : Nat → Option Nat) (wd : Nat → Nat) (N : Nat) (A : Option Addr) (c : Nat) (Tr : List Int) (s x : Nat) : Prop :=
  ∃ pg', MAt base w' g mp bits pg' (put wd s x) (N + 1) A c Tr ∧ More w pg pg' ∧ Kept w w' (MS g mp pg (.slice A Tr.length c)) ∧ ∀ b0, b0 ≤ base → Below b0 w w'
theorem store_ok (h : MAt base w g mp bits pg wd N A c Tr) (hb : bits ≤ 22) (a x : Nat) (ha : a < 2 ^ bits) (h8 : a % 8 = 0) (hx : x < 18446744073709551616) (hN : N < 1000000) :
    Calls Try.prog 18 #[.pointer (some ⟨g, 0, none⟩), .int .u64 (a : Int), .int .u64 (x : Int)] w fun e w' => e = .returned (.int .i64 0) ∧ Wrote base w w' g mp bits pg wd N A c Tr (a / 8) x := by
  have T1 := Lib.hid (aligned_ok h hb a ha h8)
  have T2 := Lib.hid (set_any h a x (u64_of_bits hb ha) hx hN)
  clear h hb ha h8 hx hN
  go_enter Try.func18, Try.ntmps18
  go_wp2_with (first | (go_at_call 34; with_reducible refine T1.out.mono ?_; rintro e w' ⟨rfl, rfl⟩))
  refine T2.out.mono ?_
  rintro e w1 ⟨rfl, hw⟩
  replace hw := Lib.hid hw
  clear T1 T2
  go_wp2_with fail
  go_ret
  exact ⟨rfl, hw.out⟩
theorem get_bad {m : Value} {a : Int} (T : Calls Try.prog 37 #[m, .int .u64 a] w fun e w' => e = .returned (.int .i64 2) ∧ w = w') : Calls Try.prog 20 #[m, .int .u64 a] w fun e w' => e = .returned (.tuple #[.int .u8 0, .int .i64 2]) ∧ w = w' := by
  have T1 := Lib.hid T
  clear T
  go_enter Try.func20, Try.ntmps20
  go_wp2_with (first | (go_at_call 37; with_reducible refine T1.out.mono ?_; rintro e w' ⟨rfl, rfl⟩))
  go_ret2
  exact ⟨rfl, rfl⟩
theorem get_ok (h : MAt base w g mp bits pg wd N A c Tr) (hb : bits ≤ 22) (a : Nat) (ha : a < 2 ^ bits) (r : Int) (hr : Fn.word_Byte.f (wd (a / 8) : Int) ((a % 8 : Nat) : Int) = some r) : Calls Try.prog 20 #[.pointer (some ⟨g, 0, none⟩), .int .u64 (a : Int)] w fun e w' => e = .returned (.tuple #[.int .u8 r, .int .i64 0]) ∧ Drawn0 w w' := by
  have T1 := Lib.hid (may_ok h hb a ha)
  have T2 := Lib.hid (at_any h a (u64_of_bits hb ha))
  have T3 := Lib.hid (Fn.word_Byte.calls _ _ r w hr)
  have e8 : ((a % 8 : Nat) : Int) = (a : Int) % 8 := by omega
  rw [e8] at T3
  clear h hb ha hr e8
  go_enter Try.func20, Try.ntmps20
  go_wp2_with (first | (go_at_call 37; with_reducible refine T1.out.mono ?_; rintro e w' ⟨rfl, rfl⟩) | (go_at_call 35; with_reducible refine T2.out.mono ?_; rintro e w' ⟨rfl, rfl⟩) | (go_at_call 38; with_reducible refine T3.out.mono ?_; rintro e w' ⟨rfl, ⟨nd, rfl⟩⟩))
  go_ret2
  exact ⟨rfl, ⟨nd, rfl⟩⟩
theorem put_bad {m : Value} {a x : Int} (T : Calls Try.prog 37 #[m, .int .u64 a] w fun e w' => e = .returned (.int .i64 2) ∧ w = w') : Calls Try.prog 22 #[m, .int .u64 a, .int .u8 x] w fun e w' => e = .returned (.int .i64 2) ∧ w = w' := by
  have T1 := Lib.hid T
  clear T
  go_enter Try.func22, Try.ntmps22
  go_wp2_with (first | (go_at_call 37; with_reducible refine T1.out.mono ?_; rintro e w' ⟨rfl, rfl⟩))
  go_ret
  exact ⟨rfl, rfl⟩
theorem put_ok (h : MAt base w g mp bits pg wd N A c Tr) (hb : bits ≤ 22) (a r : Nat) (x : Int) (ha : a < 2 ^ bits) (hr : Fn.word_Put.f (wd (a / 8) : Int) ((a % 8 : Nat) : Int) x = some (r : Int)) (hx : r < 18446744073709551616) (hN : N < 1000000) :
    Calls Try.prog 22 #[.pointer (some ⟨g, 0, none⟩), .int .u64 (a : Int), .int .u8 x] w fun e w' => e = .returned (.int .i64 0) ∧ Wrote base w w' g mp bits pg wd N A c Tr (a / 8) r := by
  have T1 := Lib.hid (may_ok h hb a ha)
  have T2 := Lib.hid (at_any h a (u64_of_bits hb ha))
  have T3 := Lib.hid (Fn.word_Put.calls _ _ x (r : Int) w hr)
  have e8 : ((a % 8 : Nat) : Int) = (a : Int) % 8 := by omega
  rw [e8] at T3
  have HH := Lib.hid h
  have hau := u64_of_bits hb ha
  clear h hb ha hr e8
  go_enter Try.func22, Try.ntmps22
  go_wp2_with (first | (go_at_call 37; with_reducible refine T1.out.mono ?_; rintro e w' ⟨rfl, rfl⟩) | (go_at_call 35; with_reducible refine T2.out.mono ?_; rintro e w' ⟨rfl, rfl⟩) | (go_at_call 40; with_reducible refine T3.out.mono ?_; rintro e w' ⟨rfl, ⟨nd, rfl⟩⟩))
  refine (set_any (HH.out.below (pw_below_drewN (Below.refl _ _) nd)) a r hau hx hN).mono ?_
  rintro e w1 ⟨rfl, pg', hM, hmore, hkept, hbel⟩
  have hw : Hid (Wrote base w w1 g mp bits pg wd N A c Tr (a / 8) r) := Lib.hid ⟨pg', hM, hmore, hkept, fun b0 h0 => by
    exact (pw_below_drewN (Below.refl b0 w) nd).trans (hbel b0 h0)⟩
  clear T1 T2 T3 HH hM hmore hkept hbel
  go_wp2_with fail
  go_ret
  exact ⟨rfl, hw.out⟩
end Go.Proofs.Ytpkffpcdmglleaa.Me
