/- What one deed does to a memory, and the contract of the law's pair. Conditions: those each contract names. -/
import Derived.Test.YtpkffpcdmglleaaMh
import Derived.Test.YtpkffpcdmglleaaNF
set_option linter.unusedVariables false
set_option linter.unusedSimpArgs false
namespace Go.Proofs.Ytpkffpcdmglleaa.Me
open Go.RowKit Go.Maps Go.Proofs.YtpkffpcdmglleaaW.PrintWords Go.Proofs.YtpkffpcdmglleaaW.PrintMore
variable {base : Nat} {w : World} {g mp bits N c : Nat} {pg : Nat → Option Nat} {wd : Nat → Nat} {A : Option Addr} {Tr : List Int}
/-- A memory's words and trace. -/
structure Wt where
  wd : Nat → Nat
  tr : List Int
/-- What a deed gives, and leaves. -/
structure Got where
  y : Nat
  er : Int
  m : Wt
/-- What is left behind deed k at q of x. -/
def did (bits : Nat) (m : Wt) (k : Int) (q x : Nat) : Got :=
  if k = 1 then (if q < 2 ^ bits then ⟨NL.gN (m.wd (q / 8)) (8 * (q % 8)) 8, 0, m⟩ else ⟨0, 2, m⟩)
  else if k = 2 then (if q < 2 ^ bits then ⟨0, 0, ⟨put m.wd (q / 8) (NL.sN (m.wd (q / 8)) (8 * (q % 8)) 8 (x % 256)), m.tr⟩⟩ else ⟨0, 2, m⟩)
  else if k = 3 then (if q < 2 ^ bits then (if q % 8 = 0 then ⟨m.wd (q / 8), 0, ⟨m.wd, m.tr ++ [(q : Int)]⟩⟩ else ⟨0, 3, m⟩) else ⟨0, 2, m⟩)
  else if k = 4 then (if q < 2 ^ bits then (if q % 8 = 0 then ⟨m.wd (q / 8), 0, m⟩ else ⟨0, 3, m⟩) else ⟨0, 2, m⟩)
  else if k = 5 then (if q < 2 ^ bits then (if q % 8 = 0 then ⟨0, 0, ⟨put m.wd (q / 8) x, m.tr⟩⟩ else ⟨0, 3, m⟩) else ⟨0, 2, m⟩)
  else ⟨0, 0, ⟨m.wd, []⟩⟩
/-- A memory with its words and trace, at most so many pages. -/
def Mem (base : Nat) (w : World) (g mp bits i : Nat) (m : Wt) : Prop := ∃ (pg : Nat → Option Nat) (N : Nat) (A : Option Addr) (c : Nat), MAt base w g mp bits pg m.wd N A c m.tr ∧ N ≤ i ∧ m.tr.length ≤ i
/-- A post: a deed's answer, and what is left of the memory. -/
def Did (base : Nat) (w : World) (g mp bits i : Nat) (o : Got) (e : Ending) (w' : World) : Prop :=
  e = .returned (.tuple #[.int .u64 (o.y : Int), .int .i64 o.er]) ∧ Mem base w' g mp bits (i + 1) o.m ∧ ∀ b0, b0 ≤ base → Below b0 w w'
theorem Mem.drewN {i : Nat} {m : Wt} (h : Mem base w g mp bits i m) (n : Nat) : Mem base (w.drewN n) g mp bits i m := by
  obtain ⟨pg, N, A, c, h, h1, h2⟩ := h
  exact ⟨pg, N, A, c, h.below (pw_below_drewN (Below.refl _ _) n), h1, h2⟩
theorem Mem.below {w' : World} {i : Nat} {m : Wt} (h : Mem base w g mp bits i m) (hb : Below w.heap.size w w') : Mem base w' g mp bits i m := by
  obtain ⟨pg, N, A, c, h, h1, h2⟩ := h
  exact ⟨pg, N, A, c, h.below hb, h1, h2⟩
theorem Mem.mono {i j : Nat} {m : Wt} (h : Mem base w g mp bits i m) (hij : i ≤ j) : Mem base w g mp bits j m := by
  obtain ⟨pg, N, A, c, h, h1, h2⟩ := h
  exact ⟨pg, N, A, c, h, by omega, by omega⟩
theorem u8_wrap (x : Nat) : IntKind.u8.wrap (x : Int) = ((x % 256 : Nat) : Int) := by rw [IntKind.wrap_u8]; omega
theorem pair1_ok (h : MAt base w g mp bits pg wd N A c Tr) (hb : bits ≤ 22) (q x : Nat) (hqq : q < 18446744073709551616) (hx : x < 18446744073709551616) (ha : q < 2 ^ bits) (i : Nat) (hN : N ≤ i) (hT : Tr.length ≤ i) (hi : i < 1000) : Calls Try.prog 11 #[.pointer (some ⟨g, 0, none⟩), .agg #[.int .i64 1, .int .u64 (q : Int), .int .u64 (x : Int)]] w (Did base w g mp bits i ⟨NL.gN (wd (q / 8)) (8 * (q % 8)) 8, 0, ⟨wd, Tr⟩⟩) := by
  have hbg : base ≤ w.heap.size := Nat.le_trans h.gm.2.1 (Nat.le_of_lt (blk_lt h.blk))
  have M := h.below (below_alloc (Below.refl _ _) (.cells #[.int .i64 1, .int .u64 (q : Int), .int .u64 (x : Int)] 34))
  have B : ∀ b0, b0 ≤ base → Below b0 w (w.alloc (.cells #[.int .i64 1, .int .u64 (q : Int), .int .u64 (x : Int)] 34)) := fun b0 h0 => (Below.refl _ _).alloc (by omega) _
  have T := get_ok M hb q ha _ (NF.byte (h.fits _) (by omega))
  have hr := NL.gN_lt (wd (q / 8)) (8 * (q % 8)) 8
  generalize NL.gN (wd (q / 8)) (8 * (q % 8)) 8 = r at *
  replace hr : r < 256 := hr
  replace T := Lib.hid T
  replace M := Lib.hid M
  replace B := Lib.hid B
  clear h
  go_enter Try.func11, Try.ntmps11
  go_wp2_with (first | (go_at_call 20; with_reducible refine T.out.mono ?_; rintro e w' ⟨rfl, ⟨nd, rfl⟩⟩))
  go_ret2
  exact ⟨rfl, ⟨pg, N, A, c, M.out.below (pw_below_drewN (Below.refl _ _) nd), by omega, by show Tr.length ≤ _; omega⟩, fun b0 h0 => pw_below_drewN (B.out b0 h0) nd⟩
theorem pair1_bad (h : MAt base w g mp bits pg wd N A c Tr) (hb : bits ≤ 22) (q x : Nat) (hqq : q < 18446744073709551616) (hx : x < 18446744073709551616) (ha : 2 ^ bits ≤ q) (i : Nat) (hN : N ≤ i) (hT : Tr.length ≤ i) (hi : i < 1000) : Calls Try.prog 11 #[.pointer (some ⟨g, 0, none⟩), .agg #[.int .i64 1, .int .u64 (q : Int), .int .u64 (x : Int)]] w (Did base w g mp bits i ⟨0, 2, ⟨wd, Tr⟩⟩) := by
  have hbg : base ≤ w.heap.size := Nat.le_trans h.gm.2.1 (Nat.le_of_lt (blk_lt h.blk))
  have M := h.below (below_alloc (Below.refl _ _) (.cells #[.int .i64 1, .int .u64 (q : Int), .int .u64 (x : Int)] 34))
  have B : ∀ b0, b0 ≤ base → Below b0 w (w.alloc (.cells #[.int .i64 1, .int .u64 (q : Int), .int .u64 (x : Int)] 34)) := fun b0 h0 => (Below.refl _ _).alloc (by omega) _
  have T := get_bad (may_bad M hb q ha)
  replace T := Lib.hid T
  replace M := Lib.hid M
  replace B := Lib.hid B
  clear h
  go_enter Try.func11, Try.ntmps11
  go_wp2_with (first | (go_at_call 20; with_reducible refine T.out.mono ?_; rintro e w' ⟨rfl, rfl⟩))
  go_ret2
  exact ⟨rfl, ⟨pg, N, A, c, M.out, by omega, by show Tr.length ≤ _; omega⟩, B.out⟩
theorem pair2_ok (h : MAt base w g mp bits pg wd N A c Tr) (hb : bits ≤ 22) (q x : Nat) (hqq : q < 18446744073709551616) (hx : x < 18446744073709551616) (ha : q < 2 ^ bits) (i : Nat) (hN : N ≤ i) (hT : Tr.length ≤ i) (hi : i < 1000) : Calls Try.prog 11 #[.pointer (some ⟨g, 0, none⟩), .agg #[.int .i64 2, .int .u64 (q : Int), .int .u64 (x : Int)]] w (Did base w g mp bits i ⟨0, 0, ⟨put wd (q / 8) (NL.sN (wd (q / 8)) (8 * (q % 8)) 8 (x % 256)), Tr⟩⟩) := by
  have hbg : base ≤ w.heap.size := Nat.le_trans h.gm.2.1 (Nat.le_of_lt (blk_lt h.blk))
  have M := h.below (below_alloc (Below.refl _ _) (.cells #[.int .i64 2, .int .u64 (q : Int), .int .u64 (x : Int)] 34))
  have B : ∀ b0, b0 ≤ base → Below b0 w (w.alloc (.cells #[.int .i64 2, .int .u64 (q : Int), .int .u64 (x : Int)] 34)) := fun b0 h0 => (Below.refl _ _).alloc (by omega) _
  have T := put_ok M hb q _ ((x % 256 : Nat) : Int) ha (NF.put (h.fits _) (by omega) (by omega)) (NL.sN_lt (by omega) (h.fits _)) (by omega)
  generalize NL.sN (wd (q / 8)) (8 * (q % 8)) 8 (x % 256) = r at *
  rw [show ((x % 256 : Nat) : Int) = (x : Int) % 256 by omega] at T
  replace T := Lib.hid T
  replace M := Lib.hid M
  replace B := Lib.hid B
  clear h
  go_enter Try.func11, Try.ntmps11
  go_wp2_with fail
  refine T.out.mono ?_
  rintro e w1 ⟨rfl, pg1, M1, _, _, b1⟩
  replace M1 := Lib.hid M1
  replace b1 := Lib.hid b1
  go_wp2_with fail
  go_ret2
  exact ⟨rfl, ⟨pg1, N + 1, A, c, M1.out, by omega, by show Tr.length ≤ _; omega⟩, fun b0 h0 => (B.out b0 h0).trans (b1.out b0 h0)⟩
theorem pair2_bad (h : MAt base w g mp bits pg wd N A c Tr) (hb : bits ≤ 22) (q x : Nat) (hqq : q < 18446744073709551616) (hx : x < 18446744073709551616) (ha : 2 ^ bits ≤ q) (i : Nat) (hN : N ≤ i) (hT : Tr.length ≤ i) (hi : i < 1000) : Calls Try.prog 11 #[.pointer (some ⟨g, 0, none⟩), .agg #[.int .i64 2, .int .u64 (q : Int), .int .u64 (x : Int)]] w (Did base w g mp bits i ⟨0, 2, ⟨wd, Tr⟩⟩) := by
  have hbg : base ≤ w.heap.size := Nat.le_trans h.gm.2.1 (Nat.le_of_lt (blk_lt h.blk))
  have M := h.below (below_alloc (Below.refl _ _) (.cells #[.int .i64 2, .int .u64 (q : Int), .int .u64 (x : Int)] 34))
  have B : ∀ b0, b0 ≤ base → Below b0 w (w.alloc (.cells #[.int .i64 2, .int .u64 (q : Int), .int .u64 (x : Int)] 34)) := fun b0 h0 => (Below.refl _ _).alloc (by omega) _
  have T := put_bad (x := (x : Int) % 256) (may_bad M hb q ha)
  replace T := Lib.hid T
  replace M := Lib.hid M
  replace B := Lib.hid B
  clear h
  go_enter Try.func11, Try.ntmps11
  go_wp2_with (first | (go_at_call 22; with_reducible refine T.out.mono ?_; rintro e w' ⟨rfl, rfl⟩))
  go_ret2
  exact ⟨rfl, ⟨pg, N, A, c, M.out, by omega, by show Tr.length ≤ _; omega⟩, B.out⟩
theorem pair3_ok (h : MAt base w g mp bits pg wd N A c Tr) (hb : bits ≤ 22) (q x : Nat) (hqq : q < 18446744073709551616) (hx : x < 18446744073709551616) (ha : q < 2 ^ bits) (h8 : q % 8 = 0) (i : Nat) (hN : N ≤ i) (hT : Tr.length ≤ i) (hi : i < 1000) : Calls Try.prog 11 #[.pointer (some ⟨g, 0, none⟩), .agg #[.int .i64 3, .int .u64 (q : Int), .int .u64 (x : Int)]] w (Did base w g mp bits i ⟨wd (q / 8), 0, ⟨wd, Tr ++ [(q : Int)]⟩⟩) := by
  have hbg : base ≤ w.heap.size := Nat.le_trans h.gm.2.1 (Nat.le_of_lt (blk_lt h.blk))
  have M := h.below (below_alloc (Below.refl _ _) (.cells #[.int .i64 3, .int .u64 (q : Int), .int .u64 (x : Int)] 34))
  have B : ∀ b0, b0 ≤ base → Below b0 w (w.alloc (.cells #[.int .i64 3, .int .u64 (q : Int), .int .u64 (x : Int)] 34)) := fun b0 h0 => (Below.refl _ _).alloc (by omega) _
  have T := load_ok M hb q ha h8 (by omega)
  generalize hwq : wd (q / 8) = y at *
  clear h8 hwq
  replace T := Lib.hid T
  replace M := Lib.hid M
  replace B := Lib.hid B
  clear h
  go_enter Try.func11, Try.ntmps11
  go_wp2_with fail
  refine T.out.mono ?_
  rintro e w1 ⟨rfl, A1, c1, M1, _, b1⟩
  replace M1 := Lib.hid M1
  replace b1 := Lib.hid b1
  go_wp2_with fail
  go_ret2
  exact ⟨rfl, ⟨pg, N, A1, c1, M1.out, by omega, by simp; omega⟩, fun b0 h0 => (B.out b0 h0).trans (b1.out b0 h0)⟩
theorem pair3_bad (h : MAt base w g mp bits pg wd N A c Tr) (hb : bits ≤ 22) (q x : Nat) (hqq : q < 18446744073709551616) (hx : x < 18446744073709551616) (ha : 2 ^ bits ≤ q) (i : Nat) (hN : N ≤ i) (hT : Tr.length ≤ i) (hi : i < 1000) : Calls Try.prog 11 #[.pointer (some ⟨g, 0, none⟩), .agg #[.int .i64 3, .int .u64 (q : Int), .int .u64 (x : Int)]] w (Did base w g mp bits i ⟨0, 2, ⟨wd, Tr⟩⟩) := by
  have hbg : base ≤ w.heap.size := Nat.le_trans h.gm.2.1 (Nat.le_of_lt (blk_lt h.blk))
  have M := h.below (below_alloc (Below.refl _ _) (.cells #[.int .i64 3, .int .u64 (q : Int), .int .u64 (x : Int)] 34))
  have B : ∀ b0, b0 ≤ base → Below b0 w (w.alloc (.cells #[.int .i64 3, .int .u64 (q : Int), .int .u64 (x : Int)] 34)) := fun b0 h0 => (Below.refl _ _).alloc (by omega) _
  have T := load_of (by decide) (peek_of (by decide) (aligned_bad M hb q ha))
  replace T := Lib.hid T
  replace M := Lib.hid M
  replace B := Lib.hid B
  clear h
  go_enter Try.func11, Try.ntmps11
  go_wp2_with (first | (go_at_call 19; with_reducible refine T.out.mono ?_; rintro e w' ⟨rfl, rfl⟩))
  go_ret2
  exact ⟨rfl, ⟨pg, N, A, c, M.out, by omega, by show Tr.length ≤ _; omega⟩, B.out⟩
theorem pair3_off (h : MAt base w g mp bits pg wd N A c Tr) (hb : bits ≤ 22) (q x : Nat) (hqq : q < 18446744073709551616) (hx : x < 18446744073709551616) (ha : q < 2 ^ bits) (h8 : q % 8 ≠ 0) (i : Nat) (hN : N ≤ i) (hT : Tr.length ≤ i) (hi : i < 1000) : Calls Try.prog 11 #[.pointer (some ⟨g, 0, none⟩), .agg #[.int .i64 3, .int .u64 (q : Int), .int .u64 (x : Int)]] w (Did base w g mp bits i ⟨0, 3, ⟨wd, Tr⟩⟩) := by
  have hbg : base ≤ w.heap.size := Nat.le_trans h.gm.2.1 (Nat.le_of_lt (blk_lt h.blk))
  have M := h.below (below_alloc (Below.refl _ _) (.cells #[.int .i64 3, .int .u64 (q : Int), .int .u64 (x : Int)] 34))
  have B : ∀ b0, b0 ≤ base → Below b0 w (w.alloc (.cells #[.int .i64 3, .int .u64 (q : Int), .int .u64 (x : Int)] 34)) := fun b0 h0 => (Below.refl _ _).alloc (by omega) _
  have T := load_of (by decide) (peek_of (by decide) (aligned_off M hb q ha h8))
  replace T := Lib.hid T
  replace M := Lib.hid M
  replace B := Lib.hid B
  clear h
  go_enter Try.func11, Try.ntmps11
  go_wp2_with (first | (go_at_call 19; with_reducible refine T.out.mono ?_; rintro e w' ⟨rfl, rfl⟩))
  go_ret2
  exact ⟨rfl, ⟨pg, N, A, c, M.out, by omega, by show Tr.length ≤ _; omega⟩, B.out⟩
theorem pair4_ok (h : MAt base w g mp bits pg wd N A c Tr) (hb : bits ≤ 22) (q x : Nat) (hqq : q < 18446744073709551616) (hx : x < 18446744073709551616) (ha : q < 2 ^ bits) (h8 : q % 8 = 0) (i : Nat) (hN : N ≤ i) (hT : Tr.length ≤ i) (hi : i < 1000) : Calls Try.prog 11 #[.pointer (some ⟨g, 0, none⟩), .agg #[.int .i64 4, .int .u64 (q : Int), .int .u64 (x : Int)]] w (Did base w g mp bits i ⟨wd (q / 8), 0, ⟨wd, Tr⟩⟩) := by
  have hbg : base ≤ w.heap.size := Nat.le_trans h.gm.2.1 (Nat.le_of_lt (blk_lt h.blk))
  have M := h.below (below_alloc (Below.refl _ _) (.cells #[.int .i64 4, .int .u64 (q : Int), .int .u64 (x : Int)] 34))
  have B : ∀ b0, b0 ≤ base → Below b0 w (w.alloc (.cells #[.int .i64 4, .int .u64 (q : Int), .int .u64 (x : Int)] 34)) := fun b0 h0 => (Below.refl _ _).alloc (by omega) _
  have T := peek_ok M hb q ha h8
  generalize hwq : wd (q / 8) = y at *
  clear h8 hwq
  replace T := Lib.hid T
  replace M := Lib.hid M
  replace B := Lib.hid B
  clear h
  go_enter Try.func11, Try.ntmps11
  go_wp2_with (first | (go_at_call 17; with_reducible refine T.out.mono ?_; rintro e w' ⟨rfl, rfl⟩))
  go_ret2
  exact ⟨rfl, ⟨pg, N, A, c, M.out, by omega, by show Tr.length ≤ _; omega⟩, B.out⟩
theorem pair4_bad (h : MAt base w g mp bits pg wd N A c Tr) (hb : bits ≤ 22) (q x : Nat) (hqq : q < 18446744073709551616) (hx : x < 18446744073709551616) (ha : 2 ^ bits ≤ q) (i : Nat) (hN : N ≤ i) (hT : Tr.length ≤ i) (hi : i < 1000) : Calls Try.prog 11 #[.pointer (some ⟨g, 0, none⟩), .agg #[.int .i64 4, .int .u64 (q : Int), .int .u64 (x : Int)]] w (Did base w g mp bits i ⟨0, 2, ⟨wd, Tr⟩⟩) := by
  have hbg : base ≤ w.heap.size := Nat.le_trans h.gm.2.1 (Nat.le_of_lt (blk_lt h.blk))
  have M := h.below (below_alloc (Below.refl _ _) (.cells #[.int .i64 4, .int .u64 (q : Int), .int .u64 (x : Int)] 34))
  have B : ∀ b0, b0 ≤ base → Below b0 w (w.alloc (.cells #[.int .i64 4, .int .u64 (q : Int), .int .u64 (x : Int)] 34)) := fun b0 h0 => (Below.refl _ _).alloc (by omega) _
  have T := peek_of (by decide) (aligned_bad M hb q ha)
  replace T := Lib.hid T
  replace M := Lib.hid M
  replace B := Lib.hid B
  clear h
  go_enter Try.func11, Try.ntmps11
  go_wp2_with (first | (go_at_call 17; with_reducible refine T.out.mono ?_; rintro e w' ⟨rfl, rfl⟩))
  go_ret2
  exact ⟨rfl, ⟨pg, N, A, c, M.out, by omega, by show Tr.length ≤ _; omega⟩, B.out⟩
theorem pair4_off (h : MAt base w g mp bits pg wd N A c Tr) (hb : bits ≤ 22) (q x : Nat) (hqq : q < 18446744073709551616) (hx : x < 18446744073709551616) (ha : q < 2 ^ bits) (h8 : q % 8 ≠ 0) (i : Nat) (hN : N ≤ i) (hT : Tr.length ≤ i) (hi : i < 1000) : Calls Try.prog 11 #[.pointer (some ⟨g, 0, none⟩), .agg #[.int .i64 4, .int .u64 (q : Int), .int .u64 (x : Int)]] w (Did base w g mp bits i ⟨0, 3, ⟨wd, Tr⟩⟩) := by
  have hbg : base ≤ w.heap.size := Nat.le_trans h.gm.2.1 (Nat.le_of_lt (blk_lt h.blk))
  have M := h.below (below_alloc (Below.refl _ _) (.cells #[.int .i64 4, .int .u64 (q : Int), .int .u64 (x : Int)] 34))
  have B : ∀ b0, b0 ≤ base → Below b0 w (w.alloc (.cells #[.int .i64 4, .int .u64 (q : Int), .int .u64 (x : Int)] 34)) := fun b0 h0 => (Below.refl _ _).alloc (by omega) _
  have T := peek_of (by decide) (aligned_off M hb q ha h8)
  replace T := Lib.hid T
  replace M := Lib.hid M
  replace B := Lib.hid B
  clear h
  go_enter Try.func11, Try.ntmps11
  go_wp2_with (first | (go_at_call 17; with_reducible refine T.out.mono ?_; rintro e w' ⟨rfl, rfl⟩))
  go_ret2
  exact ⟨rfl, ⟨pg, N, A, c, M.out, by omega, by show Tr.length ≤ _; omega⟩, B.out⟩
theorem pair5_ok (h : MAt base w g mp bits pg wd N A c Tr) (hb : bits ≤ 22) (q x : Nat) (hqq : q < 18446744073709551616) (hx : x < 18446744073709551616) (ha : q < 2 ^ bits) (h8 : q % 8 = 0) (i : Nat) (hN : N ≤ i) (hT : Tr.length ≤ i) (hi : i < 1000) : Calls Try.prog 11 #[.pointer (some ⟨g, 0, none⟩), .agg #[.int .i64 5, .int .u64 (q : Int), .int .u64 (x : Int)]] w (Did base w g mp bits i ⟨0, 0, ⟨put wd (q / 8) x, Tr⟩⟩) := by
  have hbg : base ≤ w.heap.size := Nat.le_trans h.gm.2.1 (Nat.le_of_lt (blk_lt h.blk))
  have M := h.below (below_alloc (Below.refl _ _) (.cells #[.int .i64 5, .int .u64 (q : Int), .int .u64 (x : Int)] 34))
  have B : ∀ b0, b0 ≤ base → Below b0 w (w.alloc (.cells #[.int .i64 5, .int .u64 (q : Int), .int .u64 (x : Int)] 34)) := fun b0 h0 => (Below.refl _ _).alloc (by omega) _
  have T := store_ok M hb q x ha h8 hx (by omega)
  clear h8
  replace T := Lib.hid T
  replace M := Lib.hid M
  replace B := Lib.hid B
  clear h
  go_enter Try.func11, Try.ntmps11
  go_wp2_with fail
  refine T.out.mono ?_
  rintro e w1 ⟨rfl, pg1, M1, _, _, b1⟩
  replace M1 := Lib.hid M1
  replace b1 := Lib.hid b1
  go_wp2_with fail
  go_ret2
  exact ⟨rfl, ⟨pg1, N + 1, A, c, M1.out, by omega, by show Tr.length ≤ _; omega⟩, fun b0 h0 => (B.out b0 h0).trans (b1.out b0 h0)⟩
theorem pair5_bad (h : MAt base w g mp bits pg wd N A c Tr) (hb : bits ≤ 22) (q x : Nat) (hqq : q < 18446744073709551616) (hx : x < 18446744073709551616) (ha : 2 ^ bits ≤ q) (i : Nat) (hN : N ≤ i) (hT : Tr.length ≤ i) (hi : i < 1000) : Calls Try.prog 11 #[.pointer (some ⟨g, 0, none⟩), .agg #[.int .i64 5, .int .u64 (q : Int), .int .u64 (x : Int)]] w (Did base w g mp bits i ⟨0, 2, ⟨wd, Tr⟩⟩) := by
  have hbg : base ≤ w.heap.size := Nat.le_trans h.gm.2.1 (Nat.le_of_lt (blk_lt h.blk))
  have M := h.below (below_alloc (Below.refl _ _) (.cells #[.int .i64 5, .int .u64 (q : Int), .int .u64 (x : Int)] 34))
  have B : ∀ b0, b0 ≤ base → Below b0 w (w.alloc (.cells #[.int .i64 5, .int .u64 (q : Int), .int .u64 (x : Int)] 34)) := fun b0 h0 => (Below.refl _ _).alloc (by omega) _
  have T := store_of (x := (x : Int)) (by decide) (aligned_bad M hb q ha)
  replace T := Lib.hid T
  replace M := Lib.hid M
  replace B := Lib.hid B
  clear h
  go_enter Try.func11, Try.ntmps11
  go_wp2_with (first | (go_at_call 18; with_reducible refine T.out.mono ?_; rintro e w' ⟨rfl, rfl⟩))
  go_ret2
  exact ⟨rfl, ⟨pg, N, A, c, M.out, by omega, by show Tr.length ≤ _; omega⟩, B.out⟩
theorem pair5_off (h : MAt base w g mp bits pg wd N A c Tr) (hb : bits ≤ 22) (q x : Nat) (hqq : q < 18446744073709551616) (hx : x < 18446744073709551616) (ha : q < 2 ^ bits) (h8 : q % 8 ≠ 0) (i : Nat) (hN : N ≤ i) (hT : Tr.length ≤ i) (hi : i < 1000) : Calls Try.prog 11 #[.pointer (some ⟨g, 0, none⟩), .agg #[.int .i64 5, .int .u64 (q : Int), .int .u64 (x : Int)]] w (Did base w g mp bits i ⟨0, 3, ⟨wd, Tr⟩⟩) := by
  have hbg : base ≤ w.heap.size := Nat.le_trans h.gm.2.1 (Nat.le_of_lt (blk_lt h.blk))
  have M := h.below (below_alloc (Below.refl _ _) (.cells #[.int .i64 5, .int .u64 (q : Int), .int .u64 (x : Int)] 34))
  have B : ∀ b0, b0 ≤ base → Below b0 w (w.alloc (.cells #[.int .i64 5, .int .u64 (q : Int), .int .u64 (x : Int)] 34)) := fun b0 h0 => (Below.refl _ _).alloc (by omega) _
  have T := store_of (x := (x : Int)) (by decide) (aligned_off M hb q ha h8)
  replace T := Lib.hid T
  replace M := Lib.hid M
  replace B := Lib.hid B
  clear h
  go_enter Try.func11, Try.ntmps11
  go_wp2_with (first | (go_at_call 18; with_reducible refine T.out.mono ?_; rintro e w' ⟨rfl, rfl⟩))
  go_ret2
  exact ⟨rfl, ⟨pg, N, A, c, M.out, by omega, by show Tr.length ≤ _; omega⟩, B.out⟩
theorem pair0 (h : MAt base w g mp bits pg wd N A c Tr) (hb : bits ≤ 22) (k : Int) (q x : Nat) (hqq : q < 18446744073709551616) (hx : x < 18446744073709551616) (k1 : ¬ k = 1) (k2 : ¬ k = 2) (k3 : ¬ k = 3) (k4 : ¬ k = 4) (k5 : ¬ k = 5) (i : Nat) (hN : N ≤ i) (hT : Tr.length ≤ i) (hi : i < 1000) : Calls Try.prog 11 #[.pointer (some ⟨g, 0, none⟩), .agg #[.int .i64 k, .int .u64 (q : Int), .int .u64 (x : Int)]] w (Did base w g mp bits i ⟨0, 0, ⟨wd, []⟩⟩) := by
  have hbg : base ≤ w.heap.size := Nat.le_trans h.gm.2.1 (Nat.le_of_lt (blk_lt h.blk))
  have M := h.below (below_alloc (Below.refl _ _) (.cells #[.int .i64 k, .int .u64 (q : Int), .int .u64 (x : Int)] 34))
  have B : ∀ b0, b0 ≤ base → Below b0 w (w.alloc (.cells #[.int .i64 k, .int .u64 (q : Int), .int .u64 (x : Int)] 34)) := fun b0 h0 => (Below.refl _ _).alloc (by omega) _
  have T := forget_any M
  replace T := Lib.hid T
  replace M := Lib.hid M
  replace B := Lib.hid B
  clear h
  go_enter Try.func11, Try.ntmps11
  go_wp2_with fail
  refine T.out.mono ?_
  rintro e w1 ⟨rfl, M1, _, b1⟩
  replace M1 := Lib.hid M1
  replace b1 := Lib.hid b1
  go_wp2_with fail
  go_ret2
  exact ⟨rfl, ⟨pg, N, none, 0, M1.out, by omega, by simp⟩, fun b0 h0 => (B.out b0 h0).trans (b1.out b0 h0)⟩
theorem pair_any {i : Nat} {m : Wt} (h : Mem base w g mp bits i m) (hb : bits ≤ 22) (k : Int) (q x : Nat) (hq : q < 18446744073709551616) (hx : x < 18446744073709551616) (hi : i < 1000) :
    Calls Try.prog 11 #[.pointer (some ⟨g, 0, none⟩), .agg #[.int .i64 k, .int .u64 (q : Int), .int .u64 (x : Int)]] w (Did base w g mp bits i (did bits m k q x)) := by
  obtain ⟨pg, N, A, c, h, hN, hT⟩ := h
  unfold did
  by_cases k1 : k = 1
  · subst k1
    rw [if_pos rfl]
    by_cases ha : q < 2 ^ bits
    · rw [if_pos ha]; exact pair1_ok h hb q x hq hx ha i hN hT hi
    · rw [if_neg ha]; exact pair1_bad h hb q x hq hx (by omega) i hN hT hi
  rw [if_neg k1]
  by_cases k2 : k = 2
  · subst k2
    rw [if_pos rfl]
    by_cases ha : q < 2 ^ bits
    · rw [if_pos ha]; exact pair2_ok h hb q x hq hx ha i hN hT hi
    · rw [if_neg ha]; exact pair2_bad h hb q x hq hx (by omega) i hN hT hi
  rw [if_neg k2]
  by_cases k3 : k = 3
  · subst k3
    rw [if_pos rfl]
    by_cases ha : q < 2 ^ bits
    · rw [if_pos ha]
      by_cases h8 : q % 8 = 0
      · rw [if_pos h8]; exact pair3_ok h hb q x hq hx ha h8 i hN hT hi
      · rw [if_neg h8]; exact pair3_off h hb q x hq hx ha h8 i hN hT hi
    · rw [if_neg ha]; exact pair3_bad h hb q x hq hx (by omega) i hN hT hi
  rw [if_neg k3]
  by_cases k4 : k = 4
  · subst k4
    rw [if_pos rfl]
    by_cases ha : q < 2 ^ bits
    · rw [if_pos ha]
      by_cases h8 : q % 8 = 0
      · rw [if_pos h8]; exact pair4_ok h hb q x hq hx ha h8 i hN hT hi
      · rw [if_neg h8]; exact pair4_off h hb q x hq hx ha h8 i hN hT hi
    · rw [if_neg ha]; exact pair4_bad h hb q x hq hx (by omega) i hN hT hi
  rw [if_neg k4]
  by_cases k5 : k = 5
  · subst k5
    rw [if_pos rfl]
    by_cases ha : q < 2 ^ bits
    · rw [if_pos ha]
      by_cases h8 : q % 8 = 0
      · rw [if_pos h8]; exact pair5_ok h hb q x hq hx ha h8 i hN hT hi
      · rw [if_neg h8]; exact pair5_off h hb q x hq hx ha h8 i hN hT hi
    · rw [if_neg ha]; exact pair5_bad h hb q x hq hx (by omega) i hN hT hi
  rw [if_neg k5]
  exact pair0 h hb k q x hq hx k1 k2 k3 k4 k5 i hN hT hi
end Go.Proofs.Ytpkffpcdmglleaa.Me
