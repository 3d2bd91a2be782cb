/- The contract of the law's pair, told with the blocks that are the memory's. Conditions: those each contract names. -/
import Derived.Test.YtpkffpcdmglleaaMr
set_option linter.unusedVariables false
set_option linter.unusedSimpArgs false
namespace Go.Proofs.Ytpkffpcdmglleaa.Me
open Go.RowKit Go.Maps Go.Proofs.YtpkffpcdmglleaaW.PrintWords Go.Proofs.YtpkffpcdmglleaaW.PrintMore
variable {base : Nat} {w : World} {g mp bits N c : Nat} {pg : Nat → Option Nat} {wd : Nat → Nat} {A : Option Addr} {Tr : List Int}
/-- A memory with its words and trace; its blocks are all among O. -/
def MemO (base : Nat) (w : World) (g mp bits i : Nat) (m : Wt) (O : Nat → Prop) : Prop := ∃ (pg : Nat → Option Nat) (N : Nat) (A : Option Addr) (c : Nat), MAt base w g mp bits pg m.wd N A c m.tr ∧ N ≤ i ∧ m.tr.length ≤ i ∧ ∀ k, MS g mp pg (.slice A m.tr.length c) k → O k
/-- A post: a deed's answer, and what is left of the memory. -/
def DidO (base : Nat) (w : World) (g mp bits i : Nat) (O : Nat → Prop) (o : Got) (e : Ending) (w' : World) : Prop :=
  e = .returned (.tuple #[.int .u64 (o.y : Int), .int .i64 o.er]) ∧ MemO base w' g mp bits (i + 1) o.m (fun k => O k ∨ w.heap.size ≤ k) ∧ Kept w w' O ∧ ∀ b0, b0 ≤ base → Below b0 w w'
theorem MAt.lts (h : MAt base w g mp bits pg wd N A c Tr) (k : Nat) (hk : MS g mp pg (.slice A Tr.length c) k) : k < w.heap.size := by
  rcases hk with rfl | rfl | ⟨n, hn⟩ | hk
  · exact blk_lt h.blk
  · obtain ⟨D, ho, _⟩ := h.own
    exact ho.lt
  · obtain ⟨cs, h1, _⟩ := h.page n k hn
    exact blk_lt h1
  · exact Kd.R_lt h.tr k hk
theorem MemO.kept {w' : World} {i : Nat} {m : Wt} {O S : Nat → Prop} (h : MemO base w g mp bits i m O) (hk : Kept w w' S) (hd : ∀ k, O k → k < w.heap.size → ¬ S k) : MemO base w' g mp bits i m (fun k => O k ∧ k < w.heap.size) := by
  obtain ⟨pg, N, A, c, h, h1, h2, h3⟩ := h
  exact ⟨pg, N, A, c, h.kept (fun k hlt hm => hk.2 k hlt (hd k (h3 k hm) hlt)), h1, h2, fun k hm => ⟨h3 k hm, h.lts k hm⟩⟩
theorem load_ok2 (h : MAt base w g mp bits pg wd N A c Tr) (hb : bits ≤ 22) (a : Nat) (ha : a < 2 ^ bits) (h8 : a % 8 = 0) (hT : Tr.length < 1000000) : Calls Try.prog 19 #[.pointer (some ⟨g, 0, none⟩), .int .u64 (a : Int)] w fun e w' =>
    e = .returned (.tuple #[.int .u64 (wd (a / 8) : Int), .int .i64 0]) ∧ ∃ A' c', MAt base w' g mp bits pg wd N A' c' (Tr ++ [(a : Int)]) ∧ Kept w w' (MS g mp pg (.slice A Tr.length c)) ∧ (∀ b0, b0 ≤ base → Below b0 w w') ∧ ∀ k, (Value.slice A' (Tr ++ [(a : Int)]).length c').ownBlock = some k → (Value.slice A Tr.length c).ownBlock = some k ∨ w.heap.size ≤ k := by
  have T1 := Lib.hid (peek_ok h hb a ha h8)
  have hgl := blk_lt h.blk
  have c2 := h.c2
  have hf := h.frozen 2
  obtain ⟨D, ho, _⟩ := h.own
  have hml := ho.lt
  have hpl : Hid (∀ n b, pg n = some b → b < w.heap.size) := Lib.hid fun n b hn => by
    obtain ⟨cs, h1, _⟩ := h.page n b hn
    exact blk_lt h1
  have hbg : base ≤ w.heap.size := Nat.le_trans h.gm.2.1 (Nat.le_of_lt hgl)
  have HH := Lib.hid h
  clear h hb ha h8 ho
  go_enter Try.func19, Try.ntmps19
  go_wp2_with (first | (go_at_call 17; with_reducible refine T1.out.mono ?_; rintro e w' ⟨rfl, rfl⟩) | ((with_reducible refine gate_builtin (b := .append) (xs := #[.tmp 20, .tmp 22]) rfl ?_); at_builtin; refine Kd.R_append (Kd.int .u64) (w0 := w) base rfl (.tmp 20) (.tmp 22) 27 30 (.int .u64 0) 8 rfl Try.underlying27 info30 rfl (by decide) (by omega) (.slice A Tr.length c) Tr (a : Int) [.int .u64 (a : Int)] (fun q => q ≠ g ∧ q ≠ mp ∧ ∀ n, pg n ≠ some q) (fun _ => False) rfl rfl rfl (fun _ hk => hk.elim) ?aF HH.out.tr (Below.refl _ _) hbg ?aL ?_; (case aF => intro k hk; exact ⟨by omega, by omega, fun n e => by have := hpl.out n k e; omega⟩); (case aL => omega); intro v5 w5 hR5 hB5 hg5 hn5; obtain ⟨A', c', rfl⟩ := Kd.R_slice hR5; have hst := HH.out.traced hg5 hR5; have hx5 := blk_grown HH.out.blk hg5 (fun e => (HH.out.tr.1 _ e.symm).1 rfl); have hc5 : w5.cell? ⟨g, 2, none⟩ = some (.slice A Tr.length c) := (blk_cell hx5 2).trans rfl; have hf5 := blk_frozen hx5 2; replace hst := Lib.hid hst; replace hg5 := Lib.hid hg5; replace hB5 := Aside0.mk hB5; replace hn5 := Lib.hid hn5; clear hR5 hx5))
  have hst := hst.out
  rw [show (Tr ++ [(a : Int)]).length = Tr.length + 1 by simp] at hst
  go_ret2
  refine ⟨rfl, A', c', hst, ?_, fun b0 h0 => ?_, fun k hk => ?_⟩
  · exact (Kept.of_grown hg5.out (Kept.refl w _) (fun k hk => .inl (.inr (.inr (.inr hk))))).setCell (.inl (.inl rfl)) _
  · exact (hB5.out.mono h0).setCell (Nat.le_trans h0 HH.out.gm.2.1) _
  · rcases hn5.out with h | ⟨b, h, hb⟩
    · exact .inl (h.symm.trans hk)
    · have := h.symm.trans hk
      injection this with this
      exact .inr (by omega)
theorem opair1_ok (h : MAt base w g mp bits pg wd N A c Tr) (hb : bits ≤ 22) (q x : Nat) (hqq : q < 18446744073709551616) (hx : x < 18446744073709551616) (ha : q < 2 ^ bits) (i : Nat) (hN : N ≤ i) (hT : Tr.length ≤ i) (hi : i < 1000) (O : Nat → Prop) (hO : ∀ k, MS g mp pg (.slice A Tr.length c) k → O k) : Calls Try.prog 11 #[.pointer (some ⟨g, 0, none⟩), .agg #[.int .i64 1, .int .u64 (q : Int), .int .u64 (x : Int)]] w (DidO base w g mp bits i O ⟨NL.gN (wd (q / 8)) (8 * (q % 8)) 8, 0, ⟨wd, Tr⟩⟩) := by
  have hbg : base ≤ w.heap.size := Nat.le_trans h.gm.2.1 (Nat.le_of_lt (blk_lt h.blk))
  have M := h.below (below_alloc (Below.refl _ _) (.cells #[.int .i64 1, .int .u64 (q : Int), .int .u64 (x : Int)] 34))
  have B : ∀ b0, b0 ≤ base → Below b0 w (w.alloc (.cells #[.int .i64 1, .int .u64 (q : Int), .int .u64 (x : Int)] 34)) := fun b0 h0 => (Below.refl _ _).alloc (by omega) _
  have T := get_ok M hb q ha _ (NF.byte (h.fits _) (by omega))
  have hr := NL.gN_lt (wd (q / 8)) (8 * (q % 8)) 8
  generalize NL.gN (wd (q / 8)) (8 * (q % 8)) 8 = r at *
  replace hr : r < 256 := hr
  replace T := Lib.hid T
  replace M := Lib.hid M
  replace B := Lib.hid B
  clear h
  go_enter Try.func11, Try.ntmps11
  go_wp2_with (first | (go_at_call 20; with_reducible refine T.out.mono ?_; rintro e w' ⟨rfl, ⟨nd, rfl⟩⟩))
  go_ret2
  exact ⟨rfl, ⟨pg, N, A, c, M.out.below (pw_below_drewN (Below.refl _ _) nd), by omega, by show Tr.length ≤ _; omega, fun k hk => .inl (hO k hk)⟩, ((Kept.refl w O).alloc _).drewN nd, fun b0 h0 => pw_below_drewN (B.out b0 h0) nd⟩
theorem opair1_bad (h : MAt base w g mp bits pg wd N A c Tr) (hb : bits ≤ 22) (q x : Nat) (hqq : q < 18446744073709551616) (hx : x < 18446744073709551616) (ha : 2 ^ bits ≤ q) (i : Nat) (hN : N ≤ i) (hT : Tr.length ≤ i) (hi : i < 1000) (O : Nat → Prop) (hO : ∀ k, MS g mp pg (.slice A Tr.length c) k → O k) : Calls Try.prog 11 #[.pointer (some ⟨g, 0, none⟩), .agg #[.int .i64 1, .int .u64 (q : Int), .int .u64 (x : Int)]] w (DidO base w g mp bits i O ⟨0, 2, ⟨wd, Tr⟩⟩) := by
  have hbg : base ≤ w.heap.size := Nat.le_trans h.gm.2.1 (Nat.le_of_lt (blk_lt h.blk))
  have M := h.below (below_alloc (Below.refl _ _) (.cells #[.int .i64 1, .int .u64 (q : Int), .int .u64 (x : Int)] 34))
  have B : ∀ b0, b0 ≤ base → Below b0 w (w.alloc (.cells #[.int .i64 1, .int .u64 (q : Int), .int .u64 (x : Int)] 34)) := fun b0 h0 => (Below.refl _ _).alloc (by omega) _
  have T := get_bad (may_bad M hb q ha)
  replace T := Lib.hid T
  replace M := Lib.hid M
  replace B := Lib.hid B
  clear h
  go_enter Try.func11, Try.ntmps11
  go_wp2_with (first | (go_at_call 20; with_reducible refine T.out.mono ?_; rintro e w' ⟨rfl, rfl⟩))
  go_ret2
  exact ⟨rfl, ⟨pg, N, A, c, M.out, by omega, by show Tr.length ≤ _; omega, fun k hk => .inl (hO k hk)⟩, (Kept.refl w O).alloc _, B.out⟩
theorem opair2_ok (h : MAt base w g mp bits pg wd N A c Tr) (hb : bits ≤ 22) (q x : Nat) (hqq : q < 18446744073709551616) (hx : x < 18446744073709551616) (ha : q < 2 ^ bits) (i : Nat) (hN : N ≤ i) (hT : Tr.length ≤ i) (hi : i < 1000) (O : Nat → Prop) (hO : ∀ k, MS g mp pg (.slice A Tr.length c) k → O k) : Calls Try.prog 11 #[.pointer (some ⟨g, 0, none⟩), .agg #[.int .i64 2, .int .u64 (q : Int), .int .u64 (x : Int)]] w (DidO base w g mp bits i O ⟨0, 0, ⟨put wd (q / 8) (NL.sN (wd (q / 8)) (8 * (q % 8)) 8 (x % 256)), Tr⟩⟩) := by
  have hbg : base ≤ w.heap.size := Nat.le_trans h.gm.2.1 (Nat.le_of_lt (blk_lt h.blk))
  have M := h.below (below_alloc (Below.refl _ _) (.cells #[.int .i64 2, .int .u64 (q : Int), .int .u64 (x : Int)] 34))
  have B : ∀ b0, b0 ≤ base → Below b0 w (w.alloc (.cells #[.int .i64 2, .int .u64 (q : Int), .int .u64 (x : Int)] 34)) := fun b0 h0 => (Below.refl _ _).alloc (by omega) _
  have T := put_ok M hb q _ ((x % 256 : Nat) : Int) ha (NF.put (h.fits _) (by omega) (by omega)) (NL.sN_lt (by omega) (h.fits _)) (by omega)
  generalize NL.sN (wd (q / 8)) (8 * (q % 8)) 8 (x % 256) = r at *
  rw [show ((x % 256 : Nat) : Int) = (x : Int) % 256 by omega] at T
  replace T := Lib.hid T
  replace M := Lib.hid M
  replace B := Lib.hid B
  clear h
  go_enter Try.func11, Try.ntmps11
  go_wp2_with fail
  refine T.out.mono ?_
  rintro e w1 ⟨rfl, pg1, M1, more, kp, b1⟩
  replace more := Lib.hid more
  replace kp := Lib.hid kp
  replace M1 := Lib.hid M1
  replace b1 := Lib.hid b1
  go_wp2_with fail
  go_ret2
  have hsz : w.heap.size ≤ (w.alloc (.cells #[.int .i64 0] 3)).heap.size := by simp
  exact ⟨rfl, ⟨pg1, N + 1, A, c, M1.out, by omega, by show Tr.length ≤ _; omega, fun k hk => by
    rcases hk with h | h | ⟨n, h⟩ | h
    · exact .inl (hO k (.inl h))
    · exact .inl (hO k (.inr (.inl h)))
    · rcases more.out.2 n k h with h | h
      · exact .inl (hO k (.inr (.inr (.inl ⟨n, h⟩))))
      · simp at h; exact .inr (by omega)
    · exact .inl (hO k (.inr (.inr (.inr h))))⟩, ((Kept.refl w O).alloc _).then_ kp.out (fun k hk => .inl (hO k hk)), fun b0 h0 => (B.out b0 h0).trans (b1.out b0 h0)⟩
theorem opair2_bad (h : MAt base w g mp bits pg wd N A c Tr) (hb : bits ≤ 22) (q x : Nat) (hqq : q < 18446744073709551616) (hx : x < 18446744073709551616) (ha : 2 ^ bits ≤ q) (i : Nat) (hN : N ≤ i) (hT : Tr.length ≤ i) (hi : i < 1000) (O : Nat → Prop) (hO : ∀ k, MS g mp pg (.slice A Tr.length c) k → O k) : Calls Try.prog 11 #[.pointer (some ⟨g, 0, none⟩), .agg #[.int .i64 2, .int .u64 (q : Int), .int .u64 (x : Int)]] w (DidO base w g mp bits i O ⟨0, 2, ⟨wd, Tr⟩⟩) := by
  have hbg : base ≤ w.heap.size := Nat.le_trans h.gm.2.1 (Nat.le_of_lt (blk_lt h.blk))
  have M := h.below (below_alloc (Below.refl _ _) (.cells #[.int .i64 2, .int .u64 (q : Int), .int .u64 (x : Int)] 34))
  have B : ∀ b0, b0 ≤ base → Below b0 w (w.alloc (.cells #[.int .i64 2, .int .u64 (q : Int), .int .u64 (x : Int)] 34)) := fun b0 h0 => (Below.refl _ _).alloc (by omega) _
  have T := put_bad (x := (x : Int) % 256) (may_bad M hb q ha)
  replace T := Lib.hid T
  replace M := Lib.hid M
  replace B := Lib.hid B
  clear h
  go_enter Try.func11, Try.ntmps11
  go_wp2_with (first | (go_at_call 22; with_reducible refine T.out.mono ?_; rintro e w' ⟨rfl, rfl⟩))
  go_ret2
  exact ⟨rfl, ⟨pg, N, A, c, M.out, by omega, by show Tr.length ≤ _; omega, fun k hk => .inl (hO k hk)⟩, (Kept.refl w O).alloc _, B.out⟩
theorem opair3_ok (h : MAt base w g mp bits pg wd N A c Tr) (hb : bits ≤ 22) (q x : Nat) (hqq : q < 18446744073709551616) (hx : x < 18446744073709551616) (ha : q < 2 ^ bits) (h8 : q % 8 = 0) (i : Nat) (hN : N ≤ i) (hT : Tr.length ≤ i) (hi : i < 1000) (O : Nat → Prop) (hO : ∀ k, MS g mp pg (.slice A Tr.length c) k → O k) : Calls Try.prog 11 #[.pointer (some ⟨g, 0, none⟩), .agg #[.int .i64 3, .int .u64 (q : Int), .int .u64 (x : Int)]] w (DidO base w g mp bits i O ⟨wd (q / 8), 0, ⟨wd, Tr ++ [(q : Int)]⟩⟩) := by
  have hbg : base ≤ w.heap.size := Nat.le_trans h.gm.2.1 (Nat.le_of_lt (blk_lt h.blk))
  have M := h.below (below_alloc (Below.refl _ _) (.cells #[.int .i64 3, .int .u64 (q : Int), .int .u64 (x : Int)] 34))
  have B : ∀ b0, b0 ≤ base → Below b0 w (w.alloc (.cells #[.int .i64 3, .int .u64 (q : Int), .int .u64 (x : Int)] 34)) := fun b0 h0 => (Below.refl _ _).alloc (by omega) _
  have T := load_ok2 M hb q ha h8 (by omega)
  generalize hwq : wd (q / 8) = y at *
  clear h8 hwq
  replace T := Lib.hid T
  replace M := Lib.hid M
  replace B := Lib.hid B
  clear h
  go_enter Try.func11, Try.ntmps11
  go_wp2_with fail
  refine T.out.mono ?_
  rintro e w1 ⟨rfl, A1, c1, M1, kp, b1, ow⟩
  replace kp := Lib.hid kp
  replace ow := Lib.hid ow
  replace M1 := Lib.hid M1
  replace b1 := Lib.hid b1
  go_wp2_with fail
  go_ret2
  exact ⟨rfl, ⟨pg, N, A1, c1, M1.out, by omega, by simp; omega, fun k hk => by
    rcases hk with h | h | h | h
    · exact .inl (hO k (.inl h))
    · exact .inl (hO k (.inr (.inl h)))
    · exact .inl (hO k (.inr (.inr (.inl h))))
    · rcases ow.out k h with h | h
      · exact .inl (hO k (.inr (.inr (.inr h))))
      · simp at h; exact .inr (by omega)⟩, ((Kept.refl w O).alloc _).then_ kp.out (fun k hk => .inl (hO k hk)), fun b0 h0 => (B.out b0 h0).trans (b1.out b0 h0)⟩
theorem opair3_bad (h : MAt base w g mp bits pg wd N A c Tr) (hb : bits ≤ 22) (q x : Nat) (hqq : q < 18446744073709551616) (hx : x < 18446744073709551616) (ha : 2 ^ bits ≤ q) (i : Nat) (hN : N ≤ i) (hT : Tr.length ≤ i) (hi : i < 1000) (O : Nat → Prop) (hO : ∀ k, MS g mp pg (.slice A Tr.length c) k → O k) : Calls Try.prog 11 #[.pointer (some ⟨g, 0, none⟩), .agg #[.int .i64 3, .int .u64 (q : Int), .int .u64 (x : Int)]] w (DidO base w g mp bits i O ⟨0, 2, ⟨wd, Tr⟩⟩) := by
  have hbg : base ≤ w.heap.size := Nat.le_trans h.gm.2.1 (Nat.le_of_lt (blk_lt h.blk))
  have M := h.below (below_alloc (Below.refl _ _) (.cells #[.int .i64 3, .int .u64 (q : Int), .int .u64 (x : Int)] 34))
  have B : ∀ b0, b0 ≤ base → Below b0 w (w.alloc (.cells #[.int .i64 3, .int .u64 (q : Int), .int .u64 (x : Int)] 34)) := fun b0 h0 => (Below.refl _ _).alloc (by omega) _
  have T := load_of (by decide) (peek_of (by decide) (aligned_bad M hb q ha))
  replace T := Lib.hid T
  replace M := Lib.hid M
  replace B := Lib.hid B
  clear h
  go_enter Try.func11, Try.ntmps11
  go_wp2_with (first | (go_at_call 19; with_reducible refine T.out.mono ?_; rintro e w' ⟨rfl, rfl⟩))
  go_ret2
  exact ⟨rfl, ⟨pg, N, A, c, M.out, by omega, by show Tr.length ≤ _; omega, fun k hk => .inl (hO k hk)⟩, (Kept.refl w O).alloc _, B.out⟩
theorem opair3_off (h : MAt base w g mp bits pg wd N A c Tr) (hb : bits ≤ 22) (q x : Nat) (hqq : q < 18446744073709551616) (hx : x < 18446744073709551616) (ha : q < 2 ^ bits) (h8 : q % 8 ≠ 0) (i : Nat) (hN : N ≤ i) (hT : Tr.length ≤ i) (hi : i < 1000) (O : Nat → Prop) (hO : ∀ k, MS g mp pg (.slice A Tr.length c) k → O k) : Calls Try.prog 11 #[.pointer (some ⟨g, 0, none⟩), .agg #[.int .i64 3, .int .u64 (q : Int), .int .u64 (x : Int)]] w (DidO base w g mp bits i O ⟨0, 3, ⟨wd, Tr⟩⟩) := by
  have hbg : base ≤ w.heap.size := Nat.le_trans h.gm.2.1 (Nat.le_of_lt (blk_lt h.blk))
  have M := h.below (below_alloc (Below.refl _ _) (.cells #[.int .i64 3, .int .u64 (q : Int), .int .u64 (x : Int)] 34))
  have B : ∀ b0, b0 ≤ base → Below b0 w (w.alloc (.cells #[.int .i64 3, .int .u64 (q : Int), .int .u64 (x : Int)] 34)) := fun b0 h0 => (Below.refl _ _).alloc (by omega) _
  have T := load_of (by decide) (peek_of (by decide) (aligned_off M hb q ha h8))
  replace T := Lib.hid T
  replace M := Lib.hid M
  replace B := Lib.hid B
  clear h
  go_enter Try.func11, Try.ntmps11
  go_wp2_with (first | (go_at_call 19; with_reducible refine T.out.mono ?_; rintro e w' ⟨rfl, rfl⟩))
  go_ret2
  exact ⟨rfl, ⟨pg, N, A, c, M.out, by omega, by show Tr.length ≤ _; omega, fun k hk => .inl (hO k hk)⟩, (Kept.refl w O).alloc _, B.out⟩
theorem opair4_ok (h : MAt base w g mp bits pg wd N A c Tr) (hb : bits ≤ 22) (q x : Nat) (hqq : q < 18446744073709551616) (hx : x < 18446744073709551616) (ha : q < 2 ^ bits) (h8 : q % 8 = 0) (i : Nat) (hN : N ≤ i) (hT : Tr.length ≤ i) (hi : i < 1000) (O : Nat → Prop) (hO : ∀ k, MS g mp pg (.slice A Tr.length c) k → O k) : Calls Try.prog 11 #[.pointer (some ⟨g, 0, none⟩), .agg #[.int .i64 4, .int .u64 (q : Int), .int .u64 (x : Int)]] w (DidO base w g mp bits i O ⟨wd (q / 8), 0, ⟨wd, Tr⟩⟩) := by
  have hbg : base ≤ w.heap.size := Nat.le_trans h.gm.2.1 (Nat.le_of_lt (blk_lt h.blk))
  have M := h.below (below_alloc (Below.refl _ _) (.cells #[.int .i64 4, .int .u64 (q : Int), .int .u64 (x : Int)] 34))
  have B : ∀ b0, b0 ≤ base → Below b0 w (w.alloc (.cells #[.int .i64 4, .int .u64 (q : Int), .int .u64 (x : Int)] 34)) := fun b0 h0 => (Below.refl _ _).alloc (by omega) _
  have T := peek_ok M hb q ha h8
  generalize hwq : wd (q / 8) = y at *
  clear h8 hwq
  replace T := Lib.hid T
  replace M := Lib.hid M
  replace B := Lib.hid B
  clear h
  go_enter Try.func11, Try.ntmps11
  go_wp2_with (first | (go_at_call 17; with_reducible refine T.out.mono ?_; rintro e w' ⟨rfl, rfl⟩))
  go_ret2
  exact ⟨rfl, ⟨pg, N, A, c, M.out, by omega, by show Tr.length ≤ _; omega, fun k hk => .inl (hO k hk)⟩, (Kept.refl w O).alloc _, B.out⟩
theorem opair4_bad (h : MAt base w g mp bits pg wd N A c Tr) (hb : bits ≤ 22) (q x : Nat) (hqq : q < 18446744073709551616) (hx : x < 18446744073709551616) (ha : 2 ^ bits ≤ q) (i : Nat) (hN : N ≤ i) (hT : Tr.length ≤ i) (hi : i < 1000) (O : Nat → Prop) (hO : ∀ k, MS g mp pg (.slice A Tr.length c) k → O k) : Calls Try.prog 11 #[.pointer (some ⟨g, 0, none⟩), .agg #[.int .i64 4, .int .u64 (q : Int), .int .u64 (x : Int)]] w (DidO base w g mp bits i O ⟨0, 2, ⟨wd, Tr⟩⟩) := by
  have hbg : base ≤ w.heap.size := Nat.le_trans h.gm.2.1 (Nat.le_of_lt (blk_lt h.blk))
  have M := h.below (below_alloc (Below.refl _ _) (.cells #[.int .i64 4, .int .u64 (q : Int), .int .u64 (x : Int)] 34))
  have B : ∀ b0, b0 ≤ base → Below b0 w (w.alloc (.cells #[.int .i64 4, .int .u64 (q : Int), .int .u64 (x : Int)] 34)) := fun b0 h0 => (Below.refl _ _).alloc (by omega) _
  have T := peek_of (by decide) (aligned_bad M hb q ha)
  replace T := Lib.hid T
  replace M := Lib.hid M
  replace B := Lib.hid B
  clear h
  go_enter Try.func11, Try.ntmps11
  go_wp2_with (first | (go_at_call 17; with_reducible refine T.out.mono ?_; rintro e w' ⟨rfl, rfl⟩))
  go_ret2
  exact ⟨rfl, ⟨pg, N, A, c, M.out, by omega, by show Tr.length ≤ _; omega, fun k hk => .inl (hO k hk)⟩, (Kept.refl w O).alloc _, B.out⟩
theorem opair4_off (h : MAt base w g mp bits pg wd N A c Tr) (hb : bits ≤ 22) (q x : Nat) (hqq : q < 18446744073709551616) (hx : x < 18446744073709551616) (ha : q < 2 ^ bits) (h8 : q % 8 ≠ 0) (i : Nat) (hN : N ≤ i) (hT : Tr.length ≤ i) (hi : i < 1000) (O : Nat → Prop) (hO : ∀ k, MS g mp pg (.slice A Tr.length c) k → O k) : Calls Try.prog 11 #[.pointer (some ⟨g, 0, none⟩), .agg #[.int .i64 4, .int .u64 (q : Int), .int .u64 (x : Int)]] w (DidO base w g mp bits i O ⟨0, 3, ⟨wd, Tr⟩⟩) := by
  have hbg : base ≤ w.heap.size := Nat.le_trans h.gm.2.1 (Nat.le_of_lt (blk_lt h.blk))
  have M := h.below (below_alloc (Below.refl _ _) (.cells #[.int .i64 4, .int .u64 (q : Int), .int .u64 (x : Int)] 34))
  have B : ∀ b0, b0 ≤ base → Below b0 w (w.alloc (.cells #[.int .i64 4, .int .u64 (q : Int), .int .u64 (x : Int)] 34)) := fun b0 h0 => (Below.refl _ _).alloc (by omega) _
  have T := peek_of (by decide) (aligned_off M hb q ha h8)
  replace T := Lib.hid T
  replace M := Lib.hid M
  replace B := Lib.hid B
  clear h
  go_enter Try.func11, Try.ntmps11
  go_wp2_with (first | (go_at_call 17; with_reducible refine T.out.mono ?_; rintro e w' ⟨rfl, rfl⟩))
  go_ret2
  exact ⟨rfl, ⟨pg, N, A, c, M.out, by omega, by show Tr.length ≤ _; omega, fun k hk => .inl (hO k hk)⟩, (Kept.refl w O).alloc _, B.out⟩
theorem opair5_ok (h : MAt base w g mp bits pg wd N A c Tr) (hb : bits ≤ 22) (q x : Nat) (hqq : q < 18446744073709551616) (hx : x < 18446744073709551616) (ha : q < 2 ^ bits) (h8 : q % 8 = 0) (i : Nat) (hN : N ≤ i) (hT : Tr.length ≤ i) (hi : i < 1000) (O : Nat → Prop) (hO : ∀ k, MS g mp pg (.slice A Tr.length c) k → O k) : Calls Try.prog 11 #[.pointer (some ⟨g, 0, none⟩), .agg #[.int .i64 5, .int .u64 (q : Int), .int .u64 (x : Int)]] w (DidO base w g mp bits i O ⟨0, 0, ⟨put wd (q / 8) x, Tr⟩⟩) := by
  have hbg : base ≤ w.heap.size := Nat.le_trans h.gm.2.1 (Nat.le_of_lt (blk_lt h.blk))
  have M := h.below (below_alloc (Below.refl _ _) (.cells #[.int .i64 5, .int .u64 (q : Int), .int .u64 (x : Int)] 34))
  have B : ∀ b0, b0 ≤ base → Below b0 w (w.alloc (.cells #[.int .i64 5, .int .u64 (q : Int), .int .u64 (x : Int)] 34)) := fun b0 h0 => (Below.refl _ _).alloc (by omega) _
  have T := store_ok M hb q x ha h8 hx (by omega)
  clear h8
  replace T := Lib.hid T
  replace M := Lib.hid M
  replace B := Lib.hid B
  clear h
  go_enter Try.func11, Try.ntmps11
  go_wp2_with fail
  refine T.out.mono ?_
  rintro e w1 ⟨rfl, pg1, M1, more, kp, b1⟩
  replace more := Lib.hid more
  replace kp := Lib.hid kp
  replace M1 := Lib.hid M1
  replace b1 := Lib.hid b1
  go_wp2_with fail
  go_ret2
  have hsz : w.heap.size ≤ (w.alloc (.cells #[.int .i64 0] 3)).heap.size := by simp
  exact ⟨rfl, ⟨pg1, N + 1, A, c, M1.out, by omega, by show Tr.length ≤ _; omega, fun k hk => by
    rcases hk with h | h | ⟨n, h⟩ | h
    · exact .inl (hO k (.inl h))
    · exact .inl (hO k (.inr (.inl h)))
    · rcases more.out.2 n k h with h | h
      · exact .inl (hO k (.inr (.inr (.inl ⟨n, h⟩))))
      · simp at h; exact .inr (by omega)
    · exact .inl (hO k (.inr (.inr (.inr h))))⟩, ((Kept.refl w O).alloc _).then_ kp.out (fun k hk => .inl (hO k hk)), fun b0 h0 => (B.out b0 h0).trans (b1.out b0 h0)⟩
theorem opair5_bad (h : MAt base w g mp bits pg wd N A c Tr) (hb : bits ≤ 22) (q x : Nat) (hqq : q < 18446744073709551616) (hx : x < 18446744073709551616) (ha : 2 ^ bits ≤ q) (i : Nat) (hN : N ≤ i) (hT : Tr.length ≤ i) (hi : i < 1000) (O : Nat → Prop) (hO : ∀ k, MS g mp pg (.slice A Tr.length c) k → O k) : Calls Try.prog 11 #[.pointer (some ⟨g, 0, none⟩), .agg #[.int .i64 5, .int .u64 (q : Int), .int .u64 (x : Int)]] w (DidO base w g mp bits i O ⟨0, 2, ⟨wd, Tr⟩⟩) := by
  have hbg : base ≤ w.heap.size := Nat.le_trans h.gm.2.1 (Nat.le_of_lt (blk_lt h.blk))
  have M := h.below (below_alloc (Below.refl _ _) (.cells #[.int .i64 5, .int .u64 (q : Int), .int .u64 (x : Int)] 34))
  have B : ∀ b0, b0 ≤ base → Below b0 w (w.alloc (.cells #[.int .i64 5, .int .u64 (q : Int), .int .u64 (x : Int)] 34)) := fun b0 h0 => (Below.refl _ _).alloc (by omega) _
  have T := store_of (x := (x : Int)) (by decide) (aligned_bad M hb q ha)
  replace T := Lib.hid T
  replace M := Lib.hid M
  replace B := Lib.hid B
  clear h
  go_enter Try.func11, Try.ntmps11
  go_wp2_with (first | (go_at_call 18; with_reducible refine T.out.mono ?_; rintro e w' ⟨rfl, rfl⟩))
  go_ret2
  exact ⟨rfl, ⟨pg, N, A, c, M.out, by omega, by show Tr.length ≤ _; omega, fun k hk => .inl (hO k hk)⟩, (Kept.refl w O).alloc _, B.out⟩
theorem opair5_off (h : MAt base w g mp bits pg wd N A c Tr) (hb : bits ≤ 22) (q x : Nat) (hqq : q < 18446744073709551616) (hx : x < 18446744073709551616) (ha : q < 2 ^ bits) (h8 : q % 8 ≠ 0) (i : Nat) (hN : N ≤ i) (hT : Tr.length ≤ i) (hi : i < 1000) (O : Nat → Prop) (hO : ∀ k, MS g mp pg (.slice A Tr.length c) k → O k) : Calls Try.prog 11 #[.pointer (some ⟨g, 0, none⟩), .agg #[.int .i64 5, .int .u64 (q : Int), .int .u64 (x : Int)]] w (DidO base w g mp bits i O ⟨0, 3, ⟨wd, Tr⟩⟩) := by
  have hbg : base ≤ w.heap.size := Nat.le_trans h.gm.2.1 (Nat.le_of_lt (blk_lt h.blk))
  have M := h.below (below_alloc (Below.refl _ _) (.cells #[.int .i64 5, .int .u64 (q : Int), .int .u64 (x : Int)] 34))
  have B : ∀ b0, b0 ≤ base → Below b0 w (w.alloc (.cells #[.int .i64 5, .int .u64 (q : Int), .int .u64 (x : Int)] 34)) := fun b0 h0 => (Below.refl _ _).alloc (by omega) _
  have T := store_of (x := (x : Int)) (by decide) (aligned_off M hb q ha h8)
  replace T := Lib.hid T
  replace M := Lib.hid M
  replace B := Lib.hid B
  clear h
  go_enter Try.func11, Try.ntmps11
  go_wp2_with (first | (go_at_call 18; with_reducible refine T.out.mono ?_; rintro e w' ⟨rfl, rfl⟩))
  go_ret2
  exact ⟨rfl, ⟨pg, N, A, c, M.out, by omega, by show Tr.length ≤ _; omega, fun k hk => .inl (hO k hk)⟩, (Kept.refl w O).alloc _, B.out⟩
theorem opair0 (h : MAt base w g mp bits pg wd N A c Tr) (hb : bits ≤ 22) (k : Int) (q x : Nat) (hqq : q < 18446744073709551616) (hx : x < 18446744073709551616) (k1 : ¬ k = 1) (k2 : ¬ k = 2) (k3 : ¬ k = 3) (k4 : ¬ k = 4) (k5 : ¬ k = 5) (i : Nat) (hN : N ≤ i) (hT : Tr.length ≤ i) (hi : i < 1000) (O : Nat → Prop) (hO : ∀ k, MS g mp pg (.slice A Tr.length c) k → O k) : Calls Try.prog 11 #[.pointer (some ⟨g, 0, none⟩), .agg #[.int .i64 k, .int .u64 (q : Int), .int .u64 (x : Int)]] w (DidO base w g mp bits i O ⟨0, 0, ⟨wd, []⟩⟩) := by
  have hbg : base ≤ w.heap.size := Nat.le_trans h.gm.2.1 (Nat.le_of_lt (blk_lt h.blk))
  have M := h.below (below_alloc (Below.refl _ _) (.cells #[.int .i64 k, .int .u64 (q : Int), .int .u64 (x : Int)] 34))
  have B : ∀ b0, b0 ≤ base → Below b0 w (w.alloc (.cells #[.int .i64 k, .int .u64 (q : Int), .int .u64 (x : Int)] 34)) := fun b0 h0 => (Below.refl _ _).alloc (by omega) _
  have T := forget_any M
  replace T := Lib.hid T
  replace M := Lib.hid M
  replace B := Lib.hid B
  clear h
  go_enter Try.func11, Try.ntmps11
  go_wp2_with fail
  refine T.out.mono ?_
  rintro e w1 ⟨rfl, M1, kp, b1⟩
  replace kp := Lib.hid kp
  replace M1 := Lib.hid M1
  replace b1 := Lib.hid b1
  go_wp2_with fail
  go_ret2
  exact ⟨rfl, ⟨pg, N, none, 0, M1.out, by omega, by simp, fun k hk => by
    rcases hk with h | h | h | h
    · exact .inl (hO k (.inl h))
    · exact .inl (hO k (.inr (.inl h)))
    · exact .inl (hO k (.inr (.inr (.inl h))))
    · simp [Value.ownBlock] at h⟩, ((Kept.refl w O).alloc _).then_ kp.out (fun k hk => .inl (hO k hk)), fun b0 h0 => (B.out b0 h0).trans (b1.out b0 h0)⟩
theorem pairO_any {i : Nat} {m : Wt} {O : Nat → Prop} (h : MemO base w g mp bits i m O) (hb : bits ≤ 22) (k : Int) (q x : Nat) (hq : q < 18446744073709551616) (hx : x < 18446744073709551616) (hi : i < 1000) :
    Calls Try.prog 11 #[.pointer (some ⟨g, 0, none⟩), .agg #[.int .i64 k, .int .u64 (q : Int), .int .u64 (x : Int)]] w (DidO base w g mp bits i O (did bits m k q x)) := by
  obtain ⟨pg, N, A, c, h, hN, hT, hO⟩ := h
  unfold did
  by_cases k1 : k = 1
  · subst k1
    rw [if_pos rfl]
    by_cases ha : q < 2 ^ bits
    · rw [if_pos ha]; exact opair1_ok h hb q x hq hx ha i hN hT hi O hO
    · rw [if_neg ha]; exact opair1_bad h hb q x hq hx (by omega) i hN hT hi O hO
  rw [if_neg k1]
  by_cases k2 : k = 2
  · subst k2
    rw [if_pos rfl]
    by_cases ha : q < 2 ^ bits
    · rw [if_pos ha]; exact opair2_ok h hb q x hq hx ha i hN hT hi O hO
    · rw [if_neg ha]; exact opair2_bad h hb q x hq hx (by omega) i hN hT hi O hO
  rw [if_neg k2]
  by_cases k3 : k = 3
  · subst k3
    rw [if_pos rfl]
    by_cases ha : q < 2 ^ bits
    · rw [if_pos ha]
      by_cases h8 : q % 8 = 0
      · rw [if_pos h8]; exact opair3_ok h hb q x hq hx ha h8 i hN hT hi O hO
      · rw [if_neg h8]; exact opair3_off h hb q x hq hx ha h8 i hN hT hi O hO
    · rw [if_neg ha]; exact opair3_bad h hb q x hq hx (by omega) i hN hT hi O hO
  rw [if_neg k3]
  by_cases k4 : k = 4
  · subst k4
    rw [if_pos rfl]
    by_cases ha : q < 2 ^ bits
    · rw [if_pos ha]
      by_cases h8 : q % 8 = 0
      · rw [if_pos h8]; exact opair4_ok h hb q x hq hx ha h8 i hN hT hi O hO
      · rw [if_neg h8]; exact opair4_off h hb q x hq hx ha h8 i hN hT hi O hO
    · rw [if_neg ha]; exact opair4_bad h hb q x hq hx (by omega) i hN hT hi O hO
  rw [if_neg k4]
  by_cases k5 : k = 5
  · subst k5
    rw [if_pos rfl]
    by_cases ha : q < 2 ^ bits
    · rw [if_pos ha]
      by_cases h8 : q % 8 = 0
      · rw [if_pos h8]; exact opair5_ok h hb q x hq hx ha h8 i hN hT hi O hO
      · rw [if_neg h8]; exact opair5_off h hb q x hq hx ha h8 i hN hT hi O hO
    · rw [if_neg ha]; exact opair5_bad h hb q x hq hx (by omega) i hN hT hi O hO
  rw [if_neg k5]
  exact opair0 h hb k q x hq hx k1 k2 k3 k4 k5 i hN hT hi O hO
end Go.Proofs.Ytpkffpcdmglleaa.Me
