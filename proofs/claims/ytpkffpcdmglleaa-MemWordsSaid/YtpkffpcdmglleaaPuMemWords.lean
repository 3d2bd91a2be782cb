/- Of every deeds, two places and a number the law MemWords returns true. No condition. -/
import Derived.Test.YtpkffpcdmglleaaMr
set_option linter.unusedVariables false
set_option linter.unusedSimpArgs false
namespace Go.Proofs.Ytpkffpcdmglleaa.Pu
open Go.RowKit Go.Maps Go.Proofs.Ytpkffpcdmglleaa.Me Go.Proofs.YtpkffpcdmglleaaW.PrintWords Go.Proofs.YtpkffpcdmglleaaW.PrintMore
set_option maxHeartbeats 4000000 in
set_option maxRecDepth 100000 in
theorem memwords (dl : List Od.Deed) (a : Option Addr) (cap t o x : Nat) (w : World) (hlen : dl.length < 9223372036854775808) (hc : Od.Cells w a dl) (ht : t < 65536) (ho : o < 65536) (hx : x < 18446744073709551616) :
    Calls Try.prog 4 #[.slice a dl.length cap, .agg #[.int .u16 (t : Int), .int .u16 (o : Int)], .int .u64 (x : Int)] w fun e w' => e = .returned (.bool true) ∧ Below w.heap.size w w' := by
  replace hc := Lib.hid hc
  have hbox := Lib.hid (blk_new w (.cells #[.int .u16 (t : Int), .int .u16 (o : Int)] 42))
  have B0 := Lib.hid (below_alloc (Below.refl w.heap.size w) (.cells #[.int .u16 (t : Int), .int .u16 (o : Int)] 42))
  go_enter Try.func4, Try.ntmps4
  go_wp2_with fail
  generalize hw0 : w.alloc (.cells #[.int .u16 (t : Int), .int .u16 (o : Int)] 42) = w0 at *
  replace hw0 := Lib.hid hw0
  refine (awake_any w0).mono ?_
  rintro e w1 ⟨rfl, B1⟩
  have hbox1 := blk_below hbox.out B1
  have c0 : w1.cell? ⟨w.heap.size, 0, none⟩ = some (.int .u16 (t : Int)) := (blk_cell hbox1 0).trans rfl
  have c1 : w1.cell? ⟨w.heap.size, 1, none⟩ = some (.int .u16 (o : Int)) := (blk_cell hbox1 1).trans rfl
  replace B1 := Lib.hid (below_step B0.out B1)
  clear hbox1 hbox hw0
  go_wp2_with fail
  refine (run_any dl a cap w1 hlen (hc.out.below B1.out)).mono ?_
  rintro e w2 ⟨rfl, M2, B2⟩
  have hm : w.heap.size ≤ w1.heap.size := B1.out.size
  have HB2 := Lib.hid (below_step B1.out B2)
  clear B1 B2 hc c0 c1
  generalize runs 16 (dl.take 120) = m0 at *
  generalize w1.heap.size + 1 = g at *
  generalize w1.heap.size = mp at *
  have T1 := M2.peek (by decide) (o / 8 * 8) (by show _ < 65536; omega) (by omega)
  rw [show o / 8 * 8 / 8 = o / 8 by omega, show ((o / 8 * 8 : Nat) : Int) = (o : Int) / 8 * 8 by omega] at T1
  have T2 := M2.store (by decide) (t / 8 * 8) x (by show _ < 65536; omega) (by omega) hx (by decide)
  rw [show t / 8 * 8 / 8 = t / 8 by omega, show ((t / 8 * 8 : Nat) : Int) = (t : Int) / 8 * 8 by omega] at T2
  have hs : Hid (Me.put m0.wd (t / 8) x (t / 8) = x) := Lib.hid (Me.put_same _ _ _)
  have ho2 : Hid (t / 8 ≠ o / 8 → Me.put m0.wd (t / 8) x (o / 8) = m0.wd (o / 8)) := Lib.hid (fun h => Me.put_other _ _ (fun e => h e.symm))
  generalize Me.put m0.wd (t / 8) x = wd1 at *
  generalize hwz : m0.wd (o / 8) = wz at *
  generalize m0.tr = tr0 at *
  replace T1 := Lib.hid T1
  replace T2 := Lib.hid T2
  clear M2 hwz
  go_wp2_with (first | (go_at_call 17; with_reducible refine T1.out.mono ?_; rintro e w' ⟨rfl, rfl⟩))
  refine T2.out.mono ?_
  rintro e w3 ⟨rfl, M3, b3⟩
  replace b3 := Lib.hid (HB2.out.trans (b3 _ hm))
  have T3 := M3.load (by decide) (t / 8 * 8) (by show _ < 65536; omega) (by omega) (by decide)
  rw [show t / 8 * 8 / 8 = t / 8 by omega, show ((t / 8 * 8 : Nat) : Int) = (t : Int) / 8 * 8 by omega] at T3
  replace T3 := Lib.hid T3
  replace hs' := hs.out
  have T3' : Hid (Calls Try.prog 19 #[.pointer (some ⟨g, 0, none⟩), .int .u64 ((t : Int) / 8 * 8)] w3 fun e w' => e = .returned (.tuple #[.int .u64 (x : Int), .int .i64 0]) ∧ Mem mp w' g mp 16 122 ⟨wd1, tr0 ++ [(t : Int) / 8 * 8]⟩ ∧ ∀ b0, b0 ≤ mp → Below b0 w3 w') := Lib.hid (by
    have h := T3.out
    rw [show (Wt.mk wd1 tr0).wd (t / 8) = x from hs'] at h
    exact h)
  clear T1 T2 T3 hs' HB2 M3
  go_wp2_with fail
  refine T3'.out.mono ?_
  rintro e w4 ⟨rfl, M4, b4⟩
  have HB4 := Lib.hid (b3.out.trans (b4 _ hm))
  have T4 := M4.peek (by decide) (o / 8 * 8) (by show _ < 65536; omega) (by omega)
  rw [show o / 8 * 8 / 8 = o / 8 by omega, show ((o / 8 * 8 : Nat) : Int) = (o : Int) / 8 * 8 by omega] at T4
  generalize tr0 ++ [(t : Int) / 8 * 8] = tr1 at *
  replace M4 := Lib.hid M4
  have ho3 : Hid (t / 8 ≠ o / 8 → (Wt.mk wd1 tr1).wd (o / 8) = wz) := ho2
  generalize hnz : (Wt.mk wd1 tr1).wd (o / 8) = nz at *
  replace T4 := Lib.hid T4
  clear T3' b3 b4 hnz ho2
  go_wp2_with (first | (go_at_call 17; with_reducible refine T4.out.mono ?_; rintro e w' ⟨rfl, rfl⟩))
  go_loopw [20] (fun y wr => ∃ (i : Nat), y = .int .i64 (i : Int) ∧ i ≤ 8 ∧ Hid (Mem mp wr g mp 16 122 ⟨wd1, tr1⟩) ∧ Hid (Below w.heap.size w wr)) (fun y _ => 8 - (intOf y).toNat)
  case atStart => exact ⟨0, rfl, by omega, M4, HB4⟩
  case round =>
    clear M4 HB4 T4
    obtain ⟨i, rfl, hi, HM, HB⟩ := hrel
    by_cases hi8 : i < 8
    · have hi82 : (i : Int) < 8 := by omega
      have T := HM.out.get (by decide) (t / 8 * 8 + i) (by show _ < 65536; omega)
      rw [show (t / 8 * 8 + i) / 8 = t / 8 by omega, show (t / 8 * 8 + i) % 8 = i by omega, show (Wt.mk wd1 tr1).wd (t / 8) = x from hs.out] at T
      rw [show ((t / 8 * 8 + i : Nat) : Int) = (t : Int) / 8 * 8 + (i : Int) by omega] at T
      have R := fun W : World => Fn.dormerref02_Byte.calls 64 (x : Int) (i : Int) _ W (NF.rbyte (by omega) hx hi8)
      have hr := NL.gN_lt x (8 * i) 8
      generalize NL.gN x (8 * i) 8 = r at *
      replace hr : r < 256 := hr
      replace T := Lib.hid T
      replace R := Lib.hid R
      go_wp2_with (first | (go_at_call 20; with_reducible refine T.out.mono ?_; rintro e w' ⟨rfl, ⟨nd, rfl⟩⟩) | (go_at_call 21; with_reducible refine (R.out _).mono ?_; rintro e w' ⟨rfl, ⟨nd2, rfl⟩⟩))
      go_roundw
      case rel => exact ⟨i + 1, by go_num, by omega, Lib.hid (HM.out.drewN _), Lib.hid (pw_below_drewN HB.out _)⟩
      case measure => simp [intOf] <;> omega
    · have hi82 : ¬ (i : Int) < 8 := by omega
      by_cases hab : t / 8 = o / 8
      · have e1 : (((t : Int) / 8 * 8) == ((o : Int) / 8 * 8)) = true := by simp; omega
        clear hab
        go_wp2_with fail
        go_ret
        exact ⟨rfl, HB.out⟩
      · have hz := ho3.out hab
        subst hz
        have e1 : (((t : Int) / 8 * 8) == ((o : Int) / 8 * 8)) = false := by simp; omega
        clear hab
        go_wp2_with fail
        go_ret
        exact ⟨rfl, HB.out⟩
theorem u16_lit' {a : Int} (h : (Lit.int .u16 a).wf = true) : 0 ≤ a ∧ a < 65536 := by
  have h1 : IntKind.u16.min = 0 := by decide
  have h2 : IntKind.u16.max = 65535 := by decide
  simp only [Lit.wf, Bool.and_eq_true, decide_eq_true_eq] at h
  omega
theorem list2 {α : Type} {l : List α} (h : l.length = 2) : ∃ a b, l = [a, b] := by
  match l, h with
  | [a, b], _ => exact ⟨a, b, rfl⟩
theorem MemWords (a : Option Addr) (len cap : Nat) (dl : List Od.Deed) (xs : List Int) (x : Int) (w : World) (hlen : len < 9223372036854775808) (hl : dl.length = len) (hc : Od.Cells w a dl) (n2 : xs.length = 2) (wx : ∀ x ∈ xs, (Lit.int .u16 x).wf = true) (wq : (Lit.int .u64 x).wf = true) :
    Calls Try.prog 4 #[.slice a len cap, .agg (xs.map (Value.int .u16)).toArray, .int .u64 x] w fun e w' => e = .returned (.bool true) ∧ Below w.heap.size w w' := by
  obtain ⟨t, o, rfl⟩ := list2 n2
  obtain ⟨t0, t1⟩ := u16_lit' (wx t (by simp))
  obtain ⟨o0, o1⟩ := u16_lit' (wx o (by simp))
  obtain ⟨x0, x1⟩ := Od.u64_lit wq
  obtain ⟨t, rfl⟩ : ∃ c : Nat, t = (c : Int) := ⟨t.toNat, by omega⟩
  obtain ⟨o, rfl⟩ : ∃ c : Nat, o = (c : Int) := ⟨o.toNat, by omega⟩
  obtain ⟨x, rfl⟩ : ∃ c : Nat, x = (c : Int) := ⟨x.toNat, by omega⟩
  subst hl
  exact memwords dl a cap t o x w hlen hc (by omega) (by omega) (by omega)
end Go.Proofs.Ytpkffpcdmglleaa.Pu
