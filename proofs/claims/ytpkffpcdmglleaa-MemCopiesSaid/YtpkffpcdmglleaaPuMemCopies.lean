/- MemCopies: of every row of deeds, place and number the law returns true. Condition: the deeds lie where they lie. -/
import Derived.Test.YtpkffpcdmglleaaMcq
import Derived.Test.YtpkffpcdmglleaaMdf
import Derived.Test.YtpkffpcdmglleaaMdn
import Derived.Test.YtpkffpcdmglleaaMh
set_option linter.unusedVariables false
set_option linter.unusedSimpArgs false
namespace Go.Proofs.Ytpkffpcdmglleaa.Pu
open Go.RowKit Go.Maps Go.Proofs.Ytpkffpcdmglleaa.Me Go.Proofs.YtpkffpcdmglleaaW.PrintWords Go.Proofs.YtpkffpcdmglleaaW.PrintMore
section
variable {base : Nat} {w w' : World} {g mp bits N c : Nat} {pg : Nat → Option Nat} {wd : Nat → Nat} {A : Option Addr} {Tr : List Int}
theorem MAt_kept2 (h : MAt base w g mp bits pg wd N A c Tr) {b : Nat} (hlt : ∀ k, MS g mp pg (.slice A Tr.length c) k → k < b) (hB : Below b w w') : MAt base w' g mp bits pg wd N A c Tr :=
  h.kept fun k _ hm => hB.block k (hlt k hm)
theorem MAt_kept3 (h : MAt base w g mp bits pg wd N none 0 []) {S : Nat → Prop} (hlt : ∀ k, S k → k < base) (hk : Kept w w' S) : MAt base w' g mp bits pg wd N none 0 [] :=
  h.kept fun k hlt' hm => hk.2 k hlt' fun hs => by
    have h1 := hlt k hs
    rcases hm with rfl | rfl | ⟨n, hn⟩ | hm
    · have := h.gm.2.1; omega
    · have := h.gm.2.2; omega
    · have := (h.far n k hn).2.2; omega
    · cases hm
end
theorem DL_one {u : Nat → Nat} {s x y : Nat} (h : y ≠ x) (M : Nat) : DL (put u s y) (put u s x) M = if s < M then [((8 * s : Nat) : Int)] else [] := by
  induction M with
  | zero => rfl
  | succ M ih =>
    rw [DL_succ, ih]
    by_cases hs : s = M
    · subst hs
      rw [put_same, put_same, if_neg h, if_neg (Nat.lt_irrefl _), if_pos (Nat.lt_succ_self _)]
      rfl
    · rw [put_other _ _ (Ne.symm hs), put_other _ _ (Ne.symm hs), if_pos rfl]
      by_cases h2 : s < M
      · rw [if_pos h2, if_pos (by omega)]
      · rw [if_neg h2, if_neg (by omega)]
set_option maxHeartbeats 4000000 in
set_option maxRecDepth 100000 in
theorem MemCopies_ok (dl : List Od.Deed) (a : Option Addr) (cap t x : Nat) (w : World) (hlen : dl.length < 9223372036854775808) (hc : Od.Cells w a dl) (ht : t < 65536) (hx : x < 18446744073709551616) :
    Calls Try.prog 8 #[.slice a dl.length cap, .int .u16 (t : Int), .int .u64 (x : Int)] w fun e w' => e = .returned (.bool true) ∧ Below w.heap.size w w' := by
  replace hc := Lib.hid hc
  have hv1 : Hid (NL.notN x < 18446744073709551616) := Lib.hid (NL.notN_lt x)
  have hv2 := Lib.hid (NL.xor_nat (a := x) hx)
  have hv3 : Hid (NL.notN x ≠ x) := Lib.hid (by simp only [NL.notN]; omega)
  go_enter Try.func8, Try.ntmps8
  go_wp2_with fail
  refine (awake_any w).mono ?_
  rintro e w1 ⟨rfl, B1⟩
  have s1 := B1.size
  replace B1 := Lib.hid B1
  go_wp2_with fail
  refine (run_any dl a cap w1 hlen (hc.out.below B1.out)).mono ?_
  rintro e w2 ⟨rfl, M2, B2⟩
  obtain ⟨pg, N, E, c, H2, hN, _⟩ := M2
  have s2 := B2.size
  replace B2 := Lib.hid (below_step B1.out B2)
  clear B1 hc
  generalize (runs 16 (dl.take 120)).wd = u at *
  generalize (runs 16 (dl.take 120)).tr = Tr at *
  generalize hg : w1.heap.size + 1 = g at *
  clear hg
  generalize w1.heap.size = b1 at *
  have hlt := Lib.hid H2.lts
  have T25 := Lib.hid (copy_any H2 (by decide) (by decide) (by omega))
  replace H2 := Lib.hid H2
  generalize hb2 : w2.heap.size = b2 at *
  go_wp2_with fail
  refine T25.out.mono ?_
  rintro e w3 ⟨rfl, ⟨pg', C3⟩, B3⟩
  clear T25
  have H3 := Lib.hid (MAt_kept2 H2.out hlt.out B3)
  replace B3 := Lib.hid (B2.out.trans (B3.mono (show w.heap.size ≤ b2 by omega)))
  replace C3 := Lib.hid C3
  clear H2 B2
  have T26 := diff_any H3.out C3.out (by decide)
  rw [show 2 ^ 16 / 4096 * 512 = 8192 from rfl, DL_self] at T26
  replace T26 := Lib.hid T26
  go_wp2_with fail
  refine T26.out.mono ?_
  rintro e w4 ⟨x4, rfl, R4, B4⟩
  obtain ⟨A4, c4, e4, l4, _⟩ := Kd.R_reads R4
  subst e4
  have C4 := C3.out.below B4
  have H4 := H3.out.below B4
  replace B3 := Lib.hid (below_step B3.out B4)
  have T14 := Lib.hid (trace_any C4 (by decide))
  clear R4 B4 T26 H3 C3 l4
  replace C4 := Lib.hid C4
  replace H4 := Lib.hid H4
  go_wp2_with fail
  refine T14.out.mono ?_
  rintro e w5 ⟨x5, rfl, R5, B5⟩
  obtain ⟨A5, c5, e5, l5, _⟩ := Kd.R_reads R5
  subst e5
  have C5 := C4.out.below B5
  have H5 := H4.out.below B5
  replace B3 := Lib.hid (below_step B3.out B5)
  have Tc := Lib.hid (bits_any C5)
  have Th := Lib.hid (bits_any H5)
  have T17 := peek_ok H5 (by decide) (t / 8 * 8) (by show _ < 65536; omega) (by omega)
  have T18 := store_ok C5 (by decide) (t / 8 * 8) x (by show _ < 65536; omega) (by omega) hx (by omega)
  rw [show t / 8 * 8 / 8 = t / 8 by omega, show ((t / 8 * 8 : Nat) : Int) = (t : Int) / 8 * 8 by omega] at T17 T18
  replace T17 := Lib.hid T17
  replace T18 := Lib.hid T18
  clear R5 B5 T14 H4 C4 l5
  replace C5 := Lib.hid C5
  replace H5 := Lib.hid H5
  generalize hus : u (t / 8) = us at *
  replace hus := Lib.hid hus
  go_wp2_with (first | (go_at_call 15; with_reducible refine Tc.out.mono ?_; rintro e w' ⟨rfl, rfl⟩) | (go_at_call 15; with_reducible refine Th.out.mono ?_; rintro e w' ⟨rfl, rfl⟩) | (go_at_call 17; with_reducible refine T17.out.mono ?_; rintro e w' ⟨rfl, rfl⟩))
  refine T18.out.mono ?_
  rintro e w6 ⟨rfl, pg2, C6, _, _, bC⟩
  have H6 := MAt_kept2 H5.out hlt.out (bC b2 (Nat.le_refl _))
  replace B3 := Lib.hid (B3.out.trans (bC w.heap.size (by omega)))
  have T17 := peek_ok H6 (by decide) (t / 8 * 8) (by show _ < 65536; omega) (by omega)
  have T18 := store_ok H6 (by decide) (t / 8 * 8) (NL.notN x) (by show _ < 65536; omega) (by omega) hv1.out (by omega)
  rw [show t / 8 * 8 / 8 = t / 8 by omega, show ((t / 8 * 8 : Nat) : Int) = (t : Int) / 8 * 8 by omega] at T17 T18
  rw [hus.out] at T17
  replace T17 := Lib.hid T17
  replace T18 := Lib.hid T18
  clear Tc Th H5 C5 bC
  replace C6 := Lib.hid C6
  replace H6 := Lib.hid H6
  go_wp2_with (first | (go_at_call 17; with_reducible refine T17.out.mono ?_; rintro e w' ⟨rfl, rfl⟩))
  rw [hv2.out]
  have hyx := DL_one (u := u) (s := t / 8) hv3.out 8192
  rw [if_pos (by omega)] at hyx
  generalize NL.notN x = y at *
  refine T18.out.mono ?_
  rintro e w7 ⟨rfl, pg3, H7, _, kH, bH⟩
  have C7 := MAt_kept3 C6.out hlt.out kH
  replace B3 := Lib.hid (B3.out.trans (bH w.heap.size s1))
  have T17 := peek_ok C7 (by decide) (t / 8 * 8) (by show _ < 65536; omega) (by omega)
  rw [show t / 8 * 8 / 8 = t / 8 by omega, show ((t / 8 * 8 : Nat) : Int) = (t : Int) / 8 * 8 by omega, put_same] at T17
  have T26 := diff_any H7 C7 (by decide)
  rw [show 2 ^ 16 / 4096 * 512 = 8192 from rfl, hyx] at T26
  replace T17 := Lib.hid T17
  replace T26 := Lib.hid T26
  clear T18 H6 C6 C7 H7 kH bH hyx hus
  go_wp2_with (first | (go_at_call 17; with_reducible refine T17.out.mono ?_; rintro e w' ⟨rfl, rfl⟩))
  refine T26.out.mono ?_
  rintro e w8 ⟨x8, rfl, R8, B8⟩
  obtain ⟨A8, c8, e8, l8, _⟩ := Kd.R_reads R8
  subst e8
  replace B3 := Lib.hid (below_step B3.out B8)
  clear R8 B8 T26 T17 l8
  go_wp2_with fail
  go_ret
  exact ⟨rfl, B3.out⟩
theorem MemCopies (a : Option Addr) (len cap : Nat) (dl : List Od.Deed) (t x : Int) (w : World) (hlen : len < 9223372036854775808) (hl : dl.length = len) (hc : Od.Cells w a dl) (wt : (Lit.int .u16 t).wf = true) (wq : (Lit.int .u64 x).wf = true) :
    Calls Try.prog 8 #[.slice a len cap, .int .u16 t, .int .u64 x] w fun e w' => e = .returned (.bool true) ∧ Below w.heap.size w w' := by
  have h1 : IntKind.u16.min = 0 := by decide
  have h2 : IntKind.u16.max = 65535 := by decide
  simp only [Lit.wf, Bool.and_eq_true, decide_eq_true_eq] at wt
  obtain ⟨x0, x1⟩ := Od.u64_lit wq
  obtain ⟨t, rfl⟩ : ∃ c : Nat, t = (c : Int) := ⟨t.toNat, by omega⟩
  obtain ⟨x, rfl⟩ : ∃ c : Nat, x = (c : Int) := ⟨x.toNat, by omega⟩
  subst hl
  exact MemCopies_ok dl a cap t x w hlen hc (by omega) (by omega)
end Go.Proofs.Ytpkffpcdmglleaa.Pu
