/- Of every deeds, place and eight bytes the law MemBytes returns true. No condition. -/
import Derived.Test.YtpkffpcdmglleaaMr
set_option linter.unusedVariables false
set_option linter.unusedSimpArgs false
namespace Go.Proofs.Ytpkffpcdmglleaa.Pu
open Go.RowKit Go.Maps Go.Proofs.Ytpkffpcdmglleaa.Me Go.Proofs.YtpkffpcdmglleaaW.PrintWords Go.Proofs.YtpkffpcdmglleaaW.PrintMore
theorem bytes_eq {V : Nat} {bs : List Nat} (hV : V < 2 ^ 64) (hl : bs.length = 8) (h : ∀ k, k < 8 → NL.gN V (8 * k) 8 = bs.getD k 0) : V = NL.valN bs := by
  have e : NL.bytesN V = bs := by
    apply List.ext_getElem
    · rw [NL.bytesN_length, hl]
    · intro i h1 h2
      have hi : i < 8 := by omega
      have h3 := h i hi
      rw [← NL.bytesN_getD V i hi] at h3
      simpa [List.getD, List.getElem?_eq_getElem h1, List.getElem?_eq_getElem h2] using h3
  rw [← e, NL.val_bytes hV]
theorem gN_far (x v lo lo' : Nat) (h : lo + 8 ≤ lo' ∨ lo' + 8 ≤ lo) : NL.gN (NL.sN x lo 8 v) lo' 8 = NL.gN x lo' 8 := NL.eq_bits fun i => by
  rw [NL.gN_bit, NL.gN_bit, NL.sN_bit]
  by_cases hi : i < 8
  · rw [if_neg (by omega)]
  · simp [hi]
set_option maxHeartbeats 2000000 in
set_option maxRecDepth 100000 in
theorem membytes (dl : List Od.Deed) (a : Option Addr) (cap t : Nat) (bs : List Nat) (w : World) (hlen : dl.length < 9223372036854775808) (hc : Od.Cells w a dl) (ht : t < 65536) (hl : bs.length = 8) (hbs : ∀ b ∈ bs, b < 256) :
    Calls Try.prog 5 #[.slice a dl.length cap, .int .u16 (t : Int), .agg ((NL.ints bs).map (Value.int .u8)).toArray] w fun e w' => e = .returned (.bool true) ∧ Below w.heap.size w w' := by
  have hVs : (((NL.ints bs).map (Value.int .u8)).toArray).size = 8 := by simp [NL.ints_length, hl]
  have hVg : ∀ i, i < 8 → (((NL.ints bs).map (Value.int .u8)).toArray)[i]? = some (.int .u8 ((bs.getD i 0 : Nat) : Int)) := by
    intro i hi
    simp [NL.ints, List.getD, List.getElem?_eq_getElem (show i < bs.length by omega)]
  replace hc := Lib.hid hc
  generalize hV : (((NL.ints bs).map (Value.int .u8)).toArray) = V at *
  replace hV := Lib.hid hV
  replace hVs := Lib.hid hVs
  replace hVg := Lib.hid hVg
  replace hl := Lib.hid hl
  replace hbs := Lib.hid hbs
  have hbox := Lib.hid (blk_new w (.cells V 52))
  have B0 := Lib.hid (below_alloc (Below.refl w.heap.size w) (.cells V 52))
  go_enter Try.func5, Try.ntmps5
  go_wp2_with fail
  generalize hw0 : w.alloc (.cells V 52) = w0 at *
  replace hw0 := Lib.hid hw0
  refine (awake_any w0).mono ?_
  rintro e w1 ⟨rfl, B1⟩
  have hbox1 := Lib.hid (blk_below hbox.out B1)
  replace B1 := Lib.hid (below_step B0.out B1)
  go_wp2_with fail
  refine (run_any dl a cap w1 hlen (hc.out.below B1.out)).mono ?_
  rintro e w2 ⟨rfl, M2, B2⟩
  have hm : w.heap.size ≤ w1.heap.size := B1.out.size
  have HB2 := Lib.hid (below_step B1.out B2)
  have hbox2 := Lib.hid (blk_below hbox1.out B2)
  have hbm : Hid (w.heap.size < w1.heap.size) := Lib.hid (blk_lt hbox1.out)
  clear hbox1 B1 B2 hbox hw0 hc
  replace M2 := Lib.hid M2
  generalize runs 16 (dl.take 120) = m0 at *
  generalize w1.heap.size + 1 = g at *
  generalize w1.heap.size = mp at *
  go_wp2_with fail
  have hstart : Hid (∀ k, 8 ≤ k → k < 8 → NL.gN (m0.wd (t / 8)) (8 * k) 8 = bs.getD k 0) := Lib.hid (fun k h1 h2 => by omega)
  go_loopw [10] (fun y wr => ∃ (j : Nat) (m : Wt), y = .int .i64 ((j : Int) - 1) ∧ j ≤ 8 ∧ Hid (Mem mp wr g mp 16 (128 - j) m) ∧ Hid (∀ k, j ≤ k → k < 8 → NL.gN (m.wd (t / 8)) (8 * k) 8 = bs.getD k 0) ∧ Hid (wr.heap[w.heap.size]? = some (.cells V 52 (0, 0))) ∧ Hid (Below w.heap.size w wr)) (fun y _ => (intOf y + 1).toNat)
  case atStart => exact ⟨8, m0, rfl, by omega, M2, hstart, hbox2, HB2⟩
  case round =>
    clear M2 hstart hbox2 HB2
    obtain ⟨j, m, rfl, hj, HM, HS, HX, HB⟩ := hrel
    rcases Nat.eq_zero_or_pos j with h0 | h0
    · subst h0
      have hV8 := NL.valN_lt64 hl.out hbs.out
      have hval : m.wd (t / 8) = NL.valN bs := bytes_eq (HM.out.fits _) hl.out (fun k hk => HS.out k (by omega) hk)
      have T1 := HM.out.peek (by decide) (t / 8 * 8) (by show _ < 65536; omega) (by omega)
      rw [show t / 8 * 8 / 8 = t / 8 by omega, hval, show ((t / 8 * 8 : Nat) : Int) = (t : Int) / 8 * 8 by omega] at T1
      have hC : Kd.C (Kd.int .u8) wr (some ⟨w.heap.size, 0, none⟩) (NL.ints bs).length (NL.ints bs) := by
        refine ⟨rfl, by rw [NL.ints_length, hl.out]; decide, fun _ => ⟨_, rfl, fun j p hp => ⟨[.int .u8 p], rfl, rfl, fun i u hu => ?_⟩⟩⟩
        have hj : j < 8 := by
          have := (List.getElem?_eq_some_iff.1 hp).1
          rw [NL.ints_length, hl.out] at this
          exact this
        have hi0 : i = 0 := by
          have := (List.getElem?_eq_some_iff.1 hu).1
          simpa using this
        subst hi0
        have hu2 : u = .int .u8 p := by simpa using hu.symm
        have hp2 : p = ((bs.getD j 0 : Nat) : Int) := by
          rw [← NL.ints_getD, List.getD_eq_getElem?_getD, hp]
          rfl
        rw [hu2, hp2]
        have := (blk_cell HX.out j).trans (hVg.out j hj)
        rw [show (Addr.add ⟨w.heap.size, 0, none⟩ (j * (Kd.int .u8).sz + 0)) = ⟨w.heap.size, j, none⟩ by
          show Addr.add _ (j * 1 + 0) = _
          unfold Addr.add
          by_cases h : j = 0
          · subst h; rfl
          · rw [if_neg (by omega)]; simp]
        exact this
      have T2 := Fn.dormerref02_From.calls 9 (some ⟨w.heap.size, 0, none⟩) 8 (NL.ints bs) _ _ wr hC (by rw [NL.ints_length, hl.out]; omega) (NF.rfrom (by omega) hl.out hbs.out)
      rw [NL.ints_length, hl.out] at T2
      generalize NL.valN bs = V8 at *
      replace T1 := Lib.hid T1
      replace T2 := Lib.hid T2
      clear hC hval HM HS
      have hcV := Lib.hid hVs.out
      go_wp2_with (first | (go_at_call 17; with_reducible refine T1.out.mono ?_; rintro e w' ⟨rfl, rfl⟩))
      go_wp2_with (first | (go_at_call 23; with_reducible refine T2.out.mono ?_; rintro e w' ⟨rfl, ⟨nd, rfl⟩⟩))
      go_ret
      exact ⟨rfl, pw_below_drewN HB.out nd⟩
    · obtain ⟨i, rfl⟩ : ∃ i, j = i + 1 := ⟨j - 1, by omega⟩
      have ei : ((i + 1 : Nat) : Int) - 1 = (i : Int) := by omega
      rw [ei]
      clear ei h0
      have hi : i < 8 := by omega
      have hx := (blk_cell HX.out i).trans (hVg.out i hi)
      have hbi : bs.getD i 0 < 256 := NL.getD_lt hbs.out i
      generalize hbv : bs.getD i 0 = b at *
      replace hbv := Lib.hid hbv
      have T := HM.out.put (by decide) (t / 8 * 8 + i) b (by show _ < 65536; omega) hbi (by omega)
      rw [show (t / 8 * 8 + i) / 8 = t / 8 by omega, show (t / 8 * 8 + i) % 8 = i by omega] at T
      rw [show ((t / 8 * 8 + i : Nat) : Int) = (t : Int) / 8 * 8 + (i : Int) by omega] at T
      replace T := Lib.hid T
      go_wp2_with fail
      refine T.out.mono ?_
      rintro e w3 ⟨rfl, M3, b3⟩
      replace M3 := Lib.hid M3
      replace b3 := Lib.hid (b3 _ (Nat.le_refl _))
      have HB3 := Lib.hid (HB.out.trans (b3.out.mono hm))
      have HX3 := Lib.hid ((b3.out.block _ hbm.out).trans HX.out)
      have HS3 : Hid (∀ k, i ≤ k → k < 8 → NL.gN (Me.put m.wd (t / 8) (NL.sN (m.wd (t / 8)) (8 * i) 8 b) (t / 8)) (8 * k) 8 = bs.getD k 0) := Lib.hid (by
        intro k h1 h2
        rw [Me.put_same]
        rcases Nat.lt_or_eq_of_le h1 with h | h
        · rw [gN_far _ _ _ _ (by omega)]
          exact HS.out k h h2
        · subst h
          rw [NL.gN_sN_same, hbv.out]
          exact Nat.mod_eq_of_lt hbi)
      clear T HM HB HX HS b3 hx
      go_wp2_with fail
      go_roundw
      case rel => exact ⟨i, _, rfl, by omega, (by rw [show 128 - i = 128 - (i + 1) + 1 by omega]; exact M3), HS3, HX3, HB3⟩
      case measure => simp [intOf] <;> omega
theorem u16_lit {a : Int} (h : (Lit.int .u16 a).wf = true) : 0 ≤ a ∧ a < 65536 := by
  have h1 : IntKind.u16.min = 0 := by decide
  have h2 : IntKind.u16.max = 65535 := by decide
  simp only [Lit.wf, Bool.and_eq_true, decide_eq_true_eq] at h
  omega
theorem MemBytes (a : Option Addr) (len cap : Nat) (dl : List Od.Deed) (t : Int) (xs : List Int) (w : World) (hlen : len < 9223372036854775808) (hl : dl.length = len) (hc : Od.Cells w a dl) (wt : (Lit.int .u16 t).wf = true) (n8 : xs.length = 8) (wx : ∀ x ∈ xs, (Lit.int .u8 x).wf = true) :
    Calls Try.prog 5 #[.slice a len cap, .int .u16 t, .agg (xs.map (Value.int .u8)).toArray] w fun e w' => e = .returned (.bool true) ∧ Below w.heap.size w w' := by
  obtain ⟨t0, t1⟩ := u16_lit wt
  obtain ⟨t, rfl⟩ : ∃ c : Nat, t = (c : Int) := ⟨t.toNat, by omega⟩
  obtain ⟨bs, rfl, hbs⟩ := NL.ints_of wx
  subst hl
  exact membytes dl a cap t bs w hlen hc (by omega) (by rw [← n8, NL.ints_length]) hbs
end Go.Proofs.Ytpkffpcdmglleaa.Pu
