/- The contract of (*Mem).Copy: a memory of the same words, of one that holds a bits' count that New takes. Conditions: those it names. -/
import Derived.Test.YtpkffpcdmglleaaMcp
set_option linter.unusedVariables false
set_option linter.unusedSimpArgs false
namespace Go.Proofs.Ytpkffpcdmglleaa.Me
open Go.RowKit Go.Maps Go.Proofs.Ytpkffpcdmglleaa.RM Go.Proofs.YtpkffpcdmglleaaW.PrintWords Go.Proofs.YtpkffpcdmglleaaW.PrintMore
variable {base : Nat} {w w' : World} {g mp bits N c : Nat} {pg : Nat → Option Nat} {wd : Nat → Nat} {A : Option Addr} {Tr : List Int}
/-- Its blocks are no iterator's. -/
theorem MAt.iter (h : MAt base w g mp bits pg wd N none 0 []) {r n : Nat} {b : Nat} {D : DataW Unit} {left : Lit → Bool} {cnt : Nat} (hr : w.ranges Try.prog 30 ptrElem b r n D left cnt) (hg : w.grownBy w' (some r)) : MAt base w' g mp bits pg wd N none 0 [] := by
  obtain ⟨es, clock, since, seen, c0, h1, h2, h3, h4, h5, h6⟩ := hr
  obtain ⟨D0, ⟨es0, cl0, ho, ho2⟩, hD0⟩ := h.own
  have hbl := h.blk
  refine h.kept fun k hk hm => hg.block k hk fun e => ?_
  injection e with e
  subst e
  rcases hm with rfl | rfl | ⟨m, hm⟩ | hm
  · rw [hbl] at h5
    cases h5
  · rw [ho] at h5
    cases h5
  · obtain ⟨cs, h7, _⟩ := h.page m _ hm
    rw [h7] at h5
    cases h5
  · cases hm
/-- What the loop bears. -/
structure CopyR (base : Nat) (w wr : World) (mp bits N : Nat) (wd : Nat → Nat) (r : Nat) (D : DataW Unit) : Prop where
  ex : ∃ (left : Lit → Bool) (cnt : Nat) (pg2 : Nat → Option Nat) (wd2 : Nat → Nat), wr.ranges Try.prog 30 ptrElem mp r N D left cnt ∧ cnt ≤ Maps.size D ∧ MAt base wr (base + 1) base bits pg2 wd2 (Maps.size D - cnt) none 0 [] ∧ (∀ n, left (key n) = true → pg2 n = none) ∧ (∀ s, wd2 s = if left (key (s / 512)) then 0 else wd s) ∧ Below base w wr
set_option maxHeartbeats 1000000 in
set_option maxRecDepth 100000 in
theorem copy_any (h : MAt base w g mp bits pg wd N A c Tr) (h14 : 14 ≤ bits) (hb : bits ≤ 22) (hN : N < 1000000) : Calls Try.prog 25 #[.pointer (some ⟨g, 0, none⟩)] w fun e w' =>
    e = .returned (.pointer (some ⟨w.heap.size + 1, 0, none⟩)) ∧ (∃ pg', MAt w.heap.size w' (w.heap.size + 1) w.heap.size bits pg' wd N none 0 []) ∧ Below w.heap.size w w' := by
  have c0 := h.c0
  have T := Lib.hid (new_ok bits w h14 hb)
  replace h := Lib.hid h
  replace h14 := Lib.hid h14
  replace hb := Lib.hid hb
  go_enter Try.func25, Try.ntmps25
  go_wp2_with fail
  refine T.out.mono ?_
  rintro e w1 ⟨rfl, M1, B1⟩
  clear T c0
  have h1 := h.out.below B1
  have c1 := h1.c1
  obtain ⟨D, ho, hD, hF⟩ := h1.own
  have hsz := Lib.hid (own_size ho)
  have hml := ho.lt
  have hgl := blk_lt h1.blk
  have hgl2 := blk_lt M1.blk
  have hml0 : mp < w.heap.size := by obtain ⟨D0, ho0, _⟩ := h.out.own; exact ho0.lt
  replace M1 := Lib.hid M1
  replace B1 := Lib.hid B1
  replace h1 := Lib.hid h1
  replace hD := Lib.hid hD
  replace hF := Lib.hid hF
  go_wp2_with (first | (at_range; refine wpList_range_own _ rfl _ 64 rfl 30 80 law30 Try.underlying64 ptrElem mp N D rfl ho ?_; intro w2 hrg2 hg2 hs2) | go_in)
  go_frame
  have hstart : Hid (CopyR w.heap.size w w2 mp bits N wd w1.heap.size D) := Lib.hid ⟨_, _, _, _, hrg2, Nat.le_refl _, (M1.out.kept (fun k hk _ => hg2.block k hk (by simp))).mono (Nat.zero_le _), fun _ _ => rfl, fun s => by
    split
    · rfl
    · rename_i hl
      have hp : pg (s / 512) = none := by
        cases hp : pg (s / 512) with
        | none => rfl
        | some b =>
          exfalso
          have hd := hD.out (s / 512)
          rw [atKey_of_not_has (by simpa using hl), hp] at hd
          cases hd
      have := h.out.zero _ hp (s % 512) (by omega)
      rw [show s / 512 * 512 + s % 512 = s by omega] at this
      exact this.symm, B1.out.grown hg2 B1.out.size (fun k hk => by cases hk)⟩
  have hr1 : w.heap.size + 1 < w1.heap.size := hgl2
  clear hrg2 hg2 hs2 c1 ho
  generalize hr : w1.heap.size = r at *
  go_loopw [4] (fun _ wr => Hid (CopyR w.heap.size w wr mp bits N wd r D)) (fun _ wr => wr.rangeLeft mp r)
  case atStart => exact hstart
  case round =>
    obtain ⟨left, cnt, pg2, wd2, hrg, hcs, M2, hpg, hwd, B2⟩ := hrel.out.ex
    have hleft := hrg.left_eq
    clear hrel
    replace M2 := Lib.hid M2
    replace B2 := Lib.hid B2
    replace hpg := Lib.hid hpg
    replace hwd := Lib.hid hwd
    go_wp2_with (first
      | (at_next; refine wpList_next_ranges _ rfl _ rfl 30 law30 ptrElem (Value.int .u64) ptr (fun key kl hkey => (by obtain ⟨x, rfl, _⟩ := Maps.keyOf_int_inv Try.underlying30 hkey; exact ⟨x, rfl⟩)) ptr_shape mp r N _ _ _ rfl hrg ?_ ?_)
      | go_in)
    · intro hc0 hl0
      go_wp2_with fail
      go_ret
      subst hc0
      have hw : wd2 = wd := funext fun s => by rw [hwd.out, if_neg (by rw [hl0]; exact Bool.false_ne_true)]
      have M3 := M2.out.mono (Nat.le_trans (Nat.sub_le _ _) hsz.out)
      rw [hw] at M3
      exact ⟨rfl, ⟨_, M3⟩, B2.out⟩
    · intro x o kl yd yp w3 cnt3 hkey hlk hv hat hrg3 hlt hg3 hs3 hen
      obtain ⟨x', ex, ekl, hwf⟩ := Maps.keyOf_int_inv Try.underlying30 hkey
      cases ex
      obtain ⟨n, rfl, hn⟩ : ∃ n : Nat, x = (n : Int) ∧ n < 18446744073709551616 := by
        have h1 : IntKind.u64.min = 0 := by decide
        have h2 : IntKind.u64.max = 18446744073709551615 := by decide
        simp only [Lit.wf, Bool.and_eq_true, decide_eq_true_eq] at hwf
        exact ⟨x.toNat, by omega, by omega⟩
      have ekl : kl = key n := ekl
      subst ekl
      rw [ptr_reads] at hv
      have eyd : code o = yd := congrArg Prod.fst (Option.some.inj hv)
      subst eyd
      have ho : o = pg n := code_inj ((hat (code none)).symm.trans (hD.out n))
      obtain ⟨b, hb1⟩ : ∃ b, pg n = some b := by
        cases hp : pg n with
        | none =>
          have := has_true_of_atKey hat
          rw [hF.out n hp] at this
          cases this
        | some b => exact ⟨b, rfl⟩
      rw [hb1] at ho
      subst ho
      have hfresh := Lib.hid (hpg.out n hlk)
      replace hkey := Lib.hid hkey
      replace hb1 := Lib.hid hb1
      replace hlk := Lib.hid hlk
      replace M2 := Lib.hid (M2.out.iter hrg hg3)
      replace B2 := Lib.hid (B2.out.grown hg3 B2.out.size (fun k hk => by cases hk; omega))
      clear hv hat hg3 hs3 hrg hwf h1
      simp only [ptr] at hen ⊢
      obtain ⟨cs, hbk, hcz, hcs0⟩ := (h.out.below B2.out).page _ _ hb1.out
      have e := PG_of hcz hcs0
      subst e
      have hlen := hcz
      replace hbk := Lib.hid hbk
      have hQ1 := Lib.hid (PG_one wd n)
      have hQi := Lib.hid (fun i (hi : i < 512) => PG_at wd n i hi)
      generalize PG wd n = Q at *
      have hQs := Lib.hid hcz
      clear hcz hcs0 hlen
      obtain ⟨Z, hZ⟩ : ∃ Z : Array Value, Z = Array.replicate 512 (.int .u64 0) := ⟨_, rfl⟩
      have hZs : Hid (Z.size = 512) := Lib.hid (by rw [hZ]; simp)
      have h82 := zero82 w3
      rw [← hZ] at h82
      clear hZ
      have s82 := Lib.hid (fun cs (h : Array.size cs = 512) => (by rw [h]; exact size82 : (Try.prog.info? 82).map (·.size) = some (Array.size (α := Value) cs)))
      go_wp2_with (first
        | (refine ev_load rfl 82 (.tmp 25) rfl b Q rfl hbk.out _ Try.underlying82 rfl (s82.out _ hQs.out) ?_)
        | ((with_reducible refine gate_dst (N := 6) rfl ?_); refine box_event ?hg (N := 6) ?hd (cs := Z) (t := 82) ?hr ?_; (case hd => rfl); (case hg => rfl); (case hr => first | (go_simp; done) | (go_simp; rfl)); intro g4 hg4 w4 hb4 hB4; replace hg4 := Lib.hid hg4; have R4 := Lib.hid hb4; have L4 := Lib.hid hB4; clear hb4 hB4)
        | (refine ev_store rfl 82 (.tmp 6) (.tmp 26) rfl g4 Q rfl rfl 82 Z R4.out (s82.out _ hQs.out) (by rw [hZs.out, hQs.out]) hQ1.out ?_; intro w5 hb5 hg5; have R5 := Lib.hid hb5; have L5 := Lib.hid (L4.out.grown hg5 L4.out.size (fun k hk => by cases hk; exact Nat.le_of_eq hg4.out.symm)); clear hb5 hg5; have M5 := M2.out.below L5.out; have c5 := M5.c1; obtain ⟨D5, ho5, hD5, hF5⟩ := M5.own; have hN5 : size D - cnt < maxLen := (by have := hsz.out; unfold maxLen; omega); replace M5 := Lib.hid M5; replace hD5 := Lib.hid hD5; replace hF5 := Lib.hid hF5)
        | (at_mapUpdate; refine wpList_mapUpdate_own _ rfl _ _ _ 64 rfl 30 80 law30 Try.underlying64 ptrElem w.heap.size (size D - cnt) D5 rfl ho5 hN5 _ _ _ rfl rfl hkey.out (code (some g4)) [] (ptr_reads (some g4)) ?_; intro w6 hown6 hg6; go_frame)
        | go_in)
      have hr3 := hrg3.lt
      have hs3 := B2.out.size
      have hs5 := L5.out.size
      have hrg6 := ranges_of (w' := w6) hrg3 ((hg6.block mp (by omega) (fun e => by injection e with e; omega)).trans (L5.out.block mp (by omega))) ((hg6.block r (by omega) (fun e => by injection e with e; omega)).trans (L5.out.block r (by omega)))
      have hg4' := hg4.out
      have M6 := (M2.out.adopt hfresh.out L5.out (Nat.le_of_eq hg4'.symm) R5.out hQs.out wd h.out.fits hQi.out ho5.isMap hD5.out hF5.out hown6 hg6).mono (show size D - cnt + 1 ≤ size D - cnt3 by omega)
      refine ⟨Lib.hid ⟨_, _, _, _, hrg6, by omega, M6, fun k hk => ?_, fun s => ?_, ?_⟩, ?_⟩
      · rw [key_same, Bool.and_eq_true, Bool.not_eq_true', decide_eq_false_iff_not] at hk
        rw [pgs, if_neg hk.2]
        exact hpg.out k hk.1
      · rw [key_same]
        by_cases hs : s / 512 = n
        · rw [if_pos hs, decide_eq_true hs]
          simp
        · rw [if_neg hs, decide_eq_false hs, hwd.out]
          simp
      · exact ((B2.out.trans (L5.out.mono B2.out.size)).grown hg6 (Nat.le_trans B2.out.size L5.out.size) (fun k hk => by cases hk; exact Nat.le_refl _))
      · rw [hrg6.left_eq, hleft]
        exact hlt
end Go.Proofs.Ytpkffpcdmglleaa.Me
