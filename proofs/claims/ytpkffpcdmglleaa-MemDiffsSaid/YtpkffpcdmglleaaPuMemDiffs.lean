/- MemDiffs: of every two rows of deeds the law returns true. Condition: the deeds lie where they lie. -/
import Derived.Test.YtpkffpcdmglleaaR6
import Derived.Test.YtpkffpcdmglleaaMdn
import Derived.Test.YtpkffpcdmglleaaMh
import Derived.Deep.MidRow
set_option linter.unusedVariables false
set_option linter.unusedSimpArgs false
namespace Go.Proofs.Ytpkffpcdmglleaa.Pu
open Go.RowKit Go.Maps Go.Proofs.Ytpkffpcdmglleaa.Fn Go.Proofs.Ytpkffpcdmglleaa.Me Go.Proofs.Ytpkffpcdmglleaa.RM Go.Proofs.YtpkffpcdmglleaaW.PrintWords Go.Proofs.YtpkffpcdmglleaaW.PrintMore Go.Proofs.YtpkffpcdmglleaaW.PrintLast
set_option maxHeartbeats 8000000 in
set_option maxRecDepth 100000 in
theorem MemDiffs_ok (dl kl : List Od.Deed) (a a2 : Option Addr) (cap cap2 : Nat) (w : World) (hlen : dl.length < 9223372036854775808) (hlen2 : kl.length < 9223372036854775808) (hc : Od.Cells w a dl) (hc2 : Od.Cells w a2 kl) :
    Calls Try.prog 7 #[.slice a dl.length cap, .slice a2 kl.length cap2] w fun e w' => e = .returned (.bool true) ∧ Below w.heap.size w w' := by
  replace hc := Lib.hid hc
  replace hc2 := Lib.hid hc2
  go_enter Try.func7, Try.ntmps7
  go_wp2_with fail
  refine (awake_any w).mono ?_
  rintro e w1 ⟨rfl, B1⟩
  have s1 := B1.size
  replace B1 := Lib.hid B1
  go_wp2_with fail
  refine (run_any dl a cap w1 hlen (hc.out.below B1.out)).mono ?_
  rintro e w2 ⟨rfl, M2, B2⟩
  have s2 := B2.size
  replace B2 := Lib.hid (below_step B1.out B2)
  replace M2 := Lib.hid M2
  clear B1
  go_wp2_with fail
  refine (run_any kl a2 cap2 w2 hlen2 (hc2.out.below B2.out)).mono ?_
  rintro e w0 ⟨rfl, M3, B3⟩
  have s3 := B3.size
  obtain ⟨pg1, N1, E1, c1, H1, _, _⟩ := M2.out.below B3
  obtain ⟨pg2, N2, E2, c2, H2, _, _⟩ := M3
  have B0 := Lib.hid (below_step B2.out B3)
  clear B3 B2 M2
  have q1 : ∀ d ∈ dl.take 120, d.q < 18446744073709551616 ∧ d.x < 18446744073709551616 := fun d hd => by
    obtain ⟨i, hi⟩ := List.mem_iff_getElem?.1 (List.mem_of_mem_take hd)
    exact ⟨(hc.out i d hi).1, (hc.out i d hi).2.1⟩
  have q2 : ∀ d ∈ kl.take 120, d.q < 18446744073709551616 ∧ d.x < 18446744073709551616 := fun d hd => by
    obtain ⟨i, hi⟩ := List.mem_iff_getElem?.1 (List.mem_of_mem_take hd)
    exact ⟨(hc2.out i d hi).1, (hc2.out i d hi).2.1⟩
  have U1 := Lib.hid (sw_runs 16 (dl.take 120) q1)
  have U2 := Lib.hid (sw_runs 16 (kl.take 120) q2)
  clear q1 q2
  generalize (runs 16 (dl.take 120)).wd = u at *
  generalize (runs 16 (kl.take 120)).wd = v at *
  replace hc := Lib.hid (hc.out.below B0.out)
  replace hc2 := Lib.hid (hc2.out.below B0.out)
  generalize hg1 : w1.heap.size + 1 = g1 at *
  generalize hg2 : w2.heap.size + 1 = g2 at *
  clear hg1 hg2
  generalize w1.heap.size = b1 at *
  generalize w2.heap.size = b2 at *
  replace H1 := Lib.hid H1
  replace H2 := Lib.hid H2
  obtain ⟨X, hX⟩ : ∃ X, X = w0.heap.size := ⟨_, rfl⟩
  obtain ⟨Y, hY⟩ : ∃ Y, Y = X + 1 := ⟨_, rfl⟩
  obtain ⟨n, hn⟩ : ∃ n : Nat, n = 16 := ⟨_, rfl⟩
  have n22 : n ≤ 22 := by omega
  have XI := Lib.hid (blk_alloc (blk_new w0 (.cells #[.int .i64 16, .slice none 0 0, .slice none 0 0] 29)) (.cells #[.int .i64 16, .slice none 0 0, .slice none 0 0] 29))
  have YI := Lib.hid (blk_new (w0.alloc (.cells #[.int .i64 16, .slice none 0 0, .slice none 0 0] 29)) (.cells #[.int .i64 16, .slice none 0 0, .slice none 0 0] 29))
  have BI := Lib.hid (below_alloc (below_alloc (Below.refl w0.heap.size w0) (.cells #[.int .i64 16, .slice none 0 0, .slice none 0 0] 29)) (.cells #[.int .i64 16, .slice none 0 0, .slice none 0 0] 29))
  replace hn := Lib.hid hn
  replace hX := Lib.hid hX
  replace hY := Lib.hid hY
  go_upto_block 0 with fail
  obtain ⟨wI, eW⟩ : ∃ wI, wI = ((w0.alloc (.cells #[.int .i64 16, .slice none 0 0, .slice none 0 0] 29)).alloc (.cells #[.int .i64 16, .slice none 0 0, .slice none 0 0] 29)) := ⟨_, rfl⟩
  have XW : Hid (wI.heap[X]? = some (.cells #[.int .i64 (n : Int), .slice none 0 0, .slice none 0 0] 29 (0, 0))) := Lib.hid (by rw [eW, hX.out, hn.out]; exact XI.out)
  have YW : Hid (wI.heap[Y]? = some (.cells #[.int .i64 (n : Int), .slice none 0 0, .slice none 0 0] 29 (0, 0))) := Lib.hid (by rw [eW, hY.out, hX.out, hn.out, show w0.heap.size + 1 = (w0.alloc (.cells #[.int .i64 16, .slice none 0 0, .slice none 0 0] 29)).heap.size by simp]; exact YI.out)
  have BW : Hid (Below w0.heap.size w0 wI) := Lib.hid (by rw [eW]; exact BI.out)
  rw [← eW, show w0.heap.size = X from hX.out.symm, show X + 1 = Y from hY.out.symm]
  clear XI YI BI eW
  have lX : w0.heap.size ≤ X := Nat.le_of_eq hX.out.symm
  have lXY : X < Y := by rw [hY.out]; exact Nat.lt_succ_self _
  clear hX hY
  have HS := Lib.hid (Sr.start XW.out lX BW.out)
  clear XW BW
  go_cut [10] (fun s10 wx => ∃ (v1 v2 : Value) (P : Nat → Prop), Hid (Sr w0 wI wx n X 120 (wants n (dl.take 120)) v1 v2 P))
  case first =>
    go_wp2_with fail
    go_loopw [10] (fun y wr => ∃ (i : Nat) (v1 v2 : Value) (P : Nat → Prop), y = .int .i64 (i : Int) ∧ i ≤ dl.length ∧ i ≤ 120 ∧ Hid (Sr w0 wI wr n X i (wants n (dl.take i)) v1 v2 P)) (fun y _ => 120 - (intOf y).toNat)
    case atStart => exact ⟨0, _, _, _, rfl, by omega, by omega, HS⟩
    case round =>
      clear HS
      obtain ⟨i, v1, v2, P, rfl, hi1, hi2, HS⟩ := hrel
      have hc := hc
      by_cases hlt : i < dl.length
      · by_cases h120 : i < 120
        · have hlt2 : (i : Int) < (dl.length : Int) := by omega
          have h1202 : (i : Int) < 120 := by omega
          have hd := Lib.hid (List.getElem?_eq_getElem hlt)
          generalize dl[i] = d at *
          obtain ⟨q1, q2, q3, q4, x, ax, c0, c1, c2⟩ := (hc.out.below HS.out.b) i d hd.out
          subst ax
          clear c0 c1 c2
          have ws : wants n (dl.take (i + 1)) = (wantN n (wants n (dl.take i)) d.k d.q d.x).m := by rw [take_snoc hd.out, wants_snoc]
          generalize wants n (dl.take i) = r at *
          have TW := Lib.hid (fun (W' : World) (hb : Below w0.heap.size w0 W') (hr : RmAt W' w0.heap.size (fun k => P k ∧ k < wr.heap.size) v1 v2 r) => want_any w0 W' hb hr n22 HS.out.ok (by have := HS.out.sl; omega) (by have := HS.out.tr; omega) d.k d.q d.x q1 q2)
          have nx := Lib.hid (fun (W1 w8 w9 : World) (u1 u2 : Value) D hR hB hK hx hg => HS.out.next (W1 := W1) (w8 := w8) (w9 := w9) (u1 := u1) (u2 := u2) (k := d.k) (q := d.q) (x := d.x) D hR hB hK q1 q2 hx hg)
          generalize wantN n r d.k d.q d.x = o' at *
          obtain ⟨y, er, r'⟩ := o'
          dsimp only at nx ws
          have pX := Lib.hid (show ¬ P X from fun hp => by have := HS.out.pn _ hp; have := HS.out.ltX; omega)
          have X5 := Lib.hid HS.out.blk
          have B5 := Lib.hid HS.out.b
          have R5 := Lib.hid HS.out.rm.bound
          replace ws := Lib.hid ws
          clear HS
          go_upto_region 11 with fail
          refine start_ (n := 14) (S := (fun W' => W'.heap[X]? = some (.cells #[.int .i64 (n : Int), v1, v2] 29 (0, 0)) ∧ Below w0.heap.size w0 W')) (ds := []) #[false, false, false, false, false, false, false, false, false, false, false, false, false, false] (by kernel_rfl) rfl rfl ⟨blk_below X5.out (below_drew1 (Below.refl _ _)), below_step B5.out (below_drew1 (Below.refl _ _))⟩ (fun hHeld => ?_)
          have DB := Lib.hid (below_drew1 (Below.refl wr.heap.size wr))
          have R6 := Lib.hid (R5.out.below (below_drew1 (Below.refl _ _)))
          have l6 : wr.heap.size ≤ wr.drew.heap.size := DB.out.size
          have l0 : w0.heap.size ≤ wr.drew.heap.size := hHeld.2.size
          have lX : X < wr.drew.heap.size := blk_lt hHeld.1
          clear R5 X5 B5
          generalize World.drew wr = W1 at *
          refine take_ (i := 0) (N := some 48) (v := .agg #[.int .i64 (n : Int), v1, v2]) (a' := ?_) #[true, false, false, false, false, false, false, false, false, false, false, false, false, false] rfl rfl (by kernel_rfl) (fun _ _ _ h => h) (yieldsIf_load_mid (by rfl) 29 (.tmp 8) rfl X 0 rfl [.int .i64 (n : Int), v1, v2] _ (fun W' hW' => (fun j v hj => by rw [Nat.zero_add, blk_cell hW'.1 j]; simpa using hj)) Try.underlying29 rfl size29) hHeld ?_ ?_
          rotate_left
          · simp only [Act.put, List.setIfInBounds_toArray, List.set_cons_zero, List.set_cons_succ, i64_w, i32_w]
            rfl
          refine pure_ (i := 1) (N := some 49) (v := ?_) (a' := ?_) #[true, true, false, false, false, false, false, false, false, false, false, false, false, false] rfl rfl (by kernel_rfl) (fun _ _ _ h => h) (Or.inl ⟨by rfl, ?_⟩) ?_ ?_
          rotate_left
          · intro w'
            first | (go_simp; done) | (go_simp; with_reducible rfl) | (go_simp; rfl)
          rotate_left
          · simp only [Act.put, List.setIfInBounds_toArray, List.set_cons_zero, List.set_cons_succ, i64_w, i32_w]
            rfl
          refine pure_ (i := 2) (N := some 50) (v := ?_) (a' := ?_) #[true, true, true, false, false, false, false, false, false, false, false, false, false, false] rfl rfl (by kernel_rfl) (fun _ _ _ h => h) (Or.inl ⟨by rfl, ?_⟩) ?_ ?_
          rotate_left
          · intro w'
            first | (go_simp; done) | (go_simp; with_reducible rfl) | (go_simp; rfl)
          rotate_left
          · simp only [Act.put, List.setIfInBounds_toArray, List.set_cons_zero, List.set_cons_succ, i64_w, i32_w]
            rfl
          refine pure_ (i := 3) (N := some 51) (v := ?_) (a' := ?_) #[true, true, true, true, false, false, false, false, false, false, false, false, false, false] rfl rfl (by kernel_rfl) (fun _ _ _ h => h) (Or.inl ⟨by rfl, ?_⟩) ?_ ?_
          rotate_left
          · intro w'
            first | (go_simp; done) | (go_simp; with_reducible rfl) | (go_simp; rfl)
          rotate_left
          · simp only [Act.put, List.setIfInBounds_toArray, List.set_cons_zero, List.set_cons_succ, i64_w, i32_w]
            rfl
          refine take_ (i := 4) (N := some 52) (v := ?_) (a' := ?_) #[true, true, true, true, true, false, false, false, false, false, false, false, false, false] rfl rfl (by kernel_rfl) (fun _ _ _ h => h) (Or.inl ⟨by rfl, ?_⟩) hHeld ?_ ?_
          rotate_left
          · intro w' hSw
            (try dsimp only at hSw)
            obtain ⟨_, _, _, _, x2, ex, f0, f1, f2⟩ := (hc.out.below hSw.2) i d hd.out
            injection ex with ex
            subst ex
            first | (go_simp; done) | (go_simp; with_reducible rfl) | (go_simp; rfl)
          rotate_left
          · simp only [Act.put, List.setIfInBounds_toArray, List.set_cons_zero, List.set_cons_succ, i64_w, i32_w]
            rfl
          refine join_ (σ := Value × Value × Nat) 3 #[true, true, true, true, true, true, true, true, true, true, true, false, false, false] (fun s => [(53, .tuple #[.agg #[.int .i64 (n : Int), s.1, s.2.1], .int .u64 (y : Int), .int .i64 er]), (47, .tuple #[.agg #[.int .i64 (n : Int), s.1, s.2.1], .int .u64 (y : Int), .int .i64 er]), (54, .agg #[.int .i64 (n : Int), s.1, s.2.1]), (55, .int .u64 (y : Int)), (56, .int .i64 er), (11, .pointer (some ⟨s.2.2, 0, none⟩))]) (fun s w' => Behind w0 W1 w' (fun k => P k ∧ k < wr.heap.size) X n s.2.2 v1 v2 s.1 s.2.1 r') ?_ ?_
          rotate_left
          · intro hCont
            refine two_ (i := 5) (j := 10) (Ni := some 53) (Nj := some 11) #[true, true, true, true, true, true, false, false, false, false, false, false, false, false] #[true, true, true, true, true, false, false, false, false, false, true, false, false, false] rfl rfl rfl rfl (by kernel_rfl) (by decide) (by decide) (fun K hK => ?_) (fun K hK => ?_)
            · skip
              refine goes_ Try.func12 (by kernel_rfl) rfl #[.agg #[.int .i64 (n : Int), v1, v2], .agg #[.int .i64 d.k, .int .u64 (d.q : Int), .int .u64 (d.x : Int)]] (by rfl) rfl rfl (by (try simp only [List.map_toArray, List.map_cons, List.map_nil]); first | done | rfl) ?_
              with_reducible refine (TW.out W1 hHeld.2 R6.out).mono ?_
              rintro e w6 ⟨u1, u2, rfl, R7, B7, K7⟩
              refine ⟨_, rfl, ?_⟩
              have X7 : w6.heap[X]? = _ := (K7.2 X (blk_lt hHeld.1) (fun hp => pX.out hp.1)).trans hHeld.1
              refine hK.out _ _ ⟨X7, B7⟩ (fun hHeld7 => ?_)
              clear hK K
              refine norm_ (a' := ?_) ?_ ?_
              rotate_left
              · show Act.put _ (some 53) _ = _
                simp only [Act.put, List.setIfInBounds_toArray, List.set_cons_zero, List.set_cons_succ, i64_w, i32_w]
                rfl
              refine pure_ (i := 6) (N := some 47) (v := ?_) (a' := ?_) #[true, true, true, true, true, true, true, false, false, false, false, false, false, false] rfl rfl (by kernel_rfl) (fun _ _ _ h => h) (Or.inl ⟨by rfl, ?_⟩) ?_ ?_
              rotate_left
              · intro w'
                first | (go_simp; done) | (go_simp; with_reducible rfl) | (go_simp; rfl)
              rotate_left
              · simp only [Act.put, List.setIfInBounds_toArray, List.set_cons_zero, List.set_cons_succ, i64_w, i32_w]
                rfl
              refine pure_ (i := 7) (N := some 54) (v := ?_) (a' := ?_) #[true, true, true, true, true, true, true, true, false, false, false, false, false, false] rfl rfl (by kernel_rfl) (fun _ _ _ h => h) (Or.inl ⟨by rfl, ?_⟩) ?_ ?_
              rotate_left
              · intro w'
                first | (go_simp; done) | (go_simp; with_reducible rfl) | (go_simp; rfl)
              rotate_left
              · simp only [Act.put, List.setIfInBounds_toArray, List.set_cons_zero, List.set_cons_succ, i64_w, i32_w]
                rfl
              refine pure_ (i := 8) (N := some 55) (v := ?_) (a' := ?_) #[true, true, true, true, true, true, true, true, true, false, false, false, false, false] rfl rfl (by kernel_rfl) (fun _ _ _ h => h) (Or.inl ⟨by rfl, ?_⟩) ?_ ?_
              rotate_left
              · intro w'
                first | (go_simp; done) | (go_simp; with_reducible rfl) | (go_simp; rfl)
              rotate_left
              · simp only [Act.put, List.setIfInBounds_toArray, List.set_cons_zero, List.set_cons_succ, i64_w, i32_w]
                rfl
              refine pure_ (i := 9) (N := some 56) (v := ?_) (a' := ?_) #[true, true, true, true, true, true, true, true, true, true, false, false, false, false] rfl rfl (by kernel_rfl) (fun _ _ _ h => h) (Or.inl ⟨by rfl, ?_⟩) ?_ ?_
              rotate_left
              · intro w'
                first | (go_simp; done) | (go_simp; with_reducible rfl) | (go_simp; rfl)
              rotate_left
              · simp only [Act.put, List.setIfInBounds_toArray, List.set_cons_zero, List.set_cons_succ, i64_w, i32_w]
                rfl
              refine one_ (i := 10) (N := some 11) #[true, true, true, true, true, true, true, true, true, true, true, false, false, false] rfl rfl (by kernel_rfl) (by decide) (fun K hK => ?_)
              refine box_step ?hg (N := 11) ?hd (cs := #[.int .i64 0, .slice none 0 0, .slice none 0 0]) (t := 29) ?hr ?_
              (case hd => rfl)
              (case hg => rfl)
              (case hr => first | (go_simp; done) | (go_simp; rfl))
              intro Z eY w7 hY7 hb7
              refine hK.out _ _ ⟨blk_below X7 hb7, below_step B7 hb7⟩ (fun hHeld => ?_)
              clear hK K
              refine norm_ (a' := ?_) ?_ ?_
              rotate_left
              · show Act.put _ (some 11) _ = _
                simp only [Act.put, List.setIfInBounds_toArray, List.set_cons_zero, List.set_cons_succ, i64_w, i32_w]
                rfl
              exact norm_ (by simp only [putAll, Act.put, List.setIfInBounds_toArray, List.set_cons_zero, List.set_cons_succ]) (hCont (u1, u2, Z) _ (Behind.a R7 B7 K7 X7 eY hY7 hb7))
            · skip
              refine box_step ?hg (N := 11) ?hd (cs := #[.int .i64 0, .slice none 0 0, .slice none 0 0]) (t := 29) ?hr ?_
              (case hd => rfl)
              (case hg => rfl)
              (case hr => first | (go_simp; done) | (go_simp; rfl))
              intro Z eY w7 hY7 hb7
              have X7 := blk_below hHeld.1 hb7
              have B7 := below_step hHeld.2 hb7
              have R7 := R6.out.below hb7
              refine hK.out _ _ ⟨X7, B7⟩ (fun hHeld7 => ?_)
              clear hK K
              refine norm_ (a' := ?_) ?_ ?_
              rotate_left
              · show Act.put _ (some 11) _ = _
                simp only [Act.put, List.setIfInBounds_toArray, List.set_cons_zero, List.set_cons_succ, i64_w, i32_w]
                rfl
              refine one_ (i := 5) (N := some 53) #[true, true, true, true, true, true, false, false, false, false, true, false, false, false] rfl rfl (by kernel_rfl) (by decide) (fun K hK => ?_)
              refine goes_ Try.func12 (by kernel_rfl) rfl #[.agg #[.int .i64 (n : Int), v1, v2], .agg #[.int .i64 d.k, .int .u64 (d.q : Int), .int .u64 (d.x : Int)]] (by rfl) rfl rfl (by (try simp only [List.map_toArray, List.map_cons, List.map_nil]); first | done | rfl) ?_
              with_reducible refine (TW.out w7 B7 R7).mono ?_
              rintro e w8 ⟨u1, u2, rfl, R8, B8, K8⟩
              refine ⟨_, rfl, ?_⟩
              have X8 : w8.heap[X]? = _ := (K8.2 X (blk_lt X7) (fun hp => pX.out hp.1)).trans X7
              refine hK.out _ _ ⟨X8, B8⟩ (fun hHeld => ?_)
              clear hK K
              refine norm_ (a' := ?_) ?_ ?_
              rotate_left
              · show Act.put _ (some 53) _ = _
                simp only [Act.put, List.setIfInBounds_toArray, List.set_cons_zero, List.set_cons_succ, i64_w, i32_w]
                rfl
              refine pure_ (i := 6) (N := some 47) (v := ?_) (a' := ?_) #[true, true, true, true, true, true, true, false, false, false, true, false, false, false] rfl rfl (by kernel_rfl) (fun _ _ _ h => h) (Or.inl ⟨by rfl, ?_⟩) ?_ ?_
              rotate_left
              · intro w'
                first | (go_simp; done) | (go_simp; with_reducible rfl) | (go_simp; rfl)
              rotate_left
              · simp only [Act.put, List.setIfInBounds_toArray, List.set_cons_zero, List.set_cons_succ, i64_w, i32_w]
                rfl
              refine pure_ (i := 7) (N := some 54) (v := ?_) (a' := ?_) #[true, true, true, true, true, true, true, true, false, false, true, false, false, false] rfl rfl (by kernel_rfl) (fun _ _ _ h => h) (Or.inl ⟨by rfl, ?_⟩) ?_ ?_
              rotate_left
              · intro w'
                first | (go_simp; done) | (go_simp; with_reducible rfl) | (go_simp; rfl)
              rotate_left
              · simp only [Act.put, List.setIfInBounds_toArray, List.set_cons_zero, List.set_cons_succ, i64_w, i32_w]
                rfl
              refine pure_ (i := 8) (N := some 55) (v := ?_) (a' := ?_) #[true, true, true, true, true, true, true, true, true, false, true, false, false, false] rfl rfl (by kernel_rfl) (fun _ _ _ h => h) (Or.inl ⟨by rfl, ?_⟩) ?_ ?_
              rotate_left
              · intro w'
                first | (go_simp; done) | (go_simp; with_reducible rfl) | (go_simp; rfl)
              rotate_left
              · simp only [Act.put, List.setIfInBounds_toArray, List.set_cons_zero, List.set_cons_succ, i64_w, i32_w]
                rfl
              refine pure_ (i := 9) (N := some 56) (v := ?_) (a' := ?_) #[true, true, true, true, true, true, true, true, true, true, true, false, false, false] rfl rfl (by kernel_rfl) (fun _ _ _ h => h) (Or.inl ⟨by rfl, ?_⟩) ?_ ?_
              rotate_left
              · intro w'
                first | (go_simp; done) | (go_simp; with_reducible rfl) | (go_simp; rfl)
              rotate_left
              · simp only [Act.put, List.setIfInBounds_toArray, List.set_cons_zero, List.set_cons_succ, i64_w, i32_w]
                rfl
              exact norm_ (by simp only [putAll, Act.put, List.setIfInBounds_toArray, List.set_cons_zero, List.set_cons_succ]) (hCont (u1, u2, Z) _ (Behind.of eY (fun k hk => Nat.lt_of_lt_of_le hk.2 l6) hb7 hY7 R8 B8 K8 X8))
          rintro ⟨u1, u2, Z⟩ w7 F7
          dsimp only at F7 ⊢
          obtain ⟨A1, c1, rfl⟩ := Kd.R_slice F7.rm.1
          obtain ⟨A2, c2, rfl⟩ := Kd.R_slice F7.rm.2
          generalize (enc r'.sl).length = l1 at *
          refine norm_ (a' := ?_) ?_ ?_
          rotate_left
          · simp only [putAll, Act.put, List.setIfInBounds_toArray, List.set_cons_zero, List.set_cons_succ]
            rfl
          have XY : X ≠ Z := (by have := F7.ly; omega)
          replace F7 := Lib.hid F7
          refine one_ (i := 11) (N := none) #[true, true, true, true, true, true, true, true, true, true, true, true, false, false] rfl rfl (by kernel_rfl) (by decide) (fun K hK => ?_)
          refine skip_ (w1 := w7.setCells Z 0 [.int .i64 (n : Int), .slice A1 l1 c1, .slice A2 r'.tr.length c2]) (by rfl) rfl ?_ ?_
          · exact run_store_op 29 (.tmp 11) (.tmp 54) rfl Z 0 (.agg #[.int .i64 (n : Int), .slice A1 l1 c1, .slice A2 r'.tr.length c2]) [.int .i64 (n : Int), .slice A1 l1 c1, .slice A2 r'.tr.length c2] rfl rfl rfl 29 _ F7.out.y size29 (by simp) (by simp [Value.oneCell'])
          have G8 := grown_cells w7 Z 0 [.int .i64 (n : Int), .slice A1 l1 c1, .slice A2 r'.tr.length c2]
          have Y8 : (w7.setCells Z 0 [.int .i64 (n : Int), .slice A1 l1 c1, .slice A2 r'.tr.length c2]).heap[Z]? = some (.cells #[.int .i64 (n : Int), .slice A1 l1 c1, .slice A2 r'.tr.length c2] 29 (0, 0)) := blk_put (blk_put (blk_put F7.out.y 0 _ rfl) 1 _ rfl) 2 _ rfl
          generalize w7.setCells Z 0 [.int .i64 (n : Int), .slice A1 l1 c1, .slice A2 r'.tr.length c2] = w8 at G8 Y8 ⊢
          obtain ⟨R8, B8, K8, X8⟩ := F7.out.put XY l0 G8
          clear F7 G8
          refine hK.out _ _ ⟨X8, B8⟩ (fun hHeld8 => ?_)
          clear hK K
          refine pure_ (i := 12) (N := some 12) (v := ?_) (a' := ?_) #[true, true, true, true, true, true, true, true, true, true, true, true, true, false] rfl rfl (by kernel_rfl) (fun _ _ _ h => h) (Or.inl ⟨by rfl, ?_⟩) ?_ ?_
          rotate_left
          · intro w'
            first | (go_simp; done) | (go_simp; with_reducible rfl) | (go_simp; rfl)
          rotate_left
          · simp only [Act.put, List.setIfInBounds_toArray, List.set_cons_zero, List.set_cons_succ, i64_w, i32_w]
            rfl
          refine pure_ (i := 13) (N := some 13) (v := ?_) (a' := ?_) #[true, true, true, true, true, true, true, true, true, true, true, true, true, true] rfl rfl (by kernel_rfl) (fun _ _ _ h => h) (Or.inl ⟨by rfl, ?_⟩) ?_ ?_
          rotate_left
          · intro w'
            first | (go_simp; done) | (go_simp; with_reducible rfl) | (go_simp; rfl)
          rotate_left
          · simp only [Act.put, List.setIfInBounds_toArray, List.set_cons_zero, List.set_cons_succ, i64_w, i32_w]
            rfl
          refine done_ (by kernel_rfl) ?_
          have nx9 := Lib.hid (fun (w9 : World) hx hg => nx.out W1 w8 w9 _ _ DB.out R8 B8 K8 hx hg)
          clear nx DB R8 B8 K8 R6 TW pX hHeld hd
          replace Y8 := Lib.hid Y8
          replace X8 := Lib.hid X8
          go_wp2_with (first | (refine ev_load rfl 29 (.tmp 11) rfl Z #[.int .i64 (n : Int), .slice A1 l1 c1, .slice A2 r'.tr.length c2] rfl Y8.out _ Try.underlying29 rfl size29 ?_) | (refine ev_store rfl 29 (.tmp 8) (.tmp 57) rfl X #[.int .i64 (n : Int), .slice A1 l1 c1, .slice A2 r'.tr.length c2] rfl rfl 29 _ X8.out size29 rfl (one29 ..) ?_; intro w9 hb9 hg9; have HS := Lib.hid (nx9.out w9 hb9 hg9); clear hb9 hg9))
          go_roundw
          case rel => exact ⟨i + 1, _, _, _, by go_num, by omega, by omega, Lib.hid (by rw [ws.out]; exact HS.out)⟩
          case measure => simp [intOf]; omega
        · have h1202 : ¬ (i : Int) < 120 := by omega
          have hlt2 : (i : Int) < (dl.length : Int) := by omega
          go_wp2_with fail
          go_meet
          exact ⟨v1, v2, P, Lib.hid (by rw [show (120 : Nat) = i by omega]; exact HS.out)⟩
      · have hlt2 : ¬ (i : Int) < (dl.length : Int) := by omega
        go_wp2_with fail
        go_meet
        exact ⟨v1, v2, P, Lib.hid (by rw [show dl.take 120 = dl.take i by rw [List.take_of_length_le (by omega), List.take_of_length_le (by omega)]]; exact HS.out.mono hi2)⟩
  case rest =>
    clear HS
    obtain ⟨vx1, vx2, PX, HX⟩ := hcut
    have YJ := Lib.hid ((HX.out.kp.2 Y (blk_lt YW.out) (by omega)).trans YW.out)
    have lYI := blk_lt YW.out
    clear YW
    generalize wc = wJ at *
    go_upto_block 2 with fail
    have HS := Lib.hid (Sr.start YJ.out (by omega) HX.out.b)
    go_cut [14] (fun s14 wx => ∃ (v1 v2 : Value) (P : Nat → Prop), Hid (Sr w0 wJ wx n Y 120 (wants n (kl.take 120)) v1 v2 P))
    case first =>
      go_wp2_with fail
      go_loopw [14] (fun y wr => ∃ (i : Nat) (v1 v2 : Value) (P : Nat → Prop), y = .int .i64 (i : Int) ∧ i ≤ kl.length ∧ i ≤ 120 ∧ Hid (Sr w0 wJ wr n Y i (wants n (kl.take i)) v1 v2 P)) (fun y _ => 120 - (intOf y).toNat)
      case atStart => exact ⟨0, _, _, _, rfl, by omega, by omega, HS⟩
      case round =>
        clear HS
        obtain ⟨i, v1, v2, P, rfl, hi1, hi2, HS⟩ := hrel
        have hc := hc2
        by_cases hlt : i < kl.length
        · by_cases h120 : i < 120
          · have hlt2 : (i : Int) < (kl.length : Int) := by omega
            have h1202 : (i : Int) < 120 := by omega
            have hd := Lib.hid (List.getElem?_eq_getElem hlt)
            generalize kl[i] = d at *
            obtain ⟨q1, q2, q3, q4, x, ax, c0, c1, c2⟩ := (hc.out.below HS.out.b) i d hd.out
            subst ax
            clear c0 c1 c2
            have ws : wants n (kl.take (i + 1)) = (wantN n (wants n (kl.take i)) d.k d.q d.x).m := by rw [take_snoc hd.out, wants_snoc]
            generalize wants n (kl.take i) = r at *
            have TW := Lib.hid (fun (W' : World) (hb : Below w0.heap.size w0 W') (hr : RmAt W' w0.heap.size (fun k => P k ∧ k < wr.heap.size) v1 v2 r) => want_any w0 W' hb hr n22 HS.out.ok (by have := HS.out.sl; omega) (by have := HS.out.tr; omega) d.k d.q d.x q1 q2)
            have nx := Lib.hid (fun (W1 w8 w9 : World) (u1 u2 : Value) D hR hB hK hx hg => HS.out.next (W1 := W1) (w8 := w8) (w9 := w9) (u1 := u1) (u2 := u2) (k := d.k) (q := d.q) (x := d.x) D hR hB hK q1 q2 hx hg)
            generalize wantN n r d.k d.q d.x = o' at *
            obtain ⟨y, er, r'⟩ := o'
            dsimp only at nx ws
            have pX := Lib.hid (show ¬ P Y from fun hp => by have := HS.out.pn _ hp; have := HS.out.ltX; omega)
            have X5 := Lib.hid HS.out.blk
            have B5 := Lib.hid HS.out.b
            have R5 := Lib.hid HS.out.rm.bound
            replace ws := Lib.hid ws
            clear HS
            go_upto_region 16 with fail
            refine start_ (n := 14) (S := (fun W' => W'.heap[Y]? = some (.cells #[.int .i64 (n : Int), v1, v2] 29 (0, 0)) ∧ Below w0.heap.size w0 W')) (ds := []) #[false, false, false, false, false, false, false, false, false, false, false, false, false, false] (by kernel_rfl) rfl rfl ⟨blk_below X5.out (below_drew1 (Below.refl _ _)), below_step B5.out (below_drew1 (Below.refl _ _))⟩ (fun hHeld => ?_)
            have DB := Lib.hid (below_drew1 (Below.refl wr.heap.size wr))
            have R6 := Lib.hid (R5.out.below (below_drew1 (Below.refl _ _)))
            have l6 : wr.heap.size ≤ wr.drew.heap.size := DB.out.size
            have l0 : w0.heap.size ≤ wr.drew.heap.size := hHeld.2.size
            have lX : Y < wr.drew.heap.size := blk_lt hHeld.1
            clear R5 X5 B5
            generalize World.drew wr = W1 at *
            refine take_ (i := 0) (N := some 69) (v := .agg #[.int .i64 (n : Int), v1, v2]) (a' := ?_) #[true, false, false, false, false, false, false, false, false, false, false, false, false, false] rfl rfl (by kernel_rfl) (fun _ _ _ h => h) (yieldsIf_load_mid (by rfl) 29 (.tmp 9) rfl Y 0 rfl [.int .i64 (n : Int), v1, v2] _ (fun W' hW' => (fun j v hj => by rw [Nat.zero_add, blk_cell hW'.1 j]; simpa using hj)) Try.underlying29 rfl size29) hHeld ?_ ?_
            rotate_left
            · simp only [Act.put, List.setIfInBounds_toArray, List.set_cons_zero, List.set_cons_succ, i64_w, i32_w]
              rfl
            refine pure_ (i := 1) (N := some 70) (v := ?_) (a' := ?_) #[true, true, false, false, false, false, false, false, false, false, false, false, false, false] rfl rfl (by kernel_rfl) (fun _ _ _ h => h) (Or.inl ⟨by rfl, ?_⟩) ?_ ?_
            rotate_left
            · intro w'
              first | (go_simp; done) | (go_simp; with_reducible rfl) | (go_simp; rfl)
            rotate_left
            · simp only [Act.put, List.setIfInBounds_toArray, List.set_cons_zero, List.set_cons_succ, i64_w, i32_w]
              rfl
            refine pure_ (i := 2) (N := some 71) (v := ?_) (a' := ?_) #[true, true, true, false, false, false, false, false, false, false, false, false, false, false] rfl rfl (by kernel_rfl) (fun _ _ _ h => h) (Or.inl ⟨by rfl, ?_⟩) ?_ ?_
            rotate_left
            · intro w'
              first | (go_simp; done) | (go_simp; with_reducible rfl) | (go_simp; rfl)
            rotate_left
            · simp only [Act.put, List.setIfInBounds_toArray, List.set_cons_zero, List.set_cons_succ, i64_w, i32_w]
              rfl
            refine pure_ (i := 3) (N := some 72) (v := ?_) (a' := ?_) #[true, true, true, true, false, false, false, false, false, false, false, false, false, false] rfl rfl (by kernel_rfl) (fun _ _ _ h => h) (Or.inl ⟨by rfl, ?_⟩) ?_ ?_
            rotate_left
            · intro w'
              first | (go_simp; done) | (go_simp; with_reducible rfl) | (go_simp; rfl)
            rotate_left
            · simp only [Act.put, List.setIfInBounds_toArray, List.set_cons_zero, List.set_cons_succ, i64_w, i32_w]
              rfl
            refine take_ (i := 4) (N := some 73) (v := ?_) (a' := ?_) #[true, true, true, true, true, false, false, false, false, false, false, false, false, false] rfl rfl (by kernel_rfl) (fun _ _ _ h => h) (Or.inl ⟨by rfl, ?_⟩) hHeld ?_ ?_
            rotate_left
            · intro w' hSw
              (try dsimp only at hSw)
              obtain ⟨_, _, _, _, x2, ex, f0, f1, f2⟩ := (hc.out.below hSw.2) i d hd.out
              injection ex with ex
              subst ex
              first | (go_simp; done) | (go_simp; with_reducible rfl) | (go_simp; rfl)
            rotate_left
            · simp only [Act.put, List.setIfInBounds_toArray, List.set_cons_zero, List.set_cons_succ, i64_w, i32_w]
              rfl
            refine join_ (σ := Value × Value × Nat) 3 #[true, true, true, true, true, true, true, true, true, true, true, false, false, false] (fun s => [(74, .tuple #[.agg #[.int .i64 (n : Int), s.1, s.2.1], .int .u64 (y : Int), .int .i64 er]), (68, .tuple #[.agg #[.int .i64 (n : Int), s.1, s.2.1], .int .u64 (y : Int), .int .i64 er]), (75, .agg #[.int .i64 (n : Int), s.1, s.2.1]), (76, .int .u64 (y : Int)), (77, .int .i64 er), (15, .pointer (some ⟨s.2.2, 0, none⟩))]) (fun s w' => Behind w0 W1 w' (fun k => P k ∧ k < wr.heap.size) Y n s.2.2 v1 v2 s.1 s.2.1 r') ?_ ?_
            rotate_left
            · intro hCont
              refine two_ (i := 5) (j := 10) (Ni := some 74) (Nj := some 15) #[true, true, true, true, true, true, false, false, false, false, false, false, false, false] #[true, true, true, true, true, false, false, false, false, false, true, false, false, false] rfl rfl rfl rfl (by kernel_rfl) (by decide) (by decide) (fun K hK => ?_) (fun K hK => ?_)
              · skip
                refine goes_ Try.func12 (by kernel_rfl) rfl #[.agg #[.int .i64 (n : Int), v1, v2], .agg #[.int .i64 d.k, .int .u64 (d.q : Int), .int .u64 (d.x : Int)]] (by rfl) rfl rfl (by (try simp only [List.map_toArray, List.map_cons, List.map_nil]); first | done | rfl) ?_
                with_reducible refine (TW.out W1 hHeld.2 R6.out).mono ?_
                rintro e w6 ⟨u1, u2, rfl, R7, B7, K7⟩
                refine ⟨_, rfl, ?_⟩
                have X7 : w6.heap[Y]? = _ := (K7.2 Y (blk_lt hHeld.1) (fun hp => pX.out hp.1)).trans hHeld.1
                refine hK.out _ _ ⟨X7, B7⟩ (fun hHeld7 => ?_)
                clear hK K
                refine norm_ (a' := ?_) ?_ ?_
                rotate_left
                · show Act.put _ (some 74) _ = _
                  simp only [Act.put, List.setIfInBounds_toArray, List.set_cons_zero, List.set_cons_succ, i64_w, i32_w]
                  rfl
                refine pure_ (i := 6) (N := some 68) (v := ?_) (a' := ?_) #[true, true, true, true, true, true, true, false, false, false, false, false, false, false] rfl rfl (by kernel_rfl) (fun _ _ _ h => h) (Or.inl ⟨by rfl, ?_⟩) ?_ ?_
                rotate_left
                · intro w'
                  first | (go_simp; done) | (go_simp; with_reducible rfl) | (go_simp; rfl)
                rotate_left
                · simp only [Act.put, List.setIfInBounds_toArray, List.set_cons_zero, List.set_cons_succ, i64_w, i32_w]
                  rfl
                refine pure_ (i := 7) (N := some 75) (v := ?_) (a' := ?_) #[true, true, true, true, true, true, true, true, false, false, false, false, false, false] rfl rfl (by kernel_rfl) (fun _ _ _ h => h) (Or.inl ⟨by rfl, ?_⟩) ?_ ?_
                rotate_left
                · intro w'
                  first | (go_simp; done) | (go_simp; with_reducible rfl) | (go_simp; rfl)
                rotate_left
                · simp only [Act.put, List.setIfInBounds_toArray, List.set_cons_zero, List.set_cons_succ, i64_w, i32_w]
                  rfl
                refine pure_ (i := 8) (N := some 76) (v := ?_) (a' := ?_) #[true, true, true, true, true, true, true, true, true, false, false, false, false, false] rfl rfl (by kernel_rfl) (fun _ _ _ h => h) (Or.inl ⟨by rfl, ?_⟩) ?_ ?_
                rotate_left
                · intro w'
                  first | (go_simp; done) | (go_simp; with_reducible rfl) | (go_simp; rfl)
                rotate_left
                · simp only [Act.put, List.setIfInBounds_toArray, List.set_cons_zero, List.set_cons_succ, i64_w, i32_w]
                  rfl
                refine pure_ (i := 9) (N := some 77) (v := ?_) (a' := ?_) #[true, true, true, true, true, true, true, true, true, true, false, false, false, false] rfl rfl (by kernel_rfl) (fun _ _ _ h => h) (Or.inl ⟨by rfl, ?_⟩) ?_ ?_
                rotate_left
                · intro w'
                  first | (go_simp; done) | (go_simp; with_reducible rfl) | (go_simp; rfl)
                rotate_left
                · simp only [Act.put, List.setIfInBounds_toArray, List.set_cons_zero, List.set_cons_succ, i64_w, i32_w]
                  rfl
                refine one_ (i := 10) (N := some 15) #[true, true, true, true, true, true, true, true, true, true, true, false, false, false] rfl rfl (by kernel_rfl) (by decide) (fun K hK => ?_)
                refine box_step ?hg (N := 15) ?hd (cs := #[.int .i64 0, .slice none 0 0, .slice none 0 0]) (t := 29) ?hr ?_
                (case hd => rfl)
                (case hg => rfl)
                (case hr => first | (go_simp; done) | (go_simp; rfl))
                intro Z eY w7 hY7 hb7
                refine hK.out _ _ ⟨blk_below X7 hb7, below_step B7 hb7⟩ (fun hHeld => ?_)
                clear hK K
                refine norm_ (a' := ?_) ?_ ?_
                rotate_left
                · show Act.put _ (some 15) _ = _
                  simp only [Act.put, List.setIfInBounds_toArray, List.set_cons_zero, List.set_cons_succ, i64_w, i32_w]
                  rfl
                exact norm_ (by simp only [putAll, Act.put, List.setIfInBounds_toArray, List.set_cons_zero, List.set_cons_succ]) (hCont (u1, u2, Z) _ (Behind.a R7 B7 K7 X7 eY hY7 hb7))
              · skip
                refine box_step ?hg (N := 15) ?hd (cs := #[.int .i64 0, .slice none 0 0, .slice none 0 0]) (t := 29) ?hr ?_
                (case hd => rfl)
                (case hg => rfl)
                (case hr => first | (go_simp; done) | (go_simp; rfl))
                intro Z eY w7 hY7 hb7
                have X7 := blk_below hHeld.1 hb7
                have B7 := below_step hHeld.2 hb7
                have R7 := R6.out.below hb7
                refine hK.out _ _ ⟨X7, B7⟩ (fun hHeld7 => ?_)
                clear hK K
                refine norm_ (a' := ?_) ?_ ?_
                rotate_left
                · show Act.put _ (some 15) _ = _
                  simp only [Act.put, List.setIfInBounds_toArray, List.set_cons_zero, List.set_cons_succ, i64_w, i32_w]
                  rfl
                refine one_ (i := 5) (N := some 74) #[true, true, true, true, true, true, false, false, false, false, true, false, false, false] rfl rfl (by kernel_rfl) (by decide) (fun K hK => ?_)
                refine goes_ Try.func12 (by kernel_rfl) rfl #[.agg #[.int .i64 (n : Int), v1, v2], .agg #[.int .i64 d.k, .int .u64 (d.q : Int), .int .u64 (d.x : Int)]] (by rfl) rfl rfl (by (try simp only [List.map_toArray, List.map_cons, List.map_nil]); first | done | rfl) ?_
                with_reducible refine (TW.out w7 B7 R7).mono ?_
                rintro e w8 ⟨u1, u2, rfl, R8, B8, K8⟩
                refine ⟨_, rfl, ?_⟩
                have X8 : w8.heap[Y]? = _ := (K8.2 Y (blk_lt X7) (fun hp => pX.out hp.1)).trans X7
                refine hK.out _ _ ⟨X8, B8⟩ (fun hHeld => ?_)
                clear hK K
                refine norm_ (a' := ?_) ?_ ?_
                rotate_left
                · show Act.put _ (some 74) _ = _
                  simp only [Act.put, List.setIfInBounds_toArray, List.set_cons_zero, List.set_cons_succ, i64_w, i32_w]
                  rfl
                refine pure_ (i := 6) (N := some 68) (v := ?_) (a' := ?_) #[true, true, true, true, true, true, true, false, false, false, true, false, false, false] rfl rfl (by kernel_rfl) (fun _ _ _ h => h) (Or.inl ⟨by rfl, ?_⟩) ?_ ?_
                rotate_left
                · intro w'
                  first | (go_simp; done) | (go_simp; with_reducible rfl) | (go_simp; rfl)
                rotate_left
                · simp only [Act.put, List.setIfInBounds_toArray, List.set_cons_zero, List.set_cons_succ, i64_w, i32_w]
                  rfl
                refine pure_ (i := 7) (N := some 75) (v := ?_) (a' := ?_) #[true, true, true, true, true, true, true, true, false, false, true, false, false, false] rfl rfl (by kernel_rfl) (fun _ _ _ h => h) (Or.inl ⟨by rfl, ?_⟩) ?_ ?_
                rotate_left
                · intro w'
                  first | (go_simp; done) | (go_simp; with_reducible rfl) | (go_simp; rfl)
                rotate_left
                · simp only [Act.put, List.setIfInBounds_toArray, List.set_cons_zero, List.set_cons_succ, i64_w, i32_w]
                  rfl
                refine pure_ (i := 8) (N := some 76) (v := ?_) (a' := ?_) #[true, true, true, true, true, true, true, true, true, false, true, false, false, false] rfl rfl (by kernel_rfl) (fun _ _ _ h => h) (Or.inl ⟨by rfl, ?_⟩) ?_ ?_
                rotate_left
                · intro w'
                  first | (go_simp; done) | (go_simp; with_reducible rfl) | (go_simp; rfl)
                rotate_left
                · simp only [Act.put, List.setIfInBounds_toArray, List.set_cons_zero, List.set_cons_succ, i64_w, i32_w]
                  rfl
                refine pure_ (i := 9) (N := some 77) (v := ?_) (a' := ?_) #[true, true, true, true, true, true, true, true, true, true, true, false, false, false] rfl rfl (by kernel_rfl) (fun _ _ _ h => h) (Or.inl ⟨by rfl, ?_⟩) ?_ ?_
                rotate_left
                · intro w'
                  first | (go_simp; done) | (go_simp; with_reducible rfl) | (go_simp; rfl)
                rotate_left
                · simp only [Act.put, List.setIfInBounds_toArray, List.set_cons_zero, List.set_cons_succ, i64_w, i32_w]
                  rfl
                exact norm_ (by simp only [putAll, Act.put, List.setIfInBounds_toArray, List.set_cons_zero, List.set_cons_succ]) (hCont (u1, u2, Z) _ (Behind.of eY (fun k hk => Nat.lt_of_lt_of_le hk.2 l6) hb7 hY7 R8 B8 K8 X8))
            rintro ⟨u1, u2, Z⟩ w7 F7
            dsimp only at F7 ⊢
            obtain ⟨A1, c1, rfl⟩ := Kd.R_slice F7.rm.1
            obtain ⟨A2, c2, rfl⟩ := Kd.R_slice F7.rm.2
            generalize (enc r'.sl).length = l1 at *
            refine norm_ (a' := ?_) ?_ ?_
            rotate_left
            · simp only [putAll, Act.put, List.setIfInBounds_toArray, List.set_cons_zero, List.set_cons_succ]
              rfl
            have XY : Y ≠ Z := (by have := F7.ly; omega)
            replace F7 := Lib.hid F7
            refine one_ (i := 11) (N := none) #[true, true, true, true, true, true, true, true, true, true, true, true, false, false] rfl rfl (by kernel_rfl) (by decide) (fun K hK => ?_)
            refine skip_ (w1 := w7.setCells Z 0 [.int .i64 (n : Int), .slice A1 l1 c1, .slice A2 r'.tr.length c2]) (by rfl) rfl ?_ ?_
            · exact run_store_op 29 (.tmp 15) (.tmp 75) rfl Z 0 (.agg #[.int .i64 (n : Int), .slice A1 l1 c1, .slice A2 r'.tr.length c2]) [.int .i64 (n : Int), .slice A1 l1 c1, .slice A2 r'.tr.length c2] rfl rfl rfl 29 _ F7.out.y size29 (by simp) (by simp [Value.oneCell'])
            have G8 := grown_cells w7 Z 0 [.int .i64 (n : Int), .slice A1 l1 c1, .slice A2 r'.tr.length c2]
            have Y8 : (w7.setCells Z 0 [.int .i64 (n : Int), .slice A1 l1 c1, .slice A2 r'.tr.length c2]).heap[Z]? = some (.cells #[.int .i64 (n : Int), .slice A1 l1 c1, .slice A2 r'.tr.length c2] 29 (0, 0)) := blk_put (blk_put (blk_put F7.out.y 0 _ rfl) 1 _ rfl) 2 _ rfl
            generalize w7.setCells Z 0 [.int .i64 (n : Int), .slice A1 l1 c1, .slice A2 r'.tr.length c2] = w8 at G8 Y8 ⊢
            obtain ⟨R8, B8, K8, X8⟩ := F7.out.put XY l0 G8
            clear F7 G8
            refine hK.out _ _ ⟨X8, B8⟩ (fun hHeld8 => ?_)
            clear hK K
            refine pure_ (i := 12) (N := some 16) (v := ?_) (a' := ?_) #[true, true, true, true, true, true, true, true, true, true, true, true, true, false] rfl rfl (by kernel_rfl) (fun _ _ _ h => h) (Or.inl ⟨by rfl, ?_⟩) ?_ ?_
            rotate_left
            · intro w'
              first | (go_simp; done) | (go_simp; with_reducible rfl) | (go_simp; rfl)
            rotate_left
            · simp only [Act.put, List.setIfInBounds_toArray, List.set_cons_zero, List.set_cons_succ, i64_w, i32_w]
              rfl
            refine pure_ (i := 13) (N := some 17) (v := ?_) (a' := ?_) #[true, true, true, true, true, true, true, true, true, true, true, true, true, true] rfl rfl (by kernel_rfl) (fun _ _ _ h => h) (Or.inl ⟨by rfl, ?_⟩) ?_ ?_
            rotate_left
            · intro w'
              first | (go_simp; done) | (go_simp; with_reducible rfl) | (go_simp; rfl)
            rotate_left
            · simp only [Act.put, List.setIfInBounds_toArray, List.set_cons_zero, List.set_cons_succ, i64_w, i32_w]
              rfl
            refine done_ (by kernel_rfl) ?_
            have nx9 := Lib.hid (fun (w9 : World) hx hg => nx.out W1 w8 w9 _ _ DB.out R8 B8 K8 hx hg)
            clear nx DB R8 B8 K8 R6 TW pX hHeld hd
            replace Y8 := Lib.hid Y8
            replace X8 := Lib.hid X8
            go_wp2_with (first | (refine ev_load rfl 29 (.tmp 15) rfl Z #[.int .i64 (n : Int), .slice A1 l1 c1, .slice A2 r'.tr.length c2] rfl Y8.out _ Try.underlying29 rfl size29 ?_) | (refine ev_store rfl 29 (.tmp 9) (.tmp 78) rfl Y #[.int .i64 (n : Int), .slice A1 l1 c1, .slice A2 r'.tr.length c2] rfl rfl 29 _ X8.out size29 rfl (one29 ..) ?_; intro w9 hb9 hg9; have HS := Lib.hid (nx9.out w9 hb9 hg9); clear hb9 hg9))
            go_roundw
            case rel => exact ⟨i + 1, _, _, _, by go_num, by omega, by omega, Lib.hid (by rw [ws.out]; exact HS.out)⟩
            case measure => simp [intOf]; omega
          · have h1202 : ¬ (i : Int) < 120 := by omega
            have hlt2 : (i : Int) < (kl.length : Int) := by omega
            go_wp2_with fail
            go_meet
            exact ⟨v1, v2, P, Lib.hid (by rw [show (120 : Nat) = i by omega]; exact HS.out)⟩
        · have hlt2 : ¬ (i : Int) < (kl.length : Int) := by omega
          go_wp2_with fail
          go_meet
          exact ⟨v1, v2, P, Lib.hid (by rw [show kl.take 120 = kl.take i by rw [List.take_of_length_le (by omega), List.take_of_length_le (by omega)]]; exact HS.out.mono hi2)⟩
    case rest =>
      clear HS YJ
      obtain ⟨vy1, vy2, PY, HY⟩ := hcut
      have XB := Lib.hid ((HY.out.kp.2 X (blk_lt HX.out.blk) (by omega)).trans HX.out.blk)
      have XR := Lib.hid (HX.out.rm.kept HY.out.kp (fun k hp e => by have := HX.out.pn k hp; omega))
      generalize wc = wK at *
      have H1K := H1.out.below HY.out.b
      have H2K := H2.out.below HY.out.b
      obtain ⟨Ax1, cx1, rfl⟩ := Kd.R_slice XR.out.1
      obtain ⟨Ax2, cx2, rfl⟩ := Kd.R_slice XR.out.2
      obtain ⟨Ay1, cy1, rfl⟩ := Kd.R_slice HY.out.rm.1
      obtain ⟨Ay2, cy2, rfl⟩ := Kd.R_slice HY.out.rm.2
      have U1n : sw (wants n (dl.take 120)).sl = u := by rw [hn.out]; exact U1.out
      have U2n : sw (wants n (kl.take 120)).sl = v := by rw [hn.out]; exact U2.out
      have hrd := Lib.hid (rdiff_f (tra := (wants n (dl.take 120)).tr) (trb := (wants n (kl.take 120)).tr) HX.out.neat HY.out.neat (by have := HX.out.sl; omega) (by have := HY.out.sl; omega) (M := 8192) (by rw [hn.out]) (by omega))
      rw [U1n, U2n] at hrd
      have hat := Lib.hid (fun (i : Nat) (x : Int) (h : (DL u v 8192)[i]? = some x) => DL_at h)
      have hlen5 := DL_len u v 8192
      have hself := Lib.hid (DL_self u 8192)
      have hcom := Lib.hid (DL_comm v u 8192)
      have T26 := diff_any H1K H2K (by decide)
      rw [show 2 ^ 16 / 4096 * 512 = 8192 from rfl] at T26
      generalize DL u v 8192 = D at *
      clear U1n U2n U1 U2 hc hc2
      go_wp2_with fail
      refine T26.mono ?_
      rintro e w5 ⟨x5, rfl, R5, B5⟩
      have XB5 := Lib.hid (blk_below XB.out B5)
      have YB5 := Lib.hid (blk_below HY.out.blk B5)
      have XR5 := Lib.hid (XR.out.below B5)
      have YR5 := Lib.hid (HY.out.rm.below B5)
      have H1L := Lib.hid (H1K.below B5)
      have H2L := Lib.hid (H2K.below B5)
      have BB := Lib.hid (below_step (below_step B0.out HY.out.b) B5)
      obtain ⟨A5, c5, e5, l5, C5⟩ := Kd.R_reads R5
      subst e5
      replace C5 := Lib.hid C5
      clear R5 B5 T26 XB XR H1K H2K H1 H2 HX HY B0
      generalize wants n (dl.take 120) = rx at *
      generalize wants n (kl.take 120) = ry at *
      go_wp2_with fail
      go_loopw [19] (fun y wr => ∃ (i : Nat), y = .int .i64 (i : Int) ∧ i ≤ D.length ∧ wr = w5) (fun y _ => 9000 - (intOf y).toNat)
      case atStart => exact ⟨0, rfl, by omega, rfl⟩
      case round =>
        obtain ⟨i, rfl, hi, hwr⟩ := hrel
        subst hwr
        by_cases hlt : i < D.length
        · have hlt2 : (i : Int) < (D.length : Int) := by omega
          obtain ⟨ad, ea, hx⟩ := Kd.at_int C5.out (i : Int) (by omega) (by omega)
          subst ea
          obtain ⟨s, hs1, hs2, hs3⟩ := hat.out i D[i] (List.getElem?_eq_getElem hlt)
          have hrdi : rd D (i : Int) = ((8 * s : Nat) : Int) := by
            unfold rd
            rw [Int.toNat_natCast, List.getD_eq_getElem?_getD, List.getElem?_eq_getElem hlt]
            exact hs1
          rw [hrdi, Int.toNat_natCast] at hx
          have T1 := peek_ok H1L.out (by decide) (8 * s) (by have : (2 : Nat) ^ 16 = 65536 := rfl; omega) (by omega)
          have T2 := peek_ok H2L.out (by decide) (8 * s) (by have : (2 : Nat) ^ 16 = 65536 := rfl; omega) (by omega)
          rw [show 8 * s / 8 = s by omega] at T1 T2
          have hne : ¬ ((u s : Nat) : Int) = ((v s : Nat) : Int) := by omega
          generalize hz : 8 * s = z at *
          clear hrdi hs1 hs3 hz
          replace T1 := Lib.hid T1
          replace T2 := Lib.hid T2
          generalize u s = p at *
          generalize v s = q at *
          go_wp2_with fail
          refine T1.out.mono ?_
          rintro e w6 ⟨rfl, hw6⟩
          subst hw6
          go_wp2_with fail
          refine T2.out.mono ?_
          rintro e w6 ⟨rfl, hw6⟩
          subst hw6
          clear T1 T2
          go_wp2_with fail
          go_roundw
          case rel => exact ⟨i + 1, by go_num, by omega, by first | rfl | trivial⟩
          case measure => simp [intOf]; omega
        · have hlt2 : ¬ (i : Int) < (D.length : Int) := by omega
          have e0 : wr.cell? ⟨X, 0, none⟩ = some (.int .i64 (n : Int)) := (blk_cell XB5.out 0).trans rfl
          have e1 : wr.cell? ⟨X, 1, none⟩ = some (.slice Ax1 (enc rx.sl).length cx1) := (blk_cell XB5.out 1).trans rfl
          have e2 : wr.cell? ⟨X, 2, none⟩ = some (.slice Ax2 rx.tr.length cx2) := (blk_cell XB5.out 2).trans rfl
          have f0 : wr.cell? ⟨Y, 0, none⟩ = some (.int .i64 (n : Int)) := (blk_cell YB5.out 0).trans rfl
          have f1 : wr.cell? ⟨Y, 1, none⟩ = some (.slice Ay1 (enc ry.sl).length cy1) := (blk_cell YB5.out 1).trans rfl
          have f2 : wr.cell? ⟨Y, 2, none⟩ = some (.slice Ay2 ry.tr.length cy2) := (blk_cell YB5.out 2).trans rfl
          obtain ⟨_, _, ea1, lx1, Cx1⟩ := Kd.R_reads XR5.out.1
          injection ea1 with ea1 _ ea2
          subst ea1 ea2
          obtain ⟨_, _, ea1, lx2, Cx2⟩ := Kd.R_reads XR5.out.2
          injection ea1 with ea1 _ ea2
          subst ea1 ea2
          obtain ⟨_, _, ea1, ly1, Cy1⟩ := Kd.R_reads YR5.out.1
          injection ea1 with ea1 _ ea2
          subst ea1 ea2
          obtain ⟨_, _, ea1, ly2, Cy2⟩ := Kd.R_reads YR5.out.2
          injection ea1 with ea1 _ ea2
          subst ea1 ea2
          have T27 := Lib.hid (dormerref04_Diff.calls 20000 (n : Int) _ cx1 (enc rx.sl) _ cx2 rx.tr (n : Int) _ cy1 (enc ry.sl) _ cy2 ry.tr D wr Cx1 lx1 Cx2 lx2 Cy1 ly1 Cy2 ly2 hrd.out)
          replace C5 := Lib.hid C5.out
          have hsm := Lib.hid (same_f (k := 20000) D (by omega) (by omega))
          clear lx1 lx2 ly1 ly2 Cx1 Cx2 Cy1 Cy2 hrd XR5 YR5
          go_wp2_with fail
          refine T27.out.mono ?_
          rintro e w6 ⟨x6, rfl, R6, B6⟩
          obtain ⟨A6, c6, e6, l6, C6⟩ := Kd.R_reads R6
          subst e6
          clear T27 e0 e1 e2 f0 f1 f2
          have T13 := Lib.hid (dormerref04_Same.calls 20000 A5 c5 D A6 c6 D true w6 (Kd.C_below C5.out B6) l5 C6 l6 hsm.out)
          replace B6 := Lib.hid B6
          clear R6 C6 l6
          go_wp2_with fail
          refine T13.out.mono ?_
          rintro e w7 ⟨rfl, B7⟩
          replace B6 := Lib.hid (below_step B6.out B7.below)
          clear B7 T13
          have T26 := Lib.hid (diff_any (H1L.out.below B6.out) (H1L.out.below B6.out) (by decide))
          rw [show 2 ^ 16 / 4096 * 512 = 8192 from rfl, hself.out] at T26
          go_wp2_with fail
          refine T26.out.mono ?_
          rintro e w8 ⟨x8, rfl, R8, B8⟩
          obtain ⟨A8, c8, e8, l8, C8⟩ := Kd.R_reads R8
          subst e8
          replace B6 := Lib.hid (below_step B6.out B8)
          clear R8 B8 T26 C8 l8
          have T26 := Lib.hid (diff_any (H2L.out.below B6.out) (H1L.out.below B6.out) (by decide))
          rw [show 2 ^ 16 / 4096 * 512 = 8192 from rfl, hcom.out] at T26
          go_wp2_with fail
          refine T26.out.mono ?_
          rintro e w9 ⟨x9, rfl, R9, B9⟩
          obtain ⟨A9, c9, e9, l9, C9⟩ := Kd.R_reads R9
          subst e9
          replace B6 := Lib.hid (below_step B6.out B9)
          have T13 := Lib.hid (dormerref04_Same.calls 20000 A9 c9 D A5 c5 D true w9 C9 l9 (Kd.C_below C5.out B6.out) l5 hsm.out)
          clear R9 B9 T26 C9 l9
          go_wp2_with fail
          refine T13.out.mono ?_
          rintro e w10 ⟨rfl, B10⟩
          replace B6 := Lib.hid (below_step B6.out B10.below)
          clear B10 T13
          go_wp2_with fail
          refine (diff_nil g1 w10).mono ?_
          rintro e w11 ⟨rfl, B11⟩
          replace B6 := Lib.hid (below_step B6.out B11)
          clear B11
          go_wp2_with fail
          refine (new_ok 17 w11 (by decide) (by decide)).mono ?_
          rintro e w12 ⟨rfl, M12, B12⟩
          replace B6 := Lib.hid (below_step B6.out B12)
          have TB := Lib.hid (diff_bits (H1L.out.below B6.out) M12 (by decide))
          clear B12 M12
          go_wp2_with fail
          refine TB.out.mono ?_
          rintro e w13 ⟨rfl, B13⟩
          replace B6 := Lib.hid (below_step B6.out B13)
          clear B13 TB
          go_wp2_with fail
          go_ret
          exact ⟨rfl, below_step BB.out B6.out⟩
theorem MemDiffs (a : Option Addr) (len cap : Nat) (dl : List Od.Deed) (a2 : Option Addr) (len2 cap2 : Nat) (kl : List Od.Deed) (w : World) (hlen : len < 9223372036854775808) (hl : dl.length = len) (hc : Od.Cells w a dl) (hlen2 : len2 < 9223372036854775808) (hl2 : kl.length = len2) (hc2 : Od.Cells w a2 kl) :
    Calls Try.prog 7 #[.slice a len cap, .slice a2 len2 cap2] w fun e w' => e = .returned (.bool true) ∧ Below w.heap.size w w' := by
  subst hl hl2
  exact MemDiffs_ok dl kl a a2 cap cap2 w hlen hlen2 hc hc2
end Go.Proofs.Ytpkffpcdmglleaa.Pu
