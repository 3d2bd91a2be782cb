/- MemPlays: of every bits and every deeds the law returns true. Condition: the deeds lie where they lie. -/
import Derived.Test.YtpkffpcdmglleaaR3
import Derived.Test.YtpkffpcdmglleaaMh
set_option linter.unusedVariables false
set_option linter.unusedSimpArgs false
namespace Go.Proofs.Ytpkffpcdmglleaa.Pu
open Go.RowKit Go.Maps Go.Proofs.Ytpkffpcdmglleaa.Fn Go.Proofs.Ytpkffpcdmglleaa.Me Go.Proofs.Ytpkffpcdmglleaa.RM Go.Proofs.YtpkffpcdmglleaaW.PrintWords Go.Proofs.YtpkffpcdmglleaaW.PrintMore Go.Proofs.YtpkffpcdmglleaaW.PrintLast
theorem traceO {base : Nat} {w : World} {g mp n i : Nat} {m : Wt} {O : Nat → Prop} (h : MemO base w g mp n i m O) (hi : i < 1000000) : Calls Try.prog 14 #[.pointer (some ⟨g, 0, none⟩)] w fun e w' => ∃ v, e = .returned v ∧ Kd.R (Kd.int .u64) 30 w' w.heap.size (fun _ => True) v m.tr ∧ Below w.heap.size w w' := by
  obtain ⟨pg, N, A, c, h, _, hT, _⟩ := h
  exact trace_any h (by omega)
theorem bitsO {base : Nat} {w : World} {g mp n i : Nat} {m : Wt} {O : Nat → Prop} (h : MemO base w g mp n i m O) : Calls Try.prog 15 #[.pointer (some ⟨g, 0, none⟩)] w fun e w' => e = .returned (.int .i64 (n : Int)) ∧ w = w' := by
  obtain ⟨pg, N, A, c, h, _, _, _⟩ := h
  exact bits_any h
theorem plays_bad (b : Int) (dl : List Od.Deed) (a : Option Addr) (cap : Nat) (w : World) (h : b < 14 ∨ 22 < b) : Calls Try.prog 3 #[.int .i64 b, .slice a dl.length cap] w fun e w' => e = .returned (.bool true) ∧ Below w.heap.size w w' := by
  go_enter Try.func3, Try.ntmps3
  go_wp2_with fail
  refine (awake_any w).mono ?_
  rintro e w1 ⟨rfl, B1⟩
  replace B1 := Aside0.mk B1
  go_wp2_with fail
  refine (new_bad b w1 h).mono ?_
  rintro e w2 ⟨rfl, rfl⟩
  by_cases h14 : b < 14
  · clear h
    go_wp2_with fail
    go_ret
    exact ⟨rfl, B1.out⟩
  · have h22 : b > 22 := by omega
    clear h
    go_wp2_with fail
    go_ret
    exact ⟨rfl, B1.out⟩
theorem sameO {w0 w : World} {base g mp n X i b8 : Nat} {m : Wt} {r : Rm} {v1 : Value} {A8 A2 : Option Addr} {c8 c2 : Nat} {O P ok : Nat → Prop} (h8 : Kd.R (Kd.int .u64) 30 w b8 ok (.slice A8 m.tr.length c8) m.tr) (h : St w0 w base g mp n X i m r v1 (.slice A2 r.tr.length c2) O P) (hi : i ≤ 1000) : Calls Try.prog 13 #[.slice A8 m.tr.length c8, .slice A2 r.tr.length c2] w fun e w' => e = .returned (.bool true) ∧ Below w.heap.size w w' := by
  obtain ⟨B1, d1, e1, l1, C1⟩ := Kd.R_reads h8
  injection e1 with e1 e2 e3
  subst e1 e3
  obtain ⟨B2, d2, e1, l2, C2⟩ := Kd.R_reads h.rm.2
  injection e1 with e1 e2 e3
  subst e1 e3
  have er := h.rel.2.1
  have ht := h.tr
  exact (dormerref04_Same.calls 2000 A8 c8 m.tr A2 c2 r.tr true w C1 l1 C2 l2 (by rw [er]; exact same_f _ (by omega) (by omega))).mono fun e w' h => ⟨h.1, h.2.below⟩
set_option maxHeartbeats 4000000 in
set_option maxRecDepth 100000 in
theorem plays_ok (n : Nat) (h14 : 14 ≤ n) (h22 : n ≤ 22) (dl : List Od.Deed) (a : Option Addr) (cap : Nat) (w : World) (hlen : dl.length < 9223372036854775808) (hc : Od.Cells w a dl) : Calls Try.prog 3 #[.int .i64 (n : Int), .slice a dl.length cap] w fun e w' => e = .returned (.bool true) ∧ Below w.heap.size w w' := by
  replace hc := Lib.hid hc
  go_enter Try.func3, Try.ntmps3
  go_wp2_with fail
  refine (awake_any w).mono ?_
  rintro e w1 ⟨rfl, B1⟩
  have s1 := B1.size
  replace B1 := Lib.hid B1
  go_wp2_with fail
  refine (new_ok n w1 h14 h22).mono ?_
  rintro e w2 ⟨rfl, M2, B2⟩
  have s2 := B2.size
  have BB2 := Lib.hid (below_step B1.out B2)
  have HX := Lib.hid (blk_new w2 (.cells #[.int .i64 (n : Int), .slice none 0 0, .slice none 0 0] 29))
  have HS : Hid (St w (w2.alloc (.cells #[.int .i64 (n : Int), .slice none 0 0, .slice none 0 0] 29)) w1.heap.size (w1.heap.size + 1) w1.heap.size n w2.heap.size 0 ⟨fun _ => 0, []⟩ ⟨[], []⟩ (.slice none 0 0) (.slice none 0 0) (fun k => k < w2.heap.size) (fun _ => False)) := by
    refine Lib.hid ⟨⟨_, _, _, _, M2.below (below_alloc (Below.refl _ _) _), by omega, by simp, fun k hk => M2.lts k hk⟩, HX.out, ⟨Kd.R_nil _ _ _ _ _, Kd.R_nil _ _ _ _ _⟩, fun _ _ h => h, Nat.lt_irrefl _, fun h => h, by omega, below_step BB2.out (below_alloc (Below.refl _ _) _), s1, ⟨fun s => rfl, rfl, fun p hp => by cases hp⟩, by simp, by simp⟩
  clear M2 B2 HX BB2 B1
  generalize w1.heap.size = base at *
  generalize hg : base + 1 = g at *
  clear hg
  have e14 : ¬ (n : Int) < 14 := by omega
  have e22 : ¬ (n : Int) > 22 := by omega
  generalize hXe : w2.heap.size = X at *
  replace hXe := Lib.hid hXe
  go_wp2_with fail
  rw [hXe.out]
  clear hXe
  generalize w2.alloc (.cells #[.int .i64 (n : Int), .slice none 0 0, .slice none 0 0] 29) = W0 at *
  go_loopw [8] (fun y wr => ∃ (i : Nat) (m : Wt) (r : Rm) (v1 v2 : Value) (O P : Nat → Prop), y = .int .i64 (i : Int) ∧ i ≤ dl.length ∧ i ≤ 120 ∧ Hid (St w wr base g base n X i m r v1 v2 O P)) (fun y _ => 120 - (intOf y).toNat)
  case atStart => exact ⟨0, _, _, _, _, _, _, rfl, by omega, by omega, HS⟩
  case round =>
    clear HS
    obtain ⟨i, m, r, v1, v2, O, P, rfl, hi1, hi2, HS⟩ := hrel
    by_cases hlt : i < dl.length
    · by_cases h120 : i < 120
      · have hlt2 : (i : Int) < (dl.length : Int) := by omega
        have h1202 : (i : Int) < 120 := by omega
        have hd := Lib.hid (List.getElem?_eq_getElem hlt)
        generalize dl[i] = d at *
        obtain ⟨q1, q2, q3, q4, x, rfl, c0, c1, c2⟩ := (hc.out.below HS.out.b) i d hd.out
        have T := Lib.hid (pairO_any HS.out.mem h22 d.k d.q d.x q1 q2 (by omega))
        go_wp2_with fail
        refine T.out.mono ?_
        rintro e w5 ⟨rfl, M5, K5, b5⟩
        obtain ⟨X5, R5, B5⟩ := HS.out.mid K5 b5
        clear T c0 c1 c2 b5
        obtain ⟨ey, ee, hrel, hs, ht⟩ := rel_step HS.out.rel n d.k d.q d.x q1 q2
        have TW := Lib.hid (fun (W' : World) (hb : Below w.heap.size w W') (hr : RmAt W' w.heap.size (fun k => P k ∧ k < wr.heap.size) v1 v2 r) => want_any w W' hb hr h22 HS.out.rel.2.2 (by have := HS.out.sl; omega) (by have := HS.out.tr; omega) d.k d.q d.x q1 q2)
        generalize Me.did n m d.k d.q d.x = o at *
        generalize wantN n r d.k d.q d.x = o' at *
        obtain ⟨y, er, m'⟩ := o
        obtain ⟨y', er', r'⟩ := o'
        dsimp only at ey ee hrel hs ht M5 ⊢
        subst ey ee
        have pX := Lib.hid HS.out.pX
        have XB := Lib.hid X5
        have nx := Lib.hid (fun (W1 w6 w7 : World) (u1 u2 : Value) M K => HS.out.next (w1 := W1) (w2 := w6) (w3 := w7) (u1 := u1) (u2 := u2) (m' := m') (r' := r') M K)
        replace X5 := Lib.hid X5
        replace M5 := Lib.hid M5
        replace R5 := Lib.hid R5
        replace B5 := Lib.hid B5
        replace K5 := Lib.hid K5
        replace hrel := Lib.hid hrel
        clear HS
        go_upto_region 12 with fail
        refine start_ (n := 14) (S := (fun W' => W'.heap[X]? = some (.cells #[.int .i64 (n : Int), v1, v2] 29 (0, 0)) ∧ Below w.heap.size w W')) (ds := []) #[false, false, false, false, false, false, false, false, false, false, false, false, false, false] (by kernel_rfl) rfl rfl ⟨blk_below X5.out (below_drew1 (Below.refl _ _)), below_step B5.out (below_drew1 (Below.refl _ _))⟩ (fun hHeld => ?_)
        have M6 := Lib.hid (MemO_below M5.out (below_drew1 (Below.refl _ _)))
        have K6 := Lib.hid (K5.out.below (below_drew1 (Below.refl _ _)))
        have R6 := Lib.hid (R5.out.below (below_drew1 (Below.refl _ _)))
        have l6 : wr.heap.size ≤ w5.drew.heap.size := K6.out.1
        have l0 : w.heap.size ≤ w5.drew.heap.size := hHeld.2.size
        have lX : X < w5.drew.heap.size := blk_lt hHeld.1
        clear M5 K5 R5 X5 B5
        generalize World.drew w5 = W1 at *
        refine take_ (i := 0) (N := some 51) (v := .agg #[.int .i64 (n : Int), v1, v2]) (a' := ?_) #[true, false, false, false, false, false, false, false, false, false, false, false, false, false] rfl rfl (by kernel_rfl) (fun _ _ _ h => h) (yieldsIf_load_mid (by rfl) 29 (.tmp 7) rfl X 0 rfl [.int .i64 (n : Int), v1, v2] _ (fun W' hW' => (fun j v hj => by rw [Nat.zero_add, blk_cell hW'.1 j]; simpa using hj)) Try.underlying29 rfl size29) hHeld ?_ ?_
        rotate_left
        · simp only [Act.put, List.setIfInBounds_toArray, List.set_cons_zero, List.set_cons_succ, i64_w, i32_w]
          rfl
        refine pure_ (i := 1) (N := some 52) (v := ?_) (a' := ?_) #[true, true, false, false, false, false, false, false, false, false, false, false, false, false] rfl rfl (by kernel_rfl) (fun _ _ _ h => h) (Or.inl ⟨by rfl, ?_⟩) ?_ ?_
        rotate_left
        · intro w'
          first | (go_simp; done) | (go_simp; with_reducible rfl) | (go_simp; rfl)
        rotate_left
        · simp only [Act.put, List.setIfInBounds_toArray, List.set_cons_zero, List.set_cons_succ, i64_w, i32_w]
          rfl
        refine pure_ (i := 2) (N := some 53) (v := ?_) (a' := ?_) #[true, true, true, false, false, false, false, false, false, false, false, false, false, false] rfl rfl (by kernel_rfl) (fun _ _ _ h => h) (Or.inl ⟨by rfl, ?_⟩) ?_ ?_
        rotate_left
        · intro w'
          first | (go_simp; done) | (go_simp; with_reducible rfl) | (go_simp; rfl)
        rotate_left
        · simp only [Act.put, List.setIfInBounds_toArray, List.set_cons_zero, List.set_cons_succ, i64_w, i32_w]
          rfl
        refine pure_ (i := 3) (N := some 54) (v := ?_) (a' := ?_) #[true, true, true, true, false, false, false, false, false, false, false, false, false, false] rfl rfl (by kernel_rfl) (fun _ _ _ h => h) (Or.inl ⟨by rfl, ?_⟩) ?_ ?_
        rotate_left
        · intro w'
          first | (go_simp; done) | (go_simp; with_reducible rfl) | (go_simp; rfl)
        rotate_left
        · simp only [Act.put, List.setIfInBounds_toArray, List.set_cons_zero, List.set_cons_succ, i64_w, i32_w]
          rfl
        refine take_ (i := 4) (N := some 55) (v := ?_) (a' := ?_) #[true, true, true, true, true, false, false, false, false, false, false, false, false, false] rfl rfl (by kernel_rfl) (fun _ _ _ h => h) (Or.inl ⟨by rfl, ?_⟩) hHeld ?_ ?_
        rotate_left
        · intro w' hSw
          (try dsimp only at hSw)
          obtain ⟨_, _, _, _, x2, ex, f0, f1, f2⟩ := (hc.out.below hSw.2) i d hd.out
          injection ex with ex
          subst ex
          first | (go_simp; done) | (go_simp; with_reducible rfl) | (go_simp; rfl)
        rotate_left
        · simp only [Act.put, List.setIfInBounds_toArray, List.set_cons_zero, List.set_cons_succ, i64_w, i32_w]
          rfl
        refine join_ (σ := Value × Value × Nat) 3 #[true, true, true, true, true, true, true, true, true, true, true, false, false, false] (fun s => [(56, .tuple #[.agg #[.int .i64 (n : Int), s.1, s.2.1], .int .u64 (y : Int), .int .i64 er]), (50, .tuple #[.agg #[.int .i64 (n : Int), s.1, s.2.1], .int .u64 (y : Int), .int .i64 er]), (57, .agg #[.int .i64 (n : Int), s.1, s.2.1]), (58, .int .u64 (y : Int)), (59, .int .i64 er), (11, .pointer (some ⟨s.2.2, 0, none⟩))]) (fun s w' => Behind w W1 w' (fun k => P k ∧ k < wr.heap.size) X n s.2.2 v1 v2 s.1 s.2.1 r') ?_ ?_
        rotate_left
        · intro hCont
          refine two_ (i := 5) (j := 10) (Ni := some 56) (Nj := some 11) #[true, true, true, true, true, true, false, false, false, false, false, false, false, false] #[true, true, true, true, true, false, false, false, false, false, true, false, false, false] rfl rfl rfl rfl (by kernel_rfl) (by decide) (by decide) (fun K hK => ?_) (fun K hK => ?_)
          · skip
            refine goes_ Try.func12 (by kernel_rfl) rfl #[.agg #[.int .i64 (n : Int), v1, v2], .agg #[.int .i64 d.k, .int .u64 (d.q : Int), .int .u64 (d.x : Int)]] (by rfl) rfl rfl (by (try simp only [List.map_toArray, List.map_cons, List.map_nil]); first | done | rfl) ?_
            with_reducible refine (TW.out W1 hHeld.2 R6.out).mono ?_
            rintro e w6 ⟨u1, u2, rfl, R7, B7, K7⟩
            refine ⟨_, rfl, ?_⟩
            have X7 : w6.heap[X]? = _ := (K7.2 X (blk_lt hHeld.1) (fun hp => pX.out hp.1)).trans hHeld.1
            refine hK.out _ _ ⟨X7, B7⟩ (fun hHeld7 => ?_)
            clear hK K
            refine norm_ (a' := ?_) ?_ ?_
            rotate_left
            · show Act.put _ (some 56) _ = _
              simp only [Act.put, List.setIfInBounds_toArray, List.set_cons_zero, List.set_cons_succ, i64_w, i32_w]
              rfl
            refine pure_ (i := 6) (N := some 50) (v := ?_) (a' := ?_) #[true, true, true, true, true, true, true, false, false, false, false, false, false, false] rfl rfl (by kernel_rfl) (fun _ _ _ h => h) (Or.inl ⟨by rfl, ?_⟩) ?_ ?_
            rotate_left
            · intro w'
              first | (go_simp; done) | (go_simp; with_reducible rfl) | (go_simp; rfl)
            rotate_left
            · simp only [Act.put, List.setIfInBounds_toArray, List.set_cons_zero, List.set_cons_succ, i64_w, i32_w]
              rfl
            refine pure_ (i := 7) (N := some 57) (v := ?_) (a' := ?_) #[true, true, true, true, true, true, true, true, false, false, false, false, false, false] rfl rfl (by kernel_rfl) (fun _ _ _ h => h) (Or.inl ⟨by rfl, ?_⟩) ?_ ?_
            rotate_left
            · intro w'
              first | (go_simp; done) | (go_simp; with_reducible rfl) | (go_simp; rfl)
            rotate_left
            · simp only [Act.put, List.setIfInBounds_toArray, List.set_cons_zero, List.set_cons_succ, i64_w, i32_w]
              rfl
            refine pure_ (i := 8) (N := some 58) (v := ?_) (a' := ?_) #[true, true, true, true, true, true, true, true, true, false, false, false, false, false] rfl rfl (by kernel_rfl) (fun _ _ _ h => h) (Or.inl ⟨by rfl, ?_⟩) ?_ ?_
            rotate_left
            · intro w'
              first | (go_simp; done) | (go_simp; with_reducible rfl) | (go_simp; rfl)
            rotate_left
            · simp only [Act.put, List.setIfInBounds_toArray, List.set_cons_zero, List.set_cons_succ, i64_w, i32_w]
              rfl
            refine pure_ (i := 9) (N := some 59) (v := ?_) (a' := ?_) #[true, true, true, true, true, true, true, true, true, true, false, false, false, false] rfl rfl (by kernel_rfl) (fun _ _ _ h => h) (Or.inl ⟨by rfl, ?_⟩) ?_ ?_
            rotate_left
            · intro w'
              first | (go_simp; done) | (go_simp; with_reducible rfl) | (go_simp; rfl)
            rotate_left
            · simp only [Act.put, List.setIfInBounds_toArray, List.set_cons_zero, List.set_cons_succ, i64_w, i32_w]
              rfl
            refine one_ (i := 10) (N := some 11) #[true, true, true, true, true, true, true, true, true, true, true, false, false, false] rfl rfl (by kernel_rfl) (by decide) (fun K hK => ?_)
            refine box_step ?hg (N := 11) ?hd (cs := #[.int .i64 0, .slice none 0 0, .slice none 0 0]) (t := 29) ?hr ?_
            (case hd => rfl)
            (case hg => rfl)
            (case hr => first | (go_simp; done) | (go_simp; rfl))
            intro Y eY w7 hY7 hb7
            refine hK.out _ _ ⟨blk_below X7 hb7, below_step B7 hb7⟩ (fun hHeld => ?_)
            clear hK K
            refine norm_ (a' := ?_) ?_ ?_
            rotate_left
            · show Act.put _ (some 11) _ = _
              simp only [Act.put, List.setIfInBounds_toArray, List.set_cons_zero, List.set_cons_succ, i64_w, i32_w]
              rfl
            exact norm_ (by simp only [putAll, Act.put, List.setIfInBounds_toArray, List.set_cons_zero, List.set_cons_succ]) (hCont (u1, u2, Y) _ (Behind.a R7 B7 K7 X7 eY hY7 hb7))
          · skip
            refine box_step ?hg (N := 11) ?hd (cs := #[.int .i64 0, .slice none 0 0, .slice none 0 0]) (t := 29) ?hr ?_
            (case hd => rfl)
            (case hg => rfl)
            (case hr => first | (go_simp; done) | (go_simp; rfl))
            intro Y eY w7 hY7 hb7
            have X7 := blk_below hHeld.1 hb7
            have B7 := below_step hHeld.2 hb7
            have R7 := R6.out.below hb7
            refine hK.out _ _ ⟨X7, B7⟩ (fun hHeld7 => ?_)
            clear hK K
            refine norm_ (a' := ?_) ?_ ?_
            rotate_left
            · show Act.put _ (some 11) _ = _
              simp only [Act.put, List.setIfInBounds_toArray, List.set_cons_zero, List.set_cons_succ, i64_w, i32_w]
              rfl
            refine one_ (i := 5) (N := some 56) #[true, true, true, true, true, true, false, false, false, false, true, false, false, false] rfl rfl (by kernel_rfl) (by decide) (fun K hK => ?_)
            refine goes_ Try.func12 (by kernel_rfl) rfl #[.agg #[.int .i64 (n : Int), v1, v2], .agg #[.int .i64 d.k, .int .u64 (d.q : Int), .int .u64 (d.x : Int)]] (by rfl) rfl rfl (by (try simp only [List.map_toArray, List.map_cons, List.map_nil]); first | done | rfl) ?_
            with_reducible refine (TW.out w7 B7 R7).mono ?_
            rintro e w8 ⟨u1, u2, rfl, R8, B8, K8⟩
            refine ⟨_, rfl, ?_⟩
            have X8 : w8.heap[X]? = _ := (K8.2 X (blk_lt X7) (fun hp => pX.out hp.1)).trans X7
            refine hK.out _ _ ⟨X8, B8⟩ (fun hHeld => ?_)
            clear hK K
            refine norm_ (a' := ?_) ?_ ?_
            rotate_left
            · show Act.put _ (some 56) _ = _
              simp only [Act.put, List.setIfInBounds_toArray, List.set_cons_zero, List.set_cons_succ, i64_w, i32_w]
              rfl
            refine pure_ (i := 6) (N := some 50) (v := ?_) (a' := ?_) #[true, true, true, true, true, true, true, false, false, false, true, false, false, false] rfl rfl (by kernel_rfl) (fun _ _ _ h => h) (Or.inl ⟨by rfl, ?_⟩) ?_ ?_
            rotate_left
            · intro w'
              first | (go_simp; done) | (go_simp; with_reducible rfl) | (go_simp; rfl)
            rotate_left
            · simp only [Act.put, List.setIfInBounds_toArray, List.set_cons_zero, List.set_cons_succ, i64_w, i32_w]
              rfl
            refine pure_ (i := 7) (N := some 57) (v := ?_) (a' := ?_) #[true, true, true, true, true, true, true, true, false, false, true, false, false, false] rfl rfl (by kernel_rfl) (fun _ _ _ h => h) (Or.inl ⟨by rfl, ?_⟩) ?_ ?_
            rotate_left
            · intro w'
              first | (go_simp; done) | (go_simp; with_reducible rfl) | (go_simp; rfl)
            rotate_left
            · simp only [Act.put, List.setIfInBounds_toArray, List.set_cons_zero, List.set_cons_succ, i64_w, i32_w]
              rfl
            refine pure_ (i := 8) (N := some 58) (v := ?_) (a' := ?_) #[true, true, true, true, true, true, true, true, true, false, true, false, false, false] rfl rfl (by kernel_rfl) (fun _ _ _ h => h) (Or.inl ⟨by rfl, ?_⟩) ?_ ?_
            rotate_left
            · intro w'
              first | (go_simp; done) | (go_simp; with_reducible rfl) | (go_simp; rfl)
            rotate_left
            · simp only [Act.put, List.setIfInBounds_toArray, List.set_cons_zero, List.set_cons_succ, i64_w, i32_w]
              rfl
            refine pure_ (i := 9) (N := some 59) (v := ?_) (a' := ?_) #[true, true, true, true, true, true, true, true, true, true, true, false, false, false] rfl rfl (by kernel_rfl) (fun _ _ _ h => h) (Or.inl ⟨by rfl, ?_⟩) ?_ ?_
            rotate_left
            · intro w'
              first | (go_simp; done) | (go_simp; with_reducible rfl) | (go_simp; rfl)
            rotate_left
            · simp only [Act.put, List.setIfInBounds_toArray, List.set_cons_zero, List.set_cons_succ, i64_w, i32_w]
              rfl
            exact norm_ (by simp only [putAll, Act.put, List.setIfInBounds_toArray, List.set_cons_zero, List.set_cons_succ]) (hCont (u1, u2, Y) _ (Behind.of eY (fun k hk => Nat.lt_of_lt_of_le hk.2 l6) hb7 hY7 R8 B8 K8 X8))
        rintro ⟨u1, u2, Y⟩ w7 F7
        dsimp only at F7 ⊢
        obtain ⟨A1, c1, rfl⟩ := Kd.R_slice F7.rm.1
        obtain ⟨A2, c2, rfl⟩ := Kd.R_slice F7.rm.2
        generalize (enc r'.sl).length = l1 at *
        refine norm_ (a' := ?_) ?_ ?_
        rotate_left
        · simp only [putAll, Act.put, List.setIfInBounds_toArray, List.set_cons_zero, List.set_cons_succ]
          rfl
        have XY : X ≠ Y := (by have := F7.ly; omega)
        replace F7 := Lib.hid F7
        refine one_ (i := 11) (N := none) #[true, true, true, true, true, true, true, true, true, true, true, true, false, false] rfl rfl (by kernel_rfl) (by decide) (fun K hK => ?_)
        refine skip_ (w1 := w7.setCells Y 0 [.int .i64 (n : Int), .slice A1 l1 c1, .slice A2 r'.tr.length c2]) (by rfl) rfl ?_ ?_
        · exact run_store_op 29 (.tmp 11) (.tmp 57) rfl Y 0 (.agg #[.int .i64 (n : Int), .slice A1 l1 c1, .slice A2 r'.tr.length c2]) [.int .i64 (n : Int), .slice A1 l1 c1, .slice A2 r'.tr.length c2] rfl rfl rfl 29 _ F7.out.y size29 (by simp) (by simp [Value.oneCell'])
        have G8 := grown_cells w7 Y 0 [.int .i64 (n : Int), .slice A1 l1 c1, .slice A2 r'.tr.length c2]
        have Y8 : (w7.setCells Y 0 [.int .i64 (n : Int), .slice A1 l1 c1, .slice A2 r'.tr.length c2]).heap[Y]? = some (.cells #[.int .i64 (n : Int), .slice A1 l1 c1, .slice A2 r'.tr.length c2] 29 (0, 0)) := blk_put (blk_put (blk_put F7.out.y 0 _ rfl) 1 _ rfl) 2 _ rfl
        generalize w7.setCells Y 0 [.int .i64 (n : Int), .slice A1 l1 c1, .slice A2 r'.tr.length c2] = w8 at G8 Y8 ⊢
        obtain ⟨R8, B8, K8, X8⟩ := F7.out.put XY l0 G8
        clear F7 G8
        refine hK.out _ _ ⟨X8, B8⟩ (fun hHeld8 => ?_)
        clear hK K
        refine pure_ (i := 12) (N := some 12) (v := ?_) (a' := ?_) #[true, true, true, true, true, true, true, true, true, true, true, true, true, false] rfl rfl (by kernel_rfl) (fun _ _ _ h => h) (Or.inl ⟨by rfl, ?_⟩) ?_ ?_
        rotate_left
        · intro w'
          first | (go_simp; done) | (go_simp; with_reducible rfl) | (go_simp; rfl)
        rotate_left
        · simp only [Act.put, List.setIfInBounds_toArray, List.set_cons_zero, List.set_cons_succ, i64_w, i32_w]
          rfl
        refine pure_ (i := 13) (N := some 13) (v := ?_) (a' := ?_) #[true, true, true, true, true, true, true, true, true, true, true, true, true, true] rfl rfl (by kernel_rfl) (fun _ _ _ h => h) (Or.inl ⟨by rfl, ?_⟩) ?_ ?_
        rotate_left
        · intro w'
          first | (go_simp; done) | (go_simp; with_reducible rfl) | (go_simp; rfl)
        rotate_left
        · simp only [Act.put, List.setIfInBounds_toArray, List.set_cons_zero, List.set_cons_succ, i64_w, i32_w]
          rfl
        refine done_ (by kernel_rfl) ?_
        have nx9 := Lib.hid (fun (w9 : World) hx hg => nx.out W1 w8 w9 _ _ M6.out K6.out R8 B8 K8 hx hg hrel.out hs ht)
        clear nx M6 K6 R8 B8 K8 R6 TW hrel pX XB hHeld hd
        replace Y8 := Lib.hid Y8
        replace X8 := Lib.hid X8
        go_upto_region 14 with (first | (refine ev_load rfl 29 (.tmp 11) rfl Y #[.int .i64 (n : Int), .slice A1 l1 c1, .slice A2 r'.tr.length c2] rfl Y8.out _ Try.underlying29 rfl size29 ?_) | (refine ev_store rfl 29 (.tmp 7) (.tmp 60) rfl X #[.int .i64 (n : Int), .slice A1 l1 c1, .slice A2 r'.tr.length c2] rfl rfl 29 _ X8.out size29 rfl (one29 ..) ?_; intro w9 hb9 hg9; have HS := Lib.hid (nx9.out w9 hb9 hg9); clear hb9 hg9))
        refine start_ (n := 16) (S := (fun W' => W'.heap[X]? = some (.cells #[.int .i64 (n : Int), .slice A1 l1 c1, .slice A2 r'.tr.length c2] 29 (0, 0)))) (ds := []) #[false, false, false, false, false, false, false, false, false, false, false, false, false, false, false, false] (by kernel_rfl) rfl rfl (show _ from (HS.out.below (below_drew1 (Below.refl _ _))).blk) (fun hHeld => ?_)
        have HS1 := Lib.hid (HS.out.below (below_drew1 (Below.refl _ _)))
        clear HS
        generalize World.drew _ = W2 at *
        refine pure_ (i := 0) (N := some 61) (v := ?_) (a' := ?_) #[true, false, false, false, false, false, false, false, false, false, false, false, false, false, false, false] rfl rfl (by kernel_rfl) (fun _ _ _ h => h) (Or.inl ⟨by rfl, ?_⟩) ?_ ?_
        rotate_left
        · intro w'
          first | (go_simp; done) | (go_simp; with_reducible rfl) | (go_simp; rfl)
        rotate_left
        · simp only [Act.put, List.setIfInBounds_toArray, List.set_cons_zero, List.set_cons_succ, i64_w, i32_w]
          rfl
        refine pure_ (i := 1) (N := some 62) (v := ?_) (a' := ?_) #[true, true, false, false, false, false, false, false, false, false, false, false, false, false, false, false] rfl rfl (by kernel_rfl) (fun _ _ _ h => h) (Or.inl ⟨by rfl, ?_⟩) ?_ ?_
        rotate_left
        · intro w'
          first | (go_simp; done) | (go_simp; with_reducible rfl) | (go_simp; rfl)
        rotate_left
        · simp only [Act.put, List.setIfInBounds_toArray, List.set_cons_zero, List.set_cons_succ, i64_w, i32_w]
          rfl
        refine pure_ (i := 2) (N := some 63) (v := ?_) (a' := ?_) #[true, true, true, false, false, false, false, false, false, false, false, false, false, false, false, false] rfl rfl (by kernel_rfl) (fun _ _ _ h => h) (Or.inl ⟨by rfl, ?_⟩) ?_ ?_
        rotate_left
        · intro w'
          first | (go_simp; done) | (go_simp; with_reducible rfl) | (go_simp; rfl)
        rotate_left
        · simp only [Act.put, List.setIfInBounds_toArray, List.set_cons_zero, List.set_cons_succ, i64_w, i32_w]
          rfl
        refine pure_ (i := 3) (N := some 64) (v := ?_) (a' := ?_) #[true, true, true, true, false, false, false, false, false, false, false, false, false, false, false, false] rfl rfl (by kernel_rfl) (fun _ _ _ h => h) (Or.inl ⟨by rfl, ?_⟩) ?_ ?_
        rotate_left
        · intro w'
          first | (go_simp; done) | (go_simp; with_reducible rfl) | (go_simp; rfl)
        rotate_left
        · simp only [Act.put, List.setIfInBounds_toArray, List.set_cons_zero, List.set_cons_succ, i64_w, i32_w]
          rfl
        refine pure_ (i := 4) (N := some 65) (v := ?_) (a' := ?_) #[true, true, true, true, true, false, false, false, false, false, false, false, false, false, false, false] rfl rfl (by kernel_rfl) (fun _ _ _ h => h) (Or.inl ⟨by rfl, ?_⟩) ?_ ?_
        rotate_left
        · intro w'
          first | (go_simp; done) | (go_simp; with_reducible rfl) | (go_simp; rfl)
        rotate_left
        · simp only [Act.put, List.setIfInBounds_toArray, List.set_cons_zero, List.set_cons_succ, i64_w, i32_w]
          rfl
        refine pure_ (i := 5) (N := some 66) (v := ?_) (a' := ?_) #[true, true, true, true, true, true, false, false, false, false, false, false, false, false, false, false] rfl rfl (by kernel_rfl) (fun _ _ _ h => h) (Or.inl ⟨by rfl, ?_⟩) ?_ ?_
        rotate_left
        · intro w'
          first | (go_simp; done) | (go_simp; with_reducible rfl) | (go_simp; rfl)
        rotate_left
        · simp only [Act.put, List.setIfInBounds_toArray, List.set_cons_zero, List.set_cons_succ, i64_w, i32_w]
          rfl
        refine pure_ (i := 6) (N := some 67) (v := ?_) (a' := ?_) #[true, true, true, true, true, true, true, false, false, false, false, false, false, false, false, false] rfl rfl (by kernel_rfl) (fun _ _ _ h => h) (Or.inl ⟨by rfl, ?_⟩) ?_ ?_
        rotate_left
        · intro w'
          first | (go_simp; done) | (go_simp; with_reducible rfl) | (go_simp; rfl)
        rotate_left
        · simp only [Act.put, List.setIfInBounds_toArray, List.set_cons_zero, List.set_cons_succ, i64_w, i32_w]
          rfl
        refine pure_ (i := 7) (N := some 68) (v := ?_) (a' := ?_) #[true, true, true, true, true, true, true, true, false, false, false, false, false, false, false, false] rfl rfl (by kernel_rfl) (fun _ _ _ h => h) (Or.inl ⟨by rfl, ?_⟩) ?_ ?_
        rotate_left
        · intro w'
          first | (go_simp; done) | (go_simp; with_reducible rfl) | (go_simp; rfl)
        rotate_left
        · simp only [Act.put, List.setIfInBounds_toArray, List.set_cons_zero, List.set_cons_succ, i64_w, i32_w]
          rfl
        refine pure_ (i := 8) (N := some 69) (v := ?_) (a' := ?_) #[true, true, true, true, true, true, true, true, true, false, false, false, false, false, false, false] rfl rfl (by kernel_rfl) (fun _ _ _ h => h) (Or.inl ⟨by rfl, ?_⟩) ?_ ?_
        rotate_left
        · intro w'
          first | (go_simp; done) | (go_simp; with_reducible rfl) | (go_simp; rfl)
        rotate_left
        · simp only [Act.put, List.setIfInBounds_toArray, List.set_cons_zero, List.set_cons_succ, i64_w, i32_w]
          rfl
        refine pure_ (i := 9) (N := some 70) (v := ?_) (a' := ?_) #[true, true, true, true, true, true, true, true, true, true, false, false, false, false, false, false] rfl rfl (by kernel_rfl) (fun _ _ _ h => h) (Or.inl ⟨by rfl, ?_⟩) ?_ ?_
        rotate_left
        · intro w'
          first | (go_simp; done) | (go_simp; with_reducible rfl) | (go_simp; rfl)
        rotate_left
        · simp only [Act.put, List.setIfInBounds_toArray, List.set_cons_zero, List.set_cons_succ, i64_w, i32_w]
          rfl
        refine pure_ (i := 11) (N := some 72) (v := ?_) (a' := ?_) #[true, true, true, true, true, true, true, true, true, true, false, true, false, false, false, false] rfl rfl (by kernel_rfl) (fun _ _ _ h => h) (Or.inl ⟨by rfl, ?_⟩) ?_ ?_
        rotate_left
        · intro w'
          first | (go_simp; done) | (go_simp; with_reducible rfl) | (go_simp; rfl)
        rotate_left
        · simp only [Act.put, List.setIfInBounds_toArray, List.set_cons_zero, List.set_cons_succ, i64_w, i32_w]
          rfl
        refine take_ (i := 12) (N := some 73) (v := ?_) (a' := ?_) #[true, true, true, true, true, true, true, true, true, true, false, true, true, false, false, false] rfl rfl (by kernel_rfl) (fun _ _ _ h => h) (Or.inl ⟨by rfl, ?_⟩) hHeld ?_ ?_
        rotate_left
        · intro w' hSw
          (try dsimp only at hSw)
          have hcx := (blk_cell hSw 2).trans rfl
          first | (go_simp; done) | (go_simp; with_reducible rfl) | (go_simp; rfl)
        rotate_left
        · simp only [Act.put, List.setIfInBounds_toArray, List.set_cons_zero, List.set_cons_succ, i64_w, i32_w]
          rfl
        refine one_ (i := 10) (N := some 71) #[true, true, true, true, true, true, true, true, true, true, true, true, true, false, false, false] rfl rfl (by kernel_rfl) (by decide) (fun K hK => ?_)
        refine goes_ Try.func14 (by kernel_rfl) rfl #[.pointer (some ⟨g, 0, none⟩)] (by rfl) rfl rfl (by (try simp only [List.map_toArray, List.map_cons, List.map_nil]); first | done | rfl) ?_
        with_reducible refine (traceO HS1.out.mem (by omega)).mono ?_
        rintro e w8 ⟨v8, rfl, hR8, hB8⟩
        obtain ⟨A8, c8, rfl⟩ := Kd.R_slice hR8
        refine ⟨_, rfl, ?_⟩
        refine hK.out _ _ (blk_below hHeld hB8) (fun hHeld => ?_)
        clear hK K
        refine norm_ (a' := ?_) ?_ ?_
        rotate_left
        · show Act.put _ (some 71) _ = _
          simp only [Act.put, List.setIfInBounds_toArray, List.set_cons_zero, List.set_cons_succ, i64_w, i32_w]
          rfl
        have HS8 := Lib.hid (HS1.out.below hB8)
        replace hR8 := Lib.hid hR8
        clear HS1
        refine one_ (i := 13) (N := some 74) #[true, true, true, true, true, true, true, true, true, true, true, true, true, true, false, false] rfl rfl (by kernel_rfl) (by decide) (fun K hK => ?_)
        refine goes_ Try.func13 (by kernel_rfl) rfl #[.slice A8 m'.tr.length c8, .slice A2 r'.tr.length c2] (by rfl) rfl rfl (by (try simp only [List.map_toArray, List.map_cons, List.map_nil]); first | done | rfl) ?_
        with_reducible refine (sameO hR8.out HS8.out (by omega)).mono ?_
        rintro e w9 ⟨rfl, hB9⟩
        refine ⟨_, rfl, ?_⟩
        refine hK.out _ _ (blk_below hHeld hB9) (fun hHeld => ?_)
        clear hK K
        refine norm_ (a' := ?_) ?_ ?_
        rotate_left
        · show Act.put _ (some 74) _ = _
          simp only [Act.put, List.setIfInBounds_toArray, List.set_cons_zero, List.set_cons_succ, i64_w, i32_w]
          rfl
        have HS9 := Lib.hid (HS8.out.below hB9)
        clear HS8 hR8
        refine pure_ (i := 14) (N := some 75) (v := ?_) (a' := ?_) #[true, true, true, true, true, true, true, true, true, true, true, true, true, true, true, false] rfl rfl (by kernel_rfl) (fun _ _ _ h => h) (Or.inl ⟨by rfl, ?_⟩) ?_ ?_
        rotate_left
        · intro w'
          first | (go_simp; done) | (go_simp; with_reducible rfl) | (go_simp; rfl)
        rotate_left
        · simp only [Act.put, List.setIfInBounds_toArray, List.set_cons_zero, List.set_cons_succ, i64_w, i32_w]
          rfl
        refine pure_ (i := 15) (N := some 76) (v := ?_) (a' := ?_) #[true, true, true, true, true, true, true, true, true, true, true, true, true, true, true, true] rfl rfl (by kernel_rfl) (fun _ _ _ h => h) (Or.inl ⟨by rfl, ?_⟩) ?_ ?_
        rotate_left
        · intro w'
          first | (go_simp; done) | (go_simp; with_reducible rfl) | (go_simp; rfl)
        rotate_left
        · simp only [Act.put, List.setIfInBounds_toArray, List.set_cons_zero, List.set_cons_succ, i64_w, i32_w]
          rfl
        refine done_ (by kernel_rfl) ?_
        go_wp2_with fail
        go_roundw
        case rel => exact ⟨i + 1, m', r', _, _, _, _, by go_num, by omega, by omega, HS9⟩
        case measure => simp [intOf]; omega
      · have h1202 : ¬ (i : Int) < 120 := by omega
        have hlt2 : (i : Int) < (dl.length : Int) := by omega
        go_wp2_with fail
        refine (bitsO HS.out.mem).mono ?_
        rintro e w5 ⟨rfl, rfl⟩
        go_wp2_with fail
        go_ret
        exact ⟨rfl, HS.out.b⟩
    · have hlt2 : ¬ (i : Int) < (dl.length : Int) := by omega
      go_wp2_with fail
      refine (bitsO HS.out.mem).mono ?_
      rintro e w5 ⟨rfl, rfl⟩
      go_wp2_with fail
      go_ret
      exact ⟨rfl, HS.out.b⟩
theorem MemPlays (b : Int) (a : Option Addr) (len cap : Nat) (dl : List Od.Deed) (w : World) (hlen : len < 9223372036854775808) (hl : dl.length = len) (hc : Od.Cells w a dl) :
    Calls Try.prog 3 #[.int .i64 b, .slice a len cap] w fun e w' => e = .returned (.bool true) ∧ Below w.heap.size w w' := by
  subst hl
  by_cases h1 : b < 14
  · exact plays_bad b dl a cap w (.inl h1)
  · by_cases h2 : 22 < b
    · exact plays_bad b dl a cap w (.inr h2)
    · obtain ⟨n, rfl⟩ : ∃ n : Nat, b = (n : Int) := ⟨b.toNat, by omega⟩
      exact plays_ok n (by omega) (by omega) dl a cap w hlen hc
end Go.Proofs.Ytpkffpcdmglleaa.Pu
