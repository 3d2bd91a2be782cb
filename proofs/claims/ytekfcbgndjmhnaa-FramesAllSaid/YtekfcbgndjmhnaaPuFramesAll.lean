/- As many as are taken can be given, in any order; then all are free. No condition. -/
import Derived.Test.YtekfcbgndjmhnaaFa
import Derived.Test.YtekfcbgndjmhnaaFrS
import Derived.Test.YtekfcbgndjmhnaaWTab
set_option linter.unusedVariables false
set_option linter.unusedSimpArgs false
namespace Go.Proofs.Ytekfcbgndjmhnaa.Pu
open Go.RowKit Go.Maps Go.Proofs.Ytekfcbgndjmhnaa.FrP Go.Proofs.Ytekfcbgndjmhnaa.Fr Go.Proofs.YtekfcbgndjmhnaaW.PrintWords Go.Proofs.YtekfcbgndjmhnaaW.PrintLast Go.Proofs.YtekfcbgndjmhnaaW.PrintMore
theorem info30 : (Try.prog.info? 30).map (fun i => (i.zero, i.size, i.bytes)) = some (some (.int .u64 0), 1, 8) := by kernel_rfl
theorem l_at {wr : World} {base n c k : Nat} {ok : Nat → Prop} {A : Option Addr} {xs : List Int} (h : (Kd.int .u64).R 30 wr base ok (.slice A n c) xs) (hk : k < xs.length) :
    ∃ x, A = some x ∧ n = xs.length ∧ wr.cell? (x.add k) = some (.int .u64 (xs.getD k 0)) := by
  obtain ⟨A', c', e, hl, hC⟩ := Kd.R_reads h
  injection e with e1 e2 e3
  subst e1 e2 e3
  obtain ⟨ad, hA, hc⟩ := hC.2.2 (by omega)
  subst hA
  refine ⟨ad, rfl, rfl, ?_⟩
  obtain ⟨cs, h1, h2, h3⟩ := hc k (xs.getD k 0) (by rw [List.getD_eq_getElem?_getD, List.getElem?_eq_getElem hk]; rfl)
  have h4 : cs = [.int .u64 (xs.getD k 0)] := h2
  subst h4
  have := h3 0 _ rfl
  simpa [Kd.int, Kd.scalar] using this
theorem row_take {wr : World} {base n c k : Nat} {ok : Nat → Prop} {A : Option Addr} {xs : List Nat} (h : (Kd.int .u64).R 30 wr base ok (.slice A n c) (xs.map ad)) (hn : xs.length = n) (hk : k ≤ n) :
    ReadsRow ((Kd.int .u64).K wr) 1 wr A k ((xs.map ad).take k) := by
  obtain ⟨A', c', e, hl, hC⟩ := Kd.R_reads h
  injection e with e1 e2 e3
  subst e1 e2 e3
  have h2 := Kd.C_take (m := k) hC (by omega)
  rw [show ((xs.map ad).take k).length = k by rw [List.length_take]; omega] at h2
  exact h2
theorem row_drop {wr : World} {base n c k : Nat} {ok : Nat → Prop} {x : Addr} {xs : List Nat} (h : (Kd.int .u64).R 30 wr base ok (.slice (some x) n c) (xs.map ad)) (hn : xs.length = n) (hk : k + 1 ≤ n) :
    ReadsRow ((Kd.int .u64).K wr) 1 wr (if c = k + 1 then some x else some (x.add (k + 1))) (n - (k + 1)) ((xs.map ad).drop (k + 1)) := by
  obtain ⟨A', c', e, hl, hC⟩ := Kd.R_reads h
  injection e with e1 e2 e3
  subst e1 e3
  have h2 := Kd.C_drop (m := k + 1) (c := c) hC (by omega) hl
  rw [show ((xs.map ad).drop (k + 1)).length = n - (k + 1) by rw [List.length_drop]; omega] at h2
  rw [show (k + 1) * (Kd.int .u64).sz = k + 1 from Nat.mul_one _] at h2
  exact h2
set_option maxHeartbeats 4000000 in
set_option maxRecDepth 100000 in
theorem all_ (b : Int) (c : Nat) (a : Option Addr) (len cap : Nat) (w : World) (hb0 : 0 ≤ b) (hb1 : b < 256) (hbc : b % 16 = (c : Int)) (hc : c ≤ 15) (hlen : len < 9223372036854775808)
    (hcell : Hid (∀ wr : World, Below w.heap.size w wr → ∀ i : Nat, i < len → ∃ x v, a = some x ∧ wr.cell? (x.add i) = some (.int .u8 v) ∧ 0 ≤ v ∧ v < 256)) :
    Calls Try.prog 7 #[.int .u8 b, .slice a len cap] w fun e w' => e = .returned (.bool true) ∧ Below w.heap.size w w' := by
  go_enter Try.func7, Try.ntmps7
  go_wp2_with fail
  refine (awake_any w).mono ?_
  rintro e w1 ⟨rfl, B1⟩
  go_wp2_with fail
  refine (new_ok 16 w1 (by decide) (by decide)).mono ?_
  rintro e w2 ⟨rfl, F2, B2⟩
  replace F2 : FrAt w2 (w1.heap.size + 1) w1.heap.size (marks 15 0) := by rw [marks_zero]; exact F2
  have hm : w.heap.size ≤ w1.heap.size := B1.size
  have HB := Aside0.mk (below_step B1 B2)
  generalize w1.heap.size = m at *
  clear B1 B2
  have HF := Lib.hid F2
  clear F2
  go_wp2_with fail
  go_loopw [7, 8] (fun y z wr => ∃ i A cp, i ≤ c ∧ y = .slice A i cp ∧ z = .int .i64 (i : Int) ∧ Aside0 ((Kd.int .u64).R 30 wr w.heap.size (fun k => k ≠ m ∧ k ≠ m + 1) (.slice A i cp) ((List.range i).map ad)) ∧ Hid (FrAt wr (m + 1) m (marks 15 i)) ∧ Aside0 (Below w.heap.size w wr)) (fun _ z _ => c - (intOf z).toNat)
  case atStart => exact ⟨0, none, 0, by omega, rfl, rfl, ⟨Kd.R_nil _ _ _ _ _⟩, HF, HB⟩
  case round =>
    obtain ⟨i, A, cp, hi, rfl, rfl, HR, HFr, HBr⟩ := hrel
    clear HF HB
    by_cases hlt : i < c
    · have hlt2 : (i : Int) < (c : Int) := by omega
      have T1 := Lib.hid (take_some HFr.out i (by rw [marks_length]; omega) (marks_off (by omega) (by omega)) (fun j hj => marks_on (n := 15) (i := i) (by omega) (by omega)))
      rw [marks_set (by omega)] at T1
      go_wp2_with fail
      refine T1.out.mono ?_
      rintro e w4 ⟨rfl, F4, G4⟩
      have HB4 := Aside0.mk (Fr.step HBr.out G4 hm)
      have HR4 := Aside0.mk (Kd.R_grown HR.out G4 (fun k hk => by simpa using hk.1))
      have HF4 := Lib.hid F4
      clear HFr HBr HR G4 T1 F4
      have hl4 := HF4.out.lt
      go_wp2_with (((with_reducible refine gate_builtin (b := .append) (xs := #[.tmp 34, .tmp 36]) rfl ?_); at_builtin; refine Kd.R_append (Kd.int .u64) (w0 := w) w.heap.size rfl (.tmp 34) (.tmp 36) 48 30 (.int .u64 0) 8 rfl Try.underlying48 info30 rfl (by decide) (by omega) (.slice A i cp) ((List.range i).map ad) (ad i) [.int .u64 (ad i)] (fun k => k ≠ m ∧ k ≠ m + 1) (fun _ => False) rfl rfl rfl (fun _ hk => hk.elim) ?aF HR4.out HB4.out HB4.out.size ?aL ?_; (case aF => intro k hk; exact ⟨by omega, by omega⟩); (case aL => simp; omega); intro v5 w5 hR5 hB5 hg5 hn5))
      obtain ⟨A5, c5, rfl⟩ := Kd.R_slice hR5
      have he5 : (List.range i).map ad ++ [ad i] = (List.range (i + 1)).map ad := by rw [List.range_succ, List.map_append]; rfl
      rw [he5] at hR5 ⊢
      have he6 : ((List.range (i + 1)).map ad).length = i + 1 := by rw [List.length_map, List.length_range]
      rw [he6] at hR5 ⊢
      exact ⟨⟨i + 1, A5, c5, by omega, rfl, by go_num, ⟨hR5⟩, Lib.hid (HF4.out.kept hg5 (fun e => (HR4.out.1 _ e.symm).2 rfl) (fun e => (HR4.out.1 _ e.symm).1 rfl)), ⟨hB5⟩⟩, by simp [intOf]; omega⟩
    · obtain rfl : i = c := by omega
      have hlt2 : ¬ ((i : Int) < (i : Int)) := by omega
      clear hlt hi
      have hGv0 := gv_start hc
      have hlc : (List.range i).length = i := List.length_range
      generalize marks 15 i = S0 at *
      generalize List.range i = idx0 at *
      go_wp2_with fail
      clear hlt2
      go_loopw [7, 11] (fun y z wr => ∃ (j n : Nat) (idx : List Nat) (S : List Bool) (A : Option Addr) (cp : Nat), y = .slice A n cp ∧ idx.length = n ∧ z = .int .i64 (j : Int) ∧ j ≤ len ∧ Gv S idx ∧ n ≤ 15 ∧ Aside0 ((Kd.int .u64).R 30 wr w.heap.size (fun k => k ≠ m ∧ k ≠ m + 1) (.slice A n cp) (idx.map ad)) ∧ Hid (FrAt wr (m + 1) m S) ∧ Aside0 (Below w.heap.size w wr)) (fun _ z _ => len - (intOf z).toNat)
      case atStart => exact ⟨0, i, idx0, S0, A, cp, rfl, hlc, rfl, by omega, hGv0, hc, HR, HFr, HBr⟩
      case round =>
        clear HR HFr HBr hGv0 hlc
        obtain ⟨j, n, idx, S, A, cp, rfl, hn, rfl, hj, hGv, hn15, HR, HFr, HBr⟩ := hrel
        by_cases hjl : j < len
        · have hjl2 : (j : Int) < (len : Int) := by omega
          by_cases hn0 : 0 < n
          · have hn02 : (0 : Int) < (n : Int) := by omega
            obtain ⟨x0, v, rfl, hcv, hv0, hv1⟩ := hcell.out _ HBr.out j hjl
            have k1 := Int.emod_nonneg v (Int.ne_of_gt hn02)
            have k2 := Int.emod_lt_of_pos v hn02
            obtain ⟨k, hk⟩ : ∃ k : Nat, v % (n : Int) = (k : Int) := ⟨(v % (n : Int)).toNat, by omega⟩
            have hkn : k < n := by omega
            have hkn2 : (k : Int) < (n : Int) := by omega
            clear k1 k2
            obtain ⟨g1, g2⟩ := gv_at hGv (show k < idx.length by omega)
            have hGv3 := gv_give hGv (show k < idx.length by omega)
            obtain ⟨x, rfl, -, hc1⟩ := l_at HR.out (show k < (idx.map ad).length by rw [List.length_map]; omega)
            rw [ad_getD _ _ (show k < idx.length by omega)] at hc1
            have T1 := Lib.hid (give_ok HFr.out (idx.getD k 0) g1 g2)
            have tks := tk_set_same g1 false
            rw [show ((((idx.getD k 0 + 1) * 4096 : Nat)) : Int) = ((idx.getD k 0 : Nat) : Int) * 4096 + 4096 by omega] at T1
            have hg15 : idx.getD k 0 < 15 := by have := hGv.len; omega
            clear g1 g2 hGv
            generalize hgg : idx.getD k 0 = g at *
            generalize S.set g false = S2 at *
            go_wp2_with fail
            refine T1.out.mono ?_
            rintro e w4 ⟨rfl, F4, G4⟩
            have HB4 := Aside0.mk (Fr.step HBr.out G4 hm)
            have HR4 := Aside0.mk (Kd.R_grown HR.out G4 (fun k hk => by simpa using hk.1))
            have T2 := taken_any F4 ((g + 1) * 4096) (by omega)
            rw [tks, show ((((g + 1) * 4096 : Nat)) : Int) = (g : Int) * 4096 + 4096 by omega] at T2
            have T2 := Lib.hid T2
            have HF4 := Lib.hid F4
            clear HFr HBr HR G4 T1 F4 hc1 tks
            obtain ⟨x', e', -, hc1⟩ := l_at HR4.out (show k < (idx.map ad).length by rw [List.length_map]; omega)
            injection e' with e'
            subst e'
            rw [ad_getD _ _ (show k < idx.length by omega), hgg] at hc1
            go_wp2_with (first | (go_at_call 16; with_reducible refine T2.out.mono ?_; rintro e w' ⟨rfl, rfl⟩))
            clear T2 hc1 hcv hgg hg15 hk hv0 hv1
            obtain ⟨i0, hi0, _, hsz, _⟩ := info_parts info30
            have hcap : n ≤ cp := by
              obtain ⟨A', c', e, hl, _⟩ := Kd.R_reads HR4.out
              injection e with e1 e2 e3
              rw [List.length_map] at hl
              omega
            have hcut1 : ∀ W : World, (Instr.slice 48 (.slice (some x) n cp) none (some (.int .i64 (k : Int))) none).run Try.prog W = .ok (.slice (some x) k cp) W :=
              cut_to 48 30 .i64 Try.underlying48 hi0 (some x) n cp (k : Int) (by omega) (by omega) hcap
            have hcut2 : ∀ W : World, (Instr.slice 48 (.slice (some x) n cp) (some (.int .i64 ((k : Int) + 1))) none none).run Try.prog W = .ok (.slice (if cp = k + 1 then some x else some (x.add (k + 1))) (n - (k + 1)) (cp - (k + 1))) W := by
              intro W
              rw [cut_from 48 30 .i64 Try.underlying48 hi0 1 hsz (some x) n cp ((k : Int) + 1) (by omega) (by omega) W]
              rw [show ((k : Int) + 1).toNat = k + 1 by omega, Nat.mul_one]
              rfl
            clear hi0 hsz
            have hadd : IntKind.i64.wrap ((k : Int) + 1) = (k : Int) + 1 := by rw [IntKind.wrap_i64]; omega
            refine start_ (n := 11) (S := (fun W' => (FrAt W' (m + 1) m S2 ∧ Below w.heap.size w W') ∧ (Kd.int .u64).R 30 W' w.heap.size (fun k => k ≠ m ∧ k ≠ m + 1) (.slice (some x) n cp) (idx.map ad))) (ds := []) #[false, false, false, false, false, false, false, false, false, false, false] (by kernel_rfl) rfl rfl ⟨⟨HF4.out.below (below_drew (Below.refl _ _)), below_drew HB4.out⟩, Kd.R_drew HR4.out⟩ (fun hHeld => ?_)
            have hold : ∀ q, (Value.slice (some x) n cp).ownBlock = some q → q < w4.drew.heap.size := Kd.R_lt hHeld.2
            generalize w4.drew = W0 at *
            refine pure_ (i := 1) (N := some 73) (v := ?_) (a' := ?_) #[false, true, false, false, false, false, false, false, false, false, false] rfl rfl (by kernel_rfl) (fun _ _ _ h => h) (Or.inl ⟨by rfl, ?_⟩) ?_ ?_
            rotate_left
            · intro w'
              first | (go_simp; done) | (go_simp; with_reducible rfl)
            rotate_left
            · simp only [Act.put, List.setIfInBounds_toArray, List.set_cons_zero, List.set_cons_succ, i64_w, i32_w]
              rfl
            refine pure_ (i := 2) (N := some 74) (v := ?_) (a' := ?_) #[false, true, true, false, false, false, false, false, false, false, false] rfl rfl (by kernel_rfl) (fun _ _ _ h => h) (Or.inl ⟨by rfl, ?_⟩) ?_ ?_
            rotate_left
            · intro w'
              first | (go_simp; done) | (go_simp; with_reducible rfl)
            rotate_left
            · simp only [Act.put, List.setIfInBounds_toArray, List.set_cons_zero, List.set_cons_succ, i64_w, i32_w]
              rfl
            refine pure_ (i := 3) (N := some 75) (v := ?_) (a' := ?_) #[false, true, true, true, false, false, false, false, false, false, false] rfl rfl (by kernel_rfl) (fun _ _ _ h => h) (Or.inl ⟨by rfl, ?_⟩) ?_ ?_
            rotate_left
            · intro w'
              first | (go_simp; done) | (go_simp; with_reducible rfl) | (go_simp; rw [hcut1]; rfl) | (go_simp; simp only [hcut1]; rfl)
            rotate_left
            · simp only [Act.put, List.setIfInBounds_toArray, List.set_cons_zero, List.set_cons_succ, i64_w, i32_w]
              rfl
            refine pure_ (i := 5) (N := some 77) (v := ?_) (a' := ?_) #[false, true, true, true, false, true, false, false, false, false, false] rfl rfl (by kernel_rfl) (fun _ _ _ h => h) (Or.inl ⟨by rfl, ?_⟩) ?_ ?_
            rotate_left
            · intro w'
              first | (go_simp; done) | (go_simp; with_reducible rfl)
            rotate_left
            · simp only [Act.put, List.setIfInBounds_toArray, List.set_cons_zero, List.set_cons_succ, i64_w, i32_w]
              rfl
            refine pure_ (i := 6) (N := some 78) (v := ?_) (a' := ?_) #[false, true, true, true, false, true, true, false, false, false, false] rfl rfl (by kernel_rfl) (fun _ _ _ h => h) (Or.inl ⟨by rfl, ?_⟩) ?_ ?_
            rotate_left
            · intro w'
              first | (go_simp; done) | (go_simp; with_reducible rfl)
            rotate_left
            · simp only [Act.put, List.setIfInBounds_toArray, List.set_cons_zero, List.set_cons_succ, i64_w, i32_w]
              rfl
            refine pure_ (i := 7) (N := some 79) (v := ?_) (a' := ?_) #[false, true, true, true, false, true, true, true, false, false, false] rfl rfl (by kernel_rfl) (fun _ _ _ h => h) (Or.inl ⟨by rfl, ?_⟩) ?_ ?_
            rotate_left
            · intro w'
              go_simp; rfl
            rotate_left
            · simp only [Act.put, List.setIfInBounds_toArray, List.set_cons_zero, List.set_cons_succ, i64_w, i32_w]
              rfl
            refine pure_ (i := 8) (N := some 80) (v := ?_) (a' := ?_) #[false, true, true, true, false, true, true, true, true, false, false] rfl rfl (by kernel_rfl) (fun _ _ _ h => h) (Or.inl ⟨by rfl, ?_⟩) ?_ ?_
            rotate_left
            · intro w'
              go_simp; rfl
            rotate_left
            · simp only [Act.put, List.setIfInBounds_toArray, List.set_cons_zero, List.set_cons_succ, i64_w, i32_w]
              rfl
            refine one_ (i := 0) (N := some 72) #[true, true, true, true, false, true, true, true, true, false, false] rfl rfl (by kernel_rfl) (by decide) (fun K hK => ?_)
            refine Kd.R_lit_step (Kd.int .u64) w.heap.size 30 (by rfl) (N := 72) rfl (xs := []) (inner := []) (ok := (fun k => k ≠ m ∧ k ≠ m + 1)) (okp := fun _ => False) ?hr (Reps.none _ _) (fun _ hk => hk.elim) ?hf hHeld.1.2 hHeld.1.2.size (by simp) ?_
            (case hr => first | (go_simp; done) | (go_simp; rfl))
            (case hf => have := hHeld.1.1.lt; exact ⟨by omega, by omega⟩)
            intro v5 w5 hR5 hB5 hg5 hn5
            obtain ⟨b5, hb5, hb5l⟩ := hn5
            have hs5 := hg5.size
            refine hK.out _ _ ⟨⟨hHeld.1.1.kept hg5 (by simp) (by simp), hB5⟩, Kd.R_grown hHeld.2 hg5 (by simp)⟩ (fun hHeld => ?_)
            clear hK K
            refine norm_ (a' := ?_) ?_ ?_
            rotate_left
            · show Act.put _ (some 72) _ = _
              simp only [Act.put, List.setIfInBounds_toArray, List.set_cons_zero, List.set_cons_succ, i64_w, i32_w]
              rfl
            refine one_ (i := 4) (N := some 76) #[true, true, true, true, true, true, true, true, true, false, false] rfl rfl (by kernel_rfl) (by decide) (fun K hK => ?_)
            refine Kd.R_append_rows_step (Kd.int .u64) (Rr := (Kd.int .u64).K w5) (w0 := w) w.heap.size (by rfl) (.tmp 72) (.tmp 75) 48 30 (.int .u64 0) 8 rfl Try.underlying48 info30 rfl (by decide) (by omega) v5 [] ((idx.map ad).take k) (some x) k cp (fun k => k ≠ m ∧ k ≠ m + 1) (fun _ => False) rfl rfl hR5 ?aR (fun _ _ h => h) (fun _ h => h.elim) ?aF hHeld.1.2 hHeld.1.2.size ?aL ?_
            (case aR => exact row_take hHeld.2 hn (by omega))
            (case aF => intro k hk; have := hHeld.1.1.lt; exact ⟨by omega, by omega⟩)
            (case aL => simp; omega)
            intro v6 w6 hR6 hB6 hg6 hn6
            have hne5 : v5.ownBlock ≠ (Value.slice (some x) n cp).ownBlock := by
              intro e
              have := hold _ (e.symm.trans hb5)
              omega
            obtain ⟨b6, hb6, hb6l⟩ : ∃ b, v6.ownBlock = some b ∧ W0.heap.size ≤ b := by
              rcases hn6 with h | ⟨b, h1, h2⟩
              · exact ⟨b5, h.trans hb5, hb5l⟩
              · exact ⟨b, h1, by omega⟩
            have hne6 : v6.ownBlock ≠ (Value.slice (some x) n cp).ownBlock := by
              intro e
              have := hold _ (e.symm.trans hb6)
              omega
            refine hK.out _ _ ⟨⟨hHeld.1.1.kept hg6 (fun e => (hR5.1 _ e.symm).2 rfl) (fun e => (hR5.1 _ e.symm).1 rfl), hB6⟩, Kd.R_grown1 hHeld.2 rfl hg6 hne5⟩ (fun hHeld => ?_)
            clear hK K
            refine norm_ (a' := ?_) ?_ ?_
            rotate_left
            · show Act.put _ (some 76) _ = _
              simp only [Act.put, List.setIfInBounds_toArray, List.set_cons_zero, List.set_cons_succ, i64_w, i32_w]
              rfl
            refine one_ (i := 9) (N := some 81) #[true, true, true, true, true, true, true, true, true, true, false] rfl rfl (by kernel_rfl) (by decide) (fun K hK => ?_)
            refine Kd.R_append_rows_step (Kd.int .u64) (Rr := (Kd.int .u64).K w6) (w0 := w) w.heap.size (by rfl) (.tmp 76) (.tmp 80) 48 30 (.int .u64 0) 8 rfl Try.underlying48 info30 rfl (by decide) (by omega) v6 ([] ++ (idx.map ad).take k) ((idx.map ad).drop (k + 1)) (if cp = k + 1 then some x else some (x.add (k + 1))) (n - (k + 1)) (cp - (k + 1)) (fun k => k ≠ m ∧ k ≠ m + 1) (fun _ => False) rfl rfl hR6 ?aR (fun _ _ h => h) (fun _ h => h.elim) ?aF hHeld.1.2 hHeld.1.2.size ?aL ?_
            (case aR => exact row_drop hHeld.2 hn (by omega))
            (case aF => intro k hk; have := hHeld.1.1.lt; exact ⟨by omega, by omega⟩)
            (case aL => simp; omega)
            intro v7 w7 hR7 hB7 hg7 hn7

            refine hK.out _ _ ⟨⟨hHeld.1.1.kept hg7 (fun e => (hR6.1 _ e.symm).2 rfl) (fun e => (hR6.1 _ e.symm).1 rfl), hB7⟩, Kd.R_grown1 hHeld.2 rfl hg7 hne6⟩ (fun hHeld => ?_)
            clear hK K
            refine norm_ (a' := ?_) ?_ ?_
            rotate_left
            · show Act.put _ (some 81) _ = _
              simp only [Act.put, List.setIfInBounds_toArray, List.set_cons_zero, List.set_cons_succ, i64_w, i32_w]
              rfl
            have he7 : [] ++ (idx.map ad).take k ++ (idx.map ad).drop (k + 1) = (idx.take k ++ idx.drop (k + 1)).map ad := by
              rw [List.nil_append, List.map_append, List.map_take, List.map_drop]
            rw [he7] at hR7
            obtain ⟨A7, c7, rfl⟩ := Kd.R_slice hR7
            rw [List.length_map] at hR7
            refine pure_ (i := 10) (N := some 7) (v := ?_) (a' := ?_) #[true, true, true, true, true, true, true, true, true, true, true] rfl rfl (by kernel_rfl) (fun _ _ _ h => h) (Or.inl ⟨by rfl, ?_⟩) ?_ ?_
            rotate_left
            · intro w'
              first | (go_simp; done) | (go_simp; with_reducible rfl)
            rotate_left
            · simp only [Act.put, List.setIfInBounds_toArray, List.set_cons_zero, List.set_cons_succ, i64_w, i32_w]
              rfl
            refine done_ (by kernel_rfl) ?_
            go_wp2_with fail
            go_roundw
            case rel => exact ⟨j + 1, (idx.take k ++ idx.drop (k + 1)).length, _, S2, A7, c7, by rw [List.length_append, List.length_take, List.length_drop, hn], rfl, by go_num, by omega, hGv3, by rw [List.length_append, List.length_take, List.length_drop]; omega, ⟨hR7⟩, Lib.hid hHeld.1.1, ⟨hHeld.1.2⟩⟩
            case measure => simp [intOf]; omega
          · have hn02 : ¬ ((0 : Int) < (n : Int)) := by omega
            clear hjl hcell
            go_wp2_with fail
            go_loopw [13] (fun z wr => ∃ (i : Nat) (S' : List Bool), z = .int .i64 (i : Int) ∧ i ≤ n ∧ Gv S' (idx.drop i) ∧ Aside0 ((Kd.int .u64).R 30 wr w.heap.size (fun k => k ≠ m ∧ k ≠ m + 1) (.slice A n cp) (idx.map ad)) ∧ Hid (FrAt wr (m + 1) m S') ∧ Aside0 (Below w.heap.size w wr)) (fun z _ => n - (intOf z).toNat)
            case atStart => exact ⟨0, S, rfl, by omega, hGv, HR, HFr, HBr⟩
            case round =>
              clear HR HFr HBr hGv
              obtain ⟨i, S', rfl, hi, hGv, HR, HFr, HBr⟩ := hrel
              by_cases hlt : i < n
              · have hlt2 : (i : Int) < (n : Int) := by omega
                obtain ⟨g1, g2, hGv3⟩ := gv_drop hGv (show i < idx.length by omega)
                obtain ⟨x, rfl, -, hc1⟩ := l_at HR.out (show i < (idx.map ad).length by rw [List.length_map]; omega)
                rw [ad_getD _ _ (show i < idx.length by omega)] at hc1
                have T1 := Lib.hid (give_ok HFr.out (idx.getD i 0) g1 g2)
                rw [show ((((idx.getD i 0 + 1) * 4096 : Nat)) : Int) = ((idx.getD i 0 : Nat) : Int) * 4096 + 4096 by omega] at T1
                clear g1 g2 hGv
                generalize idx.getD i 0 = g at *
                go_wp2_with fail
                refine T1.out.mono ?_
                rintro e w4 ⟨rfl, F4, G4⟩
                have HB4 := Aside0.mk (Fr.step HBr.out G4 hm)
                have HR4 := Aside0.mk (Kd.R_grown HR.out G4 (fun k hk => by simpa using hk.1))
                have HF4 := Lib.hid F4
                clear HFr HBr HR G4 T1 F4 hc1
                go_wp2_with fail
                go_roundw
                case rel => exact ⟨i + 1, _, by go_num, by omega, hGv3, HR4, HF4, HB4⟩
                case measure => simp [intOf]; omega
              · obtain rfl : i = n := by omega
                have hlt2 : ¬ ((i : Int) < (i : Int)) := by omega
                rw [show idx.drop i = [] from List.drop_eq_nil_of_le (by omega)] at hGv
                obtain ⟨q1, q2⟩ := gv_none hGv
                have q3 := hGv.len
                have e2 := count_set_true (S := S') (i := 0) (by omega) q2
                have T1 := Lib.hid (take_some HFr.out 0 (by omega) q2 (fun j hj => by omega))
                have e3 : (S'.set 0 true).count true = 1 := by omega
                have e4 : (S'.set 0 true).length = 15 := by rw [List.length_set, q3]
                clear e2 q1 q2 q3 hGv hlt HR
                generalize S'.set 0 true = S3 at *
                go_wp2_with fail
                refine T1.out.mono ?_
                rintro e w4 ⟨rfl, F4, G4⟩
                have HB4 := Aside0.mk (Fr.step HBr.out G4 hm)
                have T2 := free_any F4
                have T3 := room_any F4
                rw [e3, e4] at T2
                rw [e4] at T3
                have T2 := Lib.hid T2
                have T3 := fun nd => Lib.hid ((room_any (F4.drewN nd)))
                rw [e4] at T3
                clear HFr HBr G4 T1 F4
                go_wp2_with (first | (go_at_call 18; with_reducible refine T2.out.mono ?_; rintro e w' ⟨rfl, ⟨nd, rfl⟩⟩) | (go_at_call 20; with_reducible refine (T3 _).out.mono ?_; rintro e w' ⟨rfl, rfl⟩))
                go_ret
                exact ⟨rfl, pw_below_drewN HB4.out _⟩
        · have hjl2 : ¬ ((j : Int) < (len : Int)) := by omega
          clear hcell
          go_wp2_with fail
          go_loopw [13] (fun z wr => ∃ (i : Nat) (S' : List Bool), z = .int .i64 (i : Int) ∧ i ≤ n ∧ Gv S' (idx.drop i) ∧ Aside0 ((Kd.int .u64).R 30 wr w.heap.size (fun k => k ≠ m ∧ k ≠ m + 1) (.slice A n cp) (idx.map ad)) ∧ Hid (FrAt wr (m + 1) m S') ∧ Aside0 (Below w.heap.size w wr)) (fun z _ => n - (intOf z).toNat)
          case atStart => exact ⟨0, S, rfl, by omega, hGv, HR, HFr, HBr⟩
          case round =>
            clear HR HFr HBr hGv
            obtain ⟨i, S', rfl, hi, hGv, HR, HFr, HBr⟩ := hrel
            by_cases hlt : i < n
            · have hlt2 : (i : Int) < (n : Int) := by omega
              obtain ⟨g1, g2, hGv3⟩ := gv_drop hGv (show i < idx.length by omega)
              obtain ⟨x, rfl, -, hc1⟩ := l_at HR.out (show i < (idx.map ad).length by rw [List.length_map]; omega)
              rw [ad_getD _ _ (show i < idx.length by omega)] at hc1
              have T1 := Lib.hid (give_ok HFr.out (idx.getD i 0) g1 g2)
              rw [show ((((idx.getD i 0 + 1) * 4096 : Nat)) : Int) = ((idx.getD i 0 : Nat) : Int) * 4096 + 4096 by omega] at T1
              clear g1 g2 hGv
              generalize idx.getD i 0 = g at *
              go_wp2_with fail
              refine T1.out.mono ?_
              rintro e w4 ⟨rfl, F4, G4⟩
              have HB4 := Aside0.mk (Fr.step HBr.out G4 hm)
              have HR4 := Aside0.mk (Kd.R_grown HR.out G4 (fun k hk => by simpa using hk.1))
              have HF4 := Lib.hid F4
              clear HFr HBr HR G4 T1 F4 hc1
              go_wp2_with fail
              go_roundw
              case rel => exact ⟨i + 1, _, by go_num, by omega, hGv3, HR4, HF4, HB4⟩
              case measure => simp [intOf]; omega
            · obtain rfl : i = n := by omega
              have hlt2 : ¬ ((i : Int) < (i : Int)) := by omega
              rw [show idx.drop i = [] from List.drop_eq_nil_of_le (by omega)] at hGv
              obtain ⟨q1, q2⟩ := gv_none hGv
              have q3 := hGv.len
              have e2 := count_set_true (S := S') (i := 0) (by omega) q2
              have T1 := Lib.hid (take_some HFr.out 0 (by omega) q2 (fun j hj => by omega))
              have e3 : (S'.set 0 true).count true = 1 := by omega
              have e4 : (S'.set 0 true).length = 15 := by rw [List.length_set, q3]
              clear e2 q1 q2 q3 hGv hlt HR
              generalize S'.set 0 true = S3 at *
              go_wp2_with fail
              refine T1.out.mono ?_
              rintro e w4 ⟨rfl, F4, G4⟩
              have HB4 := Aside0.mk (Fr.step HBr.out G4 hm)
              have T2 := free_any F4
              have T3 := room_any F4
              rw [e3, e4] at T2
              rw [e4] at T3
              have T2 := Lib.hid T2
              have T3 := fun nd => Lib.hid ((room_any (F4.drewN nd)))
              rw [e4] at T3
              clear HFr HBr G4 T1 F4
              go_wp2_with (first | (go_at_call 18; with_reducible refine T2.out.mono ?_; rintro e w' ⟨rfl, ⟨nd, rfl⟩⟩) | (go_at_call 20; with_reducible refine (T3 _).out.mono ?_; rintro e w' ⟨rfl, rfl⟩))
              go_ret
              exact ⟨rfl, pw_below_drewN HB4.out _⟩
theorem FramesAll (b : Int) (a : Option Addr) (len cap : Nat) (zs : List Int) (w : World) (wb : (Lit.int .u8 b).wf = true)
    (hrow : (a = none ∧ len = 0 ∧ cap = 0 ∧ zs = []) ∨ ∃ x, a = some x ∧ len ≤ cap ∧ cap ≤ maxLen ∧ zs.length = cap ∧ (∀ i, i < zs.length → w.cell? (x.add i) = some (.int .u8 (zs.getD i 0))) ∧ ∀ n ∈ zs, (Lit.int .u8 n).wf = true) (hy : len * 1 ≤ 140737488351232) :
    Calls Try.prog 7 #[.int .u8 b, .slice a len cap] w fun e w' => e = .returned (.bool true) ∧ Below w.heap.size w w' := by
  obtain ⟨h0, h1⟩ := u8_lit wb
  obtain ⟨c, hc⟩ : ∃ c : Nat, b % 16 = (c : Int) := ⟨(b % 16).toNat, by omega⟩
  refine all_ b c a len cap w h0 h1 hc (by omega) (by omega) (Lib.hid fun wr hb i hi => ?_)
  rcases hrow with ⟨_, rfl, _⟩ | ⟨x, rfl, h1, h2, h3, h4, h5⟩
  · omega
  · have hi2 : i < zs.length := by omega
    refine ⟨x, zs.getD i 0, rfl, (hb.cell (World.block_lt_of_cell? w _ (h4 i hi2))).trans (h4 i hi2), ?_⟩
    exact u8_lit (h5 (zs.getD i 0) (by rw [List.getD_eq_getElem?_getD, List.getElem?_eq_getElem hi2]; exact List.getElem_mem hi2))
end Go.Proofs.Ytekfcbgndjmhnaa.Pu
