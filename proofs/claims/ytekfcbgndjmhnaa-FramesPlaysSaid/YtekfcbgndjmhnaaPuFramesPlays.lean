/- Whatever is taken and given: frames and the document's answers. No condition. -/
import Derived.Test.YtekfcbgndjmhnaaRg
set_option linter.unusedVariables false
set_option linter.unusedSimpArgs false
namespace Go.Proofs.Ytekfcbgndjmhnaa.Pu
open Go.RowKit Go.Maps Go.Proofs.Ytekfcbgndjmhnaa.FrP Go.Proofs.Ytekfcbgndjmhnaa.Fr Go.Proofs.YtekfcbgndjmhnaaW.PrintWords Go.Proofs.YtekfcbgndjmhnaaW.PrintLast Go.Proofs.YtekfcbgndjmhnaaW.PrintMore
set_option maxHeartbeats 8000000 in
set_option maxRecDepth 100000 in
theorem plays14 (b : Int) (a : Option Addr) (len cap : Nat) (w : World) (hb0 : 0 ≤ b) (hb1 : b < 256) (hbc : b % 3 = 0) (hlen : len < 9223372036854775808)
    (hcell : Hid (∀ wr : World, Below w.heap.size w wr → ∀ i : Nat, i < len → ∃ x v, a = some x ∧ wr.cell? (x.add i) = some (.int .i64 v) ∧ -9223372036854775808 ≤ v ∧ v < 9223372036854775808)) :
    Calls Try.prog 3 #[.int .u8 b, .slice a len cap] w fun e w' => e = .returned (.bool true) ∧ Below w.heap.size w w' := by
  go_enter Try.func3, Try.ntmps3
  go_wp2_with fail
  refine (awake_any w).mono ?_
  rintro e w1 ⟨rfl, B1⟩
  go_wp2_with fail
  refine (new_ok 14 w1 (by decide) (by decide)).mono ?_
  rintro e w2 ⟨rfl, F2, B2⟩
  replace F2 : FrAt w2 (w1.heap.size + 1) w1.heap.size (List.replicate 3 false) := F2
  have hm : w.heap.size ≤ w1.heap.size := B1.size
  have HB := below_step B1 B2
  generalize w1.heap.size = m at *
  clear B1 B2
  go_wp2_with fail
  refine (Fn.dormerref22_New.calls 20 14 _ w2 (Rf.new_val 14 (by decide) (by decide))).mono ?_
  rintro e w3 ⟨v, rfl, hR, hB⟩
  replace hR : Kd.R Kd.bool 4 w3 w2.heap.size (fun _ => True) v (List.replicate 3 false) := hR
  obtain ⟨A, c, rfl⟩ := Kd.R_slice hR
  have hl := F2.lt
  have hl3 := hB.size
  have hR6 : Kd.R Kd.bool 4 w3 w.heap.size (fun q => q ≠ m ∧ q ≠ w3.heap.size) (.slice A 3 c) (List.replicate 3 false) := by
    refine Kd.R_mono (Kd.R_lower (Kd.R_bound hR) (by omega)) ?_
    intro q hq
    have := hq.2.1
    have := hq.2.2.1
    exact ⟨by omega, by omega⟩
  have HP : Pl w (w3.alloc (.cells #[.slice A 3 c] 28)) m w3.heap.size (List.replicate 3 false) A c :=
    ⟨(F2.below hB).below (below_alloc (Below.refl _ _) _), blk_new w3 _, Kd.R_alloc hR6 _, below_alloc (below_step HB hB) _, by omega, hm⟩
  have HP := Lib.hid HP
  clear hR hR6 HB F2
  generalize hX : w3.heap.size = X at *
  go_wp2_with fail
  go_loopw [9] (fun y wr => ∃ (i : Nat) (S : List Bool) (A : Option Addr) (c : Nat), y = .int .i64 (i : Int) ∧ i ≤ len ∧ S.length = 3 ∧ Hid (Pl w wr m X S A c)) (fun y _ => 100 - (intOf y).toNat)
  case atStart => exact ⟨0, _, A, c, rfl, by omega, by simp, HP⟩
  case round =>
    clear HP hB hl hl3 hX
    obtain ⟨i, S, A, c, rfl, hi, hS, HP⟩ := hrel
    have hS15 : S.length ≤ 15 := by omega
    replace hS := Lib.hid hS
    by_cases hlt : i < len
    · by_cases h100 : i < 100
      · have hlt2 : (i : Int) < (len : Int) := by omega
        have h1002 : (i : Int) < 100 := by omega
        obtain ⟨x, v, rfl, hc, hv1, hv2⟩ := hcell.out _ HP.out.b i hlt
        by_cases hv : v < 0
        · go_wp2_with fail
          rcases lowest S with ⟨k, hk1, hk2, hk3⟩ | hk
          · refine (take_some HP.out.fr k hk1 hk2 hk3).mono ?_
            rintro e w4 ⟨rfl, F4, G4⟩
            have hx4 := blk_grown HP.out.x G4 (by have := HP.out.ne; simp; omega)
            have hcx : w4.cell? ⟨X, 0, none⟩ = some (.slice A S.length c) := (blk_cell hx4 0).trans rfl
            have hR4 := Kd.R_grown HP.out.r G4 (fun q hq => by simpa using hq.1)
            obtain ⟨A2, c2, e2, hl2, hC2⟩ := Kd.R_reads hR4
            injection e2 with e1 e2 e3
            subst e1 e3
            have T1 := Lib.hid (Rf.take_some S A c w4 hC2 hl2 (by omega) k hk1 hk2 hk3)
            have ek : (((k + 1) * 4096 : Nat) : Int) = ((k : Int) + 1) * 4096 := by omega
            rw [ek] at T1 ⊢
            clear ek hR4 hC2 hl2 hc
            go_wp2_with fail
            refine T1.out.mono ?_
            rintro e w5 ⟨v5, rfl, hR5, hB5⟩
            have hx5 := blk_below hx4 hB5
            have hcx5 : w5.cell? ⟨X, 0, none⟩ = some (.slice A S.length c) := (blk_cell hx5 0).trans rfl
            have hfx5 := blk_frozen hx5 0
            obtain ⟨A', c', rfl⟩ := Kd.R_slice hR5
            have hlS : (S.set k true).length = S.length := List.length_set
            have hx6 := blk_alloc hx5 (.cells #[.slice A' (S.set k true).length c'] 28)
            have hcx6 : (w5.alloc (.cells #[.slice A' (S.set k true).length c'] 28)).cell? ⟨X, 0, none⟩ = some (.slice A S.length c) := (blk_cell hx6 0).trans rfl
            have hfx6 := blk_frozen hx6 0
            have HPn := Lib.hid (fun W hW => Pl.next (W := W) HP.out G4 F4 hB5 hR5 (.cells #[.slice A' (S.set k true).length c'] 28) hW)
            have hS' := Lib.hid (show (S.set k true).length = 3 by rw [hlS, hS.out])
            have hS15' : (S.set k true).length ≤ 15 := by omega
            clear hx4 hcx T1 hR5 hx5 hx6 hcx5 hfx5 hlS F4 G4 hB5 hk1 hk2 hk3 HP
            generalize S.set k true = S' at *
            go_wp2_with fail
            have HP := Lib.hid (HPn.out _ rfl)
            clear HPn hcx6 hfx6
            generalize (w5.alloc (.cells #[.slice A' S'.length c'] 28)).setCell ⟨X, 0, none⟩ (.slice A' S'.length c') = W at *
            refine start_ (n := 5) (S := (fun W' => Pl w W' m X S' A' c')) (ds := []) #[false, false, false, false, false] (by kernel_rfl) rfl rfl HP.out.drew (fun hHeld => ?_)
            clear HP
            generalize World.drew W = W1 at *
            refine pure_ (i := 0) (N := some 92) (v := ?_) (a' := ?_) #[true, false, false, false, false] rfl rfl (by kernel_rfl) (fun _ _ _ h => h) (Or.inl ⟨by rfl, ?_⟩) ?_ ?_
            rotate_left
            · intro w'
              first | (go_simp; done) | (go_simp; with_reducible rfl)
            rotate_left
            · simp only [Act.put, List.setIfInBounds_toArray, List.set_cons_zero, List.set_cons_succ, i64_w, i32_w]
              rfl
            refine take_ (i := 2) (N := some 94) (v := ?_) (a' := ?_) #[true, false, true, false, false] rfl rfl (by kernel_rfl) (fun _ _ _ h => h) (Or.inl ⟨by rfl, ?_⟩) hHeld ?_ ?_
            rotate_left
            · intro w' hSw
              (try dsimp only at hSw)
              have hcx := hSw.cell
              first | (go_simp; done) | (go_simp; with_reducible rfl) | (go_simp; rfl)
            rotate_left
            · simp only [Act.put, List.setIfInBounds_toArray, List.set_cons_zero, List.set_cons_succ, i64_w, i32_w]
              rfl
            refine one_ (i := 1) (N := some 93) #[true, true, true, false, false] rfl rfl (by kernel_rfl) (by decide) (fun K hK => ?_)
            refine goes_ Try.func18 (by kernel_rfl) rfl #[.pointer (some ⟨m + 1, 0, none⟩)] (by rfl) rfl rfl (by (try simp only [List.map_toArray, List.map_cons, List.map_nil]); first | done | rfl) ?_
            with_reducible refine (free_any hHeld.fr).mono ?_
            rintro e w8 ⟨rfl, ⟨nd, rfl⟩⟩
            refine ⟨_, rfl, ?_⟩
            refine hK.out _ _ (hHeld.drewN nd) (fun hHeld => ?_)
            clear hK K
            refine norm_ (a' := ?_) ?_ ?_
            rotate_left
            · show Act.put _ (some 93) _ = _
              simp only [Act.put, List.setIfInBounds_toArray, List.set_cons_zero, List.set_cons_succ, i64_w, i32_w]
              rfl
            refine one_ (i := 3) (N := some 95) #[true, true, true, true, false] rfl rfl (by kernel_rfl) (by decide) (fun K hK => ?_)
            refine goes_ Try.func19 (by kernel_rfl) rfl #[.agg #[.slice A' S'.length c']] (by rfl) rfl rfl (by (try simp only [List.map_toArray, List.map_cons, List.map_nil]); first | done | rfl) ?_
            with_reducible refine (Fn.dormerref22_Free.calls (S'.length + 1) A' c' S' _ _ hHeld.C.1 hHeld.C.2 (Rf.free_val S' (by omega))).mono ?_
            rintro e w9 ⟨rfl, hb9⟩
            refine ⟨_, rfl, ?_⟩
            refine hK.out _ _ (hHeld.below hb9) (fun hHeld => ?_)
            clear hK K
            refine norm_ (a' := ?_) ?_ ?_
            rotate_left
            · show Act.put _ (some 95) _ = _
              simp only [Act.put, List.setIfInBounds_toArray, List.set_cons_zero, List.set_cons_succ, i64_w, i32_w]
              rfl
            refine pure_ (i := 4) (N := some 96) (v := ?_) (a' := ?_) #[true, true, true, true, true] rfl rfl (by kernel_rfl) (fun _ _ _ h => h) (Or.inl ⟨by rfl, ?_⟩) ?_ ?_
            rotate_left
            · intro w'
              go_simp; rfl
            rotate_left
            · simp only [Act.put, List.setIfInBounds_toArray, List.set_cons_zero, List.set_cons_succ, i64_w, i32_w]
              rfl
            refine done_ (by kernel_rfl) ?_
            try go_wp2_with fail
            go_roundw
            case rel => exact ⟨i + 1, S', A', c', by go_num, by omega, hS'.out, Lib.hid hHeld⟩
            case measure => simp [intOf]; omega
          · refine (take_none HP.out.fr hk).mono ?_
            rintro e w4 ⟨rfl, rfl⟩
            have hcx := HP.out.cell
            have T1 := Lib.hid (Rf.take_none S A c wr HP.out.C.1 HP.out.C.2 (by omega) hk)
            clear hc hk
            go_wp2_with fail
            refine T1.out.mono ?_
            rintro e w5 ⟨rfl, hB5⟩
            have hx6 := blk_alloc (blk_below HP.out.x hB5) (.cells #[.slice A S.length c] 28)
            have hcx6 : (w5.alloc (.cells #[.slice A S.length c] 28)).cell? ⟨X, 0, none⟩ = some (.slice A S.length c) := (blk_cell hx6 0).trans rfl
            have hfx6 := blk_frozen hx6 0
            have HPn := Lib.hid (fun W hW => Pl.same (W := W) HP.out hB5 (.cells #[.slice A S.length c] 28) hW)
            clear hcx T1 hx6 hB5 HP
            go_wp2_with fail
            have HP := Lib.hid (HPn.out _ rfl)
            clear HPn hcx6 hfx6
            generalize (w5.alloc (.cells #[.slice A S.length c] 28)).setCell ⟨X, 0, none⟩ (.slice A S.length c) = W at *
            have hS' := hS
            have hS15' := hS15
            clear hS hS15
            revert HP hS' hS15'
            generalize S = S', A = A', c = c'
            intro HP hS' hS15'
            refine start_ (n := 5) (S := (fun W' => Pl w W' m X S' A' c')) (ds := []) #[false, false, false, false, false] (by kernel_rfl) rfl rfl HP.out.drew (fun hHeld => ?_)
            clear HP
            generalize World.drew W = W1 at *
            refine pure_ (i := 0) (N := some 92) (v := ?_) (a' := ?_) #[true, false, false, false, false] rfl rfl (by kernel_rfl) (fun _ _ _ h => h) (Or.inl ⟨by rfl, ?_⟩) ?_ ?_
            rotate_left
            · intro w'
              first | (go_simp; done) | (go_simp; with_reducible rfl)
            rotate_left
            · simp only [Act.put, List.setIfInBounds_toArray, List.set_cons_zero, List.set_cons_succ, i64_w, i32_w]
              rfl
            refine take_ (i := 2) (N := some 94) (v := ?_) (a' := ?_) #[true, false, true, false, false] rfl rfl (by kernel_rfl) (fun _ _ _ h => h) (Or.inl ⟨by rfl, ?_⟩) hHeld ?_ ?_
            rotate_left
            · intro w' hSw
              (try dsimp only at hSw)
              have hcx := hSw.cell
              first | (go_simp; done) | (go_simp; with_reducible rfl) | (go_simp; rfl)
            rotate_left
            · simp only [Act.put, List.setIfInBounds_toArray, List.set_cons_zero, List.set_cons_succ, i64_w, i32_w]
              rfl
            refine one_ (i := 1) (N := some 93) #[true, true, true, false, false] rfl rfl (by kernel_rfl) (by decide) (fun K hK => ?_)
            refine goes_ Try.func18 (by kernel_rfl) rfl #[.pointer (some ⟨m + 1, 0, none⟩)] (by rfl) rfl rfl (by (try simp only [List.map_toArray, List.map_cons, List.map_nil]); first | done | rfl) ?_
            with_reducible refine (free_any hHeld.fr).mono ?_
            rintro e w8 ⟨rfl, ⟨nd, rfl⟩⟩
            refine ⟨_, rfl, ?_⟩
            refine hK.out _ _ (hHeld.drewN nd) (fun hHeld => ?_)
            clear hK K
            refine norm_ (a' := ?_) ?_ ?_
            rotate_left
            · show Act.put _ (some 93) _ = _
              simp only [Act.put, List.setIfInBounds_toArray, List.set_cons_zero, List.set_cons_succ, i64_w, i32_w]
              rfl
            refine one_ (i := 3) (N := some 95) #[true, true, true, true, false] rfl rfl (by kernel_rfl) (by decide) (fun K hK => ?_)
            refine goes_ Try.func19 (by kernel_rfl) rfl #[.agg #[.slice A' S'.length c']] (by rfl) rfl rfl (by (try simp only [List.map_toArray, List.map_cons, List.map_nil]); first | done | rfl) ?_
            with_reducible refine (Fn.dormerref22_Free.calls (S'.length + 1) A' c' S' _ _ hHeld.C.1 hHeld.C.2 (Rf.free_val S' (by omega))).mono ?_
            rintro e w9 ⟨rfl, hb9⟩
            refine ⟨_, rfl, ?_⟩
            refine hK.out _ _ (hHeld.below hb9) (fun hHeld => ?_)
            clear hK K
            refine norm_ (a' := ?_) ?_ ?_
            rotate_left
            · show Act.put _ (some 95) _ = _
              simp only [Act.put, List.setIfInBounds_toArray, List.set_cons_zero, List.set_cons_succ, i64_w, i32_w]
              rfl
            refine pure_ (i := 4) (N := some 96) (v := ?_) (a' := ?_) #[true, true, true, true, true] rfl rfl (by kernel_rfl) (fun _ _ _ h => h) (Or.inl ⟨by rfl, ?_⟩) ?_ ?_
            rotate_left
            · intro w'
              go_simp; rfl
            rotate_left
            · simp only [Act.put, List.setIfInBounds_toArray, List.set_cons_zero, List.set_cons_succ, i64_w, i32_w]
              rfl
            refine done_ (by kernel_rfl) ?_
            try go_wp2_with fail
            go_roundw
            case rel => exact ⟨i + 1, S', A', c', by go_num, by omega, hS'.out, Lib.hid hHeld⟩
            case measure => simp [intOf]; omega
        · obtain ⟨q, rfl⟩ : ∃ q : Nat, v = (q : Int) := ⟨v.toNat, by omega⟩
          have hq : q < 18446744073709551616 := by omega
          go_wp2_with fail
          cases ho : tk S q with
          | true =>
            obtain ⟨k, hk1, hq2, hk2⟩ := tk_form ho
            have T0 := give_ok HP.out.fr k hk1 hk2
            rw [← hq2] at T0
            refine T0.mono ?_
            rintro e w4 ⟨rfl, F4, G4⟩
            have hx4 := blk_grown HP.out.x G4 (by have := HP.out.ne; simp; omega)
            have hcx : w4.cell? ⟨X, 0, none⟩ = some (.slice A S.length c) := (blk_cell hx4 0).trans rfl
            have hR4 := Kd.R_grown HP.out.r G4 (fun q hq => by simpa using hq.1)
            obtain ⟨A2, c2, e2, hl2, hC2⟩ := Kd.R_reads hR4
            injection e2 with e1 e2 e3
            subst e1 e3
            have T1 := Lib.hid (Rf.give_ok S A c w4 hC2 hl2 (by omega) k q hk1 hk2 hq2)
            clear T0 hR4 hC2 hl2 hc ho hq2
            go_wp2_with fail
            refine T1.out.mono ?_
            rintro e w5 ⟨v5, rfl, hR5, hB5⟩
            have hx5 := blk_below hx4 hB5
            obtain ⟨A', c', rfl⟩ := Kd.R_slice hR5
            have hlS : (S.set k false).length = S.length := List.length_set
            have hx6 := blk_alloc hx5 (.cells #[.slice A' (S.set k false).length c'] 28)
            have hcx6 : (w5.alloc (.cells #[.slice A' (S.set k false).length c'] 28)).cell? ⟨X, 0, none⟩ = some (.slice A S.length c) := (blk_cell hx6 0).trans rfl
            have hfx6 := blk_frozen hx6 0
            have HPn := Lib.hid (fun W hW => Pl.next (W := W) HP.out G4 F4 hB5 hR5 (.cells #[.slice A' (S.set k false).length c'] 28) hW)
            have hS' := Lib.hid (show (S.set k false).length = 3 by rw [hlS, hS.out])
            have hS15' : (S.set k false).length ≤ 15 := by omega
            clear hx4 hcx T1 hR5 hx5 hx6 hlS F4 G4 hB5 hk1 hk2 HP
            generalize S.set k false = S' at *
            go_wp2_with fail
            have HP := Lib.hid (HPn.out _ rfl)
            clear HPn hcx6 hfx6
            generalize (w5.alloc (.cells #[.slice A' S'.length c'] 28)).setCell ⟨X, 0, none⟩ (.slice A' S'.length c') = W at *
            refine start_ (n := 12) (S := (fun W' => Pl w W' m X S' A' c')) (ds := []) #[false, false, false, false, false, false, false, false, false, false, false, false] (by kernel_rfl) rfl rfl HP.out.drew (fun hHeld => ?_)
            clear HP
            generalize World.drew W = W1 at *
            refine pure_ (i := 0) (N := some 80) (v := ?_) (a' := ?_) #[true, false, false, false, false, false, false, false, false, false, false, false] rfl rfl (by kernel_rfl) (fun _ _ _ h => h) (Or.inl ⟨by rfl, ?_⟩) ?_ ?_
            rotate_left
            · intro w'
              first | (go_simp; done) | (go_simp; with_reducible rfl)
            rotate_left
            · simp only [Act.put, List.setIfInBounds_toArray, List.set_cons_zero, List.set_cons_succ, i64_w, i32_w]
              rfl
            refine pure_ (i := 1) (N := some 81) (v := ?_) (a' := ?_) #[true, true, false, false, false, false, false, false, false, false, false, false] rfl rfl (by kernel_rfl) (fun _ _ _ h => h) (Or.inl ⟨by rfl, ?_⟩) ?_ ?_
            rotate_left
            · intro w'
              first | (go_simp; done) | (go_simp; with_reducible rfl)
            rotate_left
            · simp only [Act.put, List.setIfInBounds_toArray, List.set_cons_zero, List.set_cons_succ, i64_w, i32_w]
              rfl
            refine pure_ (i := 2) (N := some 82) (v := ?_) (a' := ?_) #[true, true, true, false, false, false, false, false, false, false, false, false] rfl rfl (by kernel_rfl) (fun _ _ _ h => h) (Or.inl ⟨by rfl, ?_⟩) ?_ ?_
            rotate_left
            · intro w'
              go_simp; rfl
            rotate_left
            · simp only [Act.put, List.setIfInBounds_toArray, List.set_cons_zero, List.set_cons_succ, i64_w, i32_w]
              rfl
            refine pure_ (i := 3) (N := some 83) (v := ?_) (a' := ?_) #[true, true, true, true, false, false, false, false, false, false, false, false] rfl rfl (by kernel_rfl) (fun _ _ _ h => h) (Or.inl ⟨by rfl, ?_⟩) ?_ ?_
            rotate_left
            · intro w'
              first | (go_simp; done) | (go_simp; with_reducible rfl)
            rotate_left
            · simp only [Act.put, List.setIfInBounds_toArray, List.set_cons_zero, List.set_cons_succ, i64_w, i32_w]
              rfl
            refine pure_ (i := 4) (N := some 84) (v := ?_) (a' := ?_) #[true, true, true, true, true, false, false, false, false, false, false, false] rfl rfl (by kernel_rfl) (fun _ _ _ h => h) (Or.inl ⟨by rfl, ?_⟩) ?_ ?_
            rotate_left
            · intro w'
              first | (go_simp; done) | (go_simp; with_reducible rfl)
            rotate_left
            · simp only [Act.put, List.setIfInBounds_toArray, List.set_cons_zero, List.set_cons_succ, i64_w, i32_w]
              rfl
            refine pure_ (i := 5) (N := some 85) (v := ?_) (a' := ?_) #[true, true, true, true, true, true, false, false, false, false, false, false] rfl rfl (by kernel_rfl) (fun _ _ _ h => h) (Or.inl ⟨by rfl, ?_⟩) ?_ ?_
            rotate_left
            · intro w'
              first | (go_simp; done) | (go_simp; with_reducible rfl)
            rotate_left
            · simp only [Act.put, List.setIfInBounds_toArray, List.set_cons_zero, List.set_cons_succ, i64_w, i32_w]
              rfl
            refine pure_ (i := 8) (N := some 88) (v := ?_) (a' := ?_) #[true, true, true, true, true, true, false, false, true, false, false, false] rfl rfl (by kernel_rfl) (fun _ _ _ h => h) (Or.inl ⟨by rfl, ?_⟩) ?_ ?_
            rotate_left
            · intro w'
              first | (go_simp; done) | (go_simp; with_reducible rfl)
            rotate_left
            · simp only [Act.put, List.setIfInBounds_toArray, List.set_cons_zero, List.set_cons_succ, i64_w, i32_w]
              rfl
            refine take_ (i := 7) (N := some 87) (v := ?_) (a' := ?_) #[true, true, true, true, true, true, false, true, true, false, false, false] rfl rfl (by kernel_rfl) (fun _ _ _ h => h) (Or.inl ⟨by rfl, ?_⟩) hHeld ?_ ?_
            rotate_left
            · intro w' hSw
              (try dsimp only at hSw)
              have hcx := hSw.cell
              first | (go_simp; done) | (go_simp; with_reducible rfl) | (go_simp; rfl)
            rotate_left
            · simp only [Act.put, List.setIfInBounds_toArray, List.set_cons_zero, List.set_cons_succ, i64_w, i32_w]
              rfl
            refine one_ (i := 6) (N := some 86) #[true, true, true, true, true, true, true, true, true, false, false, false] rfl rfl (by kernel_rfl) (by decide) (fun K hK => ?_)
            refine goes_ Try.func16 (by kernel_rfl) rfl #[.pointer (some ⟨m + 1, 0, none⟩), .int .u64 (q : Int)] (by rfl) rfl rfl (by (try simp only [List.map_toArray, List.map_cons, List.map_nil]); first | done | rfl) ?_
            with_reducible refine (taken_any hHeld.fr q (by omega)).mono ?_
            rintro e w8 ⟨rfl, rfl⟩
            refine ⟨_, rfl, ?_⟩
            refine hK.out _ _ hHeld (fun hHeld => ?_)
            clear hK K
            refine norm_ (a' := ?_) ?_ ?_
            rotate_left
            · show Act.put _ (some 86) _ = _
              simp only [Act.put, List.setIfInBounds_toArray, List.set_cons_zero, List.set_cons_succ, i64_w, i32_w]
              rfl
            refine one_ (i := 9) (N := some 89) #[true, true, true, true, true, true, true, true, true, true, false, false] rfl rfl (by kernel_rfl) (by decide) (fun K hK => ?_)
            refine goes_ Try.func17 (by kernel_rfl) rfl #[.agg #[.slice A' S'.length c'], .int .u64 (q : Int)] (by rfl) rfl rfl (by (try simp only [List.map_toArray, List.map_cons, List.map_nil]); first | done | rfl) ?_
            with_reducible refine (Fn.dormerref22_Has.calls (S'.length + 1) A' c' S' _ _ _ hHeld.C.1 hHeld.C.2 (Rf.has_val S' q (by omega))).mono ?_
            rintro e w9 ⟨rfl, hb9⟩
            refine ⟨_, rfl, ?_⟩
            refine hK.out _ _ (hHeld.below hb9) (fun hHeld => ?_)
            clear hK K
            refine norm_ (a' := ?_) ?_ ?_
            rotate_left
            · show Act.put _ (some 89) _ = _
              simp only [Act.put, List.setIfInBounds_toArray, List.set_cons_zero, List.set_cons_succ, i64_w, i32_w]
              rfl
            refine pure_ (i := 10) (N := some 90) (v := ?_) (a' := ?_) #[true, true, true, true, true, true, true, true, true, true, true, false] rfl rfl (by kernel_rfl) (fun _ _ _ h => h) (Or.inl ⟨by rfl, ?_⟩) ?_ ?_
            rotate_left
            · intro w'
              go_simp; rfl
            rotate_left
            · simp only [Act.put, List.setIfInBounds_toArray, List.set_cons_zero, List.set_cons_succ, i64_w, i32_w]
              rfl
            refine pure_ (i := 11) (N := some 91) (v := ?_) (a' := ?_) #[true, true, true, true, true, true, true, true, true, true, true, true] rfl rfl (by kernel_rfl) (fun _ _ _ h => h) (Or.inl ⟨by rfl, ?_⟩) ?_ ?_
            rotate_left
            · intro w'
              go_simp; rfl
            rotate_left
            · simp only [Act.put, List.setIfInBounds_toArray, List.set_cons_zero, List.set_cons_succ, i64_w, i32_w]
              rfl
            refine done_ (by kernel_rfl) ?_
            try go_wp2_with fail
            have HP := Lib.hid hHeld
            refine start_ (n := 5) (S := (fun W' => Pl w W' m X S' A' c')) (ds := []) #[false, false, false, false, false] (by kernel_rfl) rfl rfl HP.out.drew (fun hHeld => ?_)
            clear HP
            generalize World.drew _ = W2 at *
            refine pure_ (i := 0) (N := some 92) (v := ?_) (a' := ?_) #[true, false, false, false, false] rfl rfl (by kernel_rfl) (fun _ _ _ h => h) (Or.inl ⟨by rfl, ?_⟩) ?_ ?_
            rotate_left
            · intro w'
              first | (go_simp; done) | (go_simp; with_reducible rfl)
            rotate_left
            · simp only [Act.put, List.setIfInBounds_toArray, List.set_cons_zero, List.set_cons_succ, i64_w, i32_w]
              rfl
            refine take_ (i := 2) (N := some 94) (v := ?_) (a' := ?_) #[true, false, true, false, false] rfl rfl (by kernel_rfl) (fun _ _ _ h => h) (Or.inl ⟨by rfl, ?_⟩) hHeld ?_ ?_
            rotate_left
            · intro w' hSw
              (try dsimp only at hSw)
              have hcx := hSw.cell
              first | (go_simp; done) | (go_simp; with_reducible rfl) | (go_simp; rfl)
            rotate_left
            · simp only [Act.put, List.setIfInBounds_toArray, List.set_cons_zero, List.set_cons_succ, i64_w, i32_w]
              rfl
            refine one_ (i := 1) (N := some 93) #[true, true, true, false, false] rfl rfl (by kernel_rfl) (by decide) (fun K hK => ?_)
            refine goes_ Try.func18 (by kernel_rfl) rfl #[.pointer (some ⟨m + 1, 0, none⟩)] (by rfl) rfl rfl (by (try simp only [List.map_toArray, List.map_cons, List.map_nil]); first | done | rfl) ?_
            with_reducible refine (free_any hHeld.fr).mono ?_
            rintro e w8 ⟨rfl, ⟨nd, rfl⟩⟩
            refine ⟨_, rfl, ?_⟩
            refine hK.out _ _ (hHeld.drewN nd) (fun hHeld => ?_)
            clear hK K
            refine norm_ (a' := ?_) ?_ ?_
            rotate_left
            · show Act.put _ (some 93) _ = _
              simp only [Act.put, List.setIfInBounds_toArray, List.set_cons_zero, List.set_cons_succ, i64_w, i32_w]
              rfl
            refine one_ (i := 3) (N := some 95) #[true, true, true, true, false] rfl rfl (by kernel_rfl) (by decide) (fun K hK => ?_)
            refine goes_ Try.func19 (by kernel_rfl) rfl #[.agg #[.slice A' S'.length c']] (by rfl) rfl rfl (by (try simp only [List.map_toArray, List.map_cons, List.map_nil]); first | done | rfl) ?_
            with_reducible refine (Fn.dormerref22_Free.calls (S'.length + 1) A' c' S' _ _ hHeld.C.1 hHeld.C.2 (Rf.free_val S' (by omega))).mono ?_
            rintro e w9 ⟨rfl, hb9⟩
            refine ⟨_, rfl, ?_⟩
            refine hK.out _ _ (hHeld.below hb9) (fun hHeld => ?_)
            clear hK K
            refine norm_ (a' := ?_) ?_ ?_
            rotate_left
            · show Act.put _ (some 95) _ = _
              simp only [Act.put, List.setIfInBounds_toArray, List.set_cons_zero, List.set_cons_succ, i64_w, i32_w]
              rfl
            refine pure_ (i := 4) (N := some 96) (v := ?_) (a' := ?_) #[true, true, true, true, true] rfl rfl (by kernel_rfl) (fun _ _ _ h => h) (Or.inl ⟨by rfl, ?_⟩) ?_ ?_
            rotate_left
            · intro w'
              go_simp; rfl
            rotate_left
            · simp only [Act.put, List.setIfInBounds_toArray, List.set_cons_zero, List.set_cons_succ, i64_w, i32_w]
              rfl
            refine done_ (by kernel_rfl) ?_
            try go_wp2_with fail
            go_roundw
            case rel => exact ⟨i + 1, S', A', c', by go_num, by omega, hS'.out, Lib.hid hHeld⟩
            case measure => simp [intOf]; omega
          | false =>
            refine (give_bad HP.out.fr q hq ho).mono ?_
            rintro e w4 ⟨rfl, rfl⟩
            have hcx := HP.out.cell
            have T1 := Lib.hid (Rf.give_bad S A c wr HP.out.C.1 HP.out.C.2 (by omega) q hq ho)
            clear hc ho
            go_wp2_with fail
            refine T1.out.mono ?_
            rintro e w5 ⟨rfl, hB5⟩
            have hx6 := blk_alloc (blk_below HP.out.x hB5) (.cells #[.slice A S.length c] 28)
            have hcx6 : (w5.alloc (.cells #[.slice A S.length c] 28)).cell? ⟨X, 0, none⟩ = some (.slice A S.length c) := (blk_cell hx6 0).trans rfl
            have hfx6 := blk_frozen hx6 0
            have HPn := Lib.hid (fun W hW => Pl.same (W := W) HP.out hB5 (.cells #[.slice A S.length c] 28) hW)
            clear hcx T1 hx6 hB5 HP
            go_wp2_with fail
            have HP := Lib.hid (HPn.out _ rfl)
            clear HPn hcx6 hfx6
            generalize (w5.alloc (.cells #[.slice A S.length c] 28)).setCell ⟨X, 0, none⟩ (.slice A S.length c) = W at *
            have hS' := hS
            have hS15' := hS15
            clear hS hS15
            revert HP hS' hS15'
            generalize S = S', A = A', c = c'
            intro HP hS' hS15'
            refine start_ (n := 12) (S := (fun W' => Pl w W' m X S' A' c')) (ds := []) #[false, false, false, false, false, false, false, false, false, false, false, false] (by kernel_rfl) rfl rfl HP.out.drew (fun hHeld => ?_)
            clear HP
            generalize World.drew W = W1 at *
            refine pure_ (i := 0) (N := some 80) (v := ?_) (a' := ?_) #[true, false, false, false, false, false, false, false, false, false, false, false] rfl rfl (by kernel_rfl) (fun _ _ _ h => h) (Or.inl ⟨by rfl, ?_⟩) ?_ ?_
            rotate_left
            · intro w'
              first | (go_simp; done) | (go_simp; with_reducible rfl)
            rotate_left
            · simp only [Act.put, List.setIfInBounds_toArray, List.set_cons_zero, List.set_cons_succ, i64_w, i32_w]
              rfl
            refine pure_ (i := 1) (N := some 81) (v := ?_) (a' := ?_) #[true, true, false, false, false, false, false, false, false, false, false, false] rfl rfl (by kernel_rfl) (fun _ _ _ h => h) (Or.inl ⟨by rfl, ?_⟩) ?_ ?_
            rotate_left
            · intro w'
              first | (go_simp; done) | (go_simp; with_reducible rfl)
            rotate_left
            · simp only [Act.put, List.setIfInBounds_toArray, List.set_cons_zero, List.set_cons_succ, i64_w, i32_w]
              rfl
            refine pure_ (i := 2) (N := some 82) (v := ?_) (a' := ?_) #[true, true, true, false, false, false, false, false, false, false, false, false] rfl rfl (by kernel_rfl) (fun _ _ _ h => h) (Or.inl ⟨by rfl, ?_⟩) ?_ ?_
            rotate_left
            · intro w'
              go_simp; rfl
            rotate_left
            · simp only [Act.put, List.setIfInBounds_toArray, List.set_cons_zero, List.set_cons_succ, i64_w, i32_w]
              rfl
            refine pure_ (i := 3) (N := some 83) (v := ?_) (a' := ?_) #[true, true, true, true, false, false, false, false, false, false, false, false] rfl rfl (by kernel_rfl) (fun _ _ _ h => h) (Or.inl ⟨by rfl, ?_⟩) ?_ ?_
            rotate_left
            · intro w'
              first | (go_simp; done) | (go_simp; with_reducible rfl)
            rotate_left
            · simp only [Act.put, List.setIfInBounds_toArray, List.set_cons_zero, List.set_cons_succ, i64_w, i32_w]
              rfl
            refine pure_ (i := 4) (N := some 84) (v := ?_) (a' := ?_) #[true, true, true, true, true, false, false, false, false, false, false, false] rfl rfl (by kernel_rfl) (fun _ _ _ h => h) (Or.inl ⟨by rfl, ?_⟩) ?_ ?_
            rotate_left
            · intro w'
              first | (go_simp; done) | (go_simp; with_reducible rfl)
            rotate_left
            · simp only [Act.put, List.setIfInBounds_toArray, List.set_cons_zero, List.set_cons_succ, i64_w, i32_w]
              rfl
            refine pure_ (i := 5) (N := some 85) (v := ?_) (a' := ?_) #[true, true, true, true, true, true, false, false, false, false, false, false] rfl rfl (by kernel_rfl) (fun _ _ _ h => h) (Or.inl ⟨by rfl, ?_⟩) ?_ ?_
            rotate_left
            · intro w'
              first | (go_simp; done) | (go_simp; with_reducible rfl)
            rotate_left
            · simp only [Act.put, List.setIfInBounds_toArray, List.set_cons_zero, List.set_cons_succ, i64_w, i32_w]
              rfl
            refine pure_ (i := 8) (N := some 88) (v := ?_) (a' := ?_) #[true, true, true, true, true, true, false, false, true, false, false, false] rfl rfl (by kernel_rfl) (fun _ _ _ h => h) (Or.inl ⟨by rfl, ?_⟩) ?_ ?_
            rotate_left
            · intro w'
              first | (go_simp; done) | (go_simp; with_reducible rfl)
            rotate_left
            · simp only [Act.put, List.setIfInBounds_toArray, List.set_cons_zero, List.set_cons_succ, i64_w, i32_w]
              rfl
            refine take_ (i := 7) (N := some 87) (v := ?_) (a' := ?_) #[true, true, true, true, true, true, false, true, true, false, false, false] rfl rfl (by kernel_rfl) (fun _ _ _ h => h) (Or.inl ⟨by rfl, ?_⟩) hHeld ?_ ?_
            rotate_left
            · intro w' hSw
              (try dsimp only at hSw)
              have hcx := hSw.cell
              first | (go_simp; done) | (go_simp; with_reducible rfl) | (go_simp; rfl)
            rotate_left
            · simp only [Act.put, List.setIfInBounds_toArray, List.set_cons_zero, List.set_cons_succ, i64_w, i32_w]
              rfl
            refine one_ (i := 6) (N := some 86) #[true, true, true, true, true, true, true, true, true, false, false, false] rfl rfl (by kernel_rfl) (by decide) (fun K hK => ?_)
            refine goes_ Try.func16 (by kernel_rfl) rfl #[.pointer (some ⟨m + 1, 0, none⟩), .int .u64 (q : Int)] (by rfl) rfl rfl (by (try simp only [List.map_toArray, List.map_cons, List.map_nil]); first | done | rfl) ?_
            with_reducible refine (taken_any hHeld.fr q (by omega)).mono ?_
            rintro e w8 ⟨rfl, rfl⟩
            refine ⟨_, rfl, ?_⟩
            refine hK.out _ _ hHeld (fun hHeld => ?_)
            clear hK K
            refine norm_ (a' := ?_) ?_ ?_
            rotate_left
            · show Act.put _ (some 86) _ = _
              simp only [Act.put, List.setIfInBounds_toArray, List.set_cons_zero, List.set_cons_succ, i64_w, i32_w]
              rfl
            refine one_ (i := 9) (N := some 89) #[true, true, true, true, true, true, true, true, true, true, false, false] rfl rfl (by kernel_rfl) (by decide) (fun K hK => ?_)
            refine goes_ Try.func17 (by kernel_rfl) rfl #[.agg #[.slice A' S'.length c'], .int .u64 (q : Int)] (by rfl) rfl rfl (by (try simp only [List.map_toArray, List.map_cons, List.map_nil]); first | done | rfl) ?_
            with_reducible refine (Fn.dormerref22_Has.calls (S'.length + 1) A' c' S' _ _ _ hHeld.C.1 hHeld.C.2 (Rf.has_val S' q (by omega))).mono ?_
            rintro e w9 ⟨rfl, hb9⟩
            refine ⟨_, rfl, ?_⟩
            refine hK.out _ _ (hHeld.below hb9) (fun hHeld => ?_)
            clear hK K
            refine norm_ (a' := ?_) ?_ ?_
            rotate_left
            · show Act.put _ (some 89) _ = _
              simp only [Act.put, List.setIfInBounds_toArray, List.set_cons_zero, List.set_cons_succ, i64_w, i32_w]
              rfl
            refine pure_ (i := 10) (N := some 90) (v := ?_) (a' := ?_) #[true, true, true, true, true, true, true, true, true, true, true, false] rfl rfl (by kernel_rfl) (fun _ _ _ h => h) (Or.inl ⟨by rfl, ?_⟩) ?_ ?_
            rotate_left
            · intro w'
              go_simp; rfl
            rotate_left
            · simp only [Act.put, List.setIfInBounds_toArray, List.set_cons_zero, List.set_cons_succ, i64_w, i32_w]
              rfl
            refine pure_ (i := 11) (N := some 91) (v := ?_) (a' := ?_) #[true, true, true, true, true, true, true, true, true, true, true, true] rfl rfl (by kernel_rfl) (fun _ _ _ h => h) (Or.inl ⟨by rfl, ?_⟩) ?_ ?_
            rotate_left
            · intro w'
              go_simp; rfl
            rotate_left
            · simp only [Act.put, List.setIfInBounds_toArray, List.set_cons_zero, List.set_cons_succ, i64_w, i32_w]
              rfl
            refine done_ (by kernel_rfl) ?_
            try go_wp2_with fail
            have HP := Lib.hid hHeld
            refine start_ (n := 5) (S := (fun W' => Pl w W' m X S' A' c')) (ds := []) #[false, false, false, false, false] (by kernel_rfl) rfl rfl HP.out.drew (fun hHeld => ?_)
            clear HP
            generalize World.drew _ = W2 at *
            refine pure_ (i := 0) (N := some 92) (v := ?_) (a' := ?_) #[true, false, false, false, false] rfl rfl (by kernel_rfl) (fun _ _ _ h => h) (Or.inl ⟨by rfl, ?_⟩) ?_ ?_
            rotate_left
            · intro w'
              first | (go_simp; done) | (go_simp; with_reducible rfl)
            rotate_left
            · simp only [Act.put, List.setIfInBounds_toArray, List.set_cons_zero, List.set_cons_succ, i64_w, i32_w]
              rfl
            refine take_ (i := 2) (N := some 94) (v := ?_) (a' := ?_) #[true, false, true, false, false] rfl rfl (by kernel_rfl) (fun _ _ _ h => h) (Or.inl ⟨by rfl, ?_⟩) hHeld ?_ ?_
            rotate_left
            · intro w' hSw
              (try dsimp only at hSw)
              have hcx := hSw.cell
              first | (go_simp; done) | (go_simp; with_reducible rfl) | (go_simp; rfl)
            rotate_left
            · simp only [Act.put, List.setIfInBounds_toArray, List.set_cons_zero, List.set_cons_succ, i64_w, i32_w]
              rfl
            refine one_ (i := 1) (N := some 93) #[true, true, true, false, false] rfl rfl (by kernel_rfl) (by decide) (fun K hK => ?_)
            refine goes_ Try.func18 (by kernel_rfl) rfl #[.pointer (some ⟨m + 1, 0, none⟩)] (by rfl) rfl rfl (by (try simp only [List.map_toArray, List.map_cons, List.map_nil]); first | done | rfl) ?_
            with_reducible refine (free_any hHeld.fr).mono ?_
            rintro e w8 ⟨rfl, ⟨nd, rfl⟩⟩
            refine ⟨_, rfl, ?_⟩
            refine hK.out _ _ (hHeld.drewN nd) (fun hHeld => ?_)
            clear hK K
            refine norm_ (a' := ?_) ?_ ?_
            rotate_left
            · show Act.put _ (some 93) _ = _
              simp only [Act.put, List.setIfInBounds_toArray, List.set_cons_zero, List.set_cons_succ, i64_w, i32_w]
              rfl
            refine one_ (i := 3) (N := some 95) #[true, true, true, true, false] rfl rfl (by kernel_rfl) (by decide) (fun K hK => ?_)
            refine goes_ Try.func19 (by kernel_rfl) rfl #[.agg #[.slice A' S'.length c']] (by rfl) rfl rfl (by (try simp only [List.map_toArray, List.map_cons, List.map_nil]); first | done | rfl) ?_
            with_reducible refine (Fn.dormerref22_Free.calls (S'.length + 1) A' c' S' _ _ hHeld.C.1 hHeld.C.2 (Rf.free_val S' (by omega))).mono ?_
            rintro e w9 ⟨rfl, hb9⟩
            refine ⟨_, rfl, ?_⟩
            refine hK.out _ _ (hHeld.below hb9) (fun hHeld => ?_)
            clear hK K
            refine norm_ (a' := ?_) ?_ ?_
            rotate_left
            · show Act.put _ (some 95) _ = _
              simp only [Act.put, List.setIfInBounds_toArray, List.set_cons_zero, List.set_cons_succ, i64_w, i32_w]
              rfl
            refine pure_ (i := 4) (N := some 96) (v := ?_) (a' := ?_) #[true, true, true, true, true] rfl rfl (by kernel_rfl) (fun _ _ _ h => h) (Or.inl ⟨by rfl, ?_⟩) ?_ ?_
            rotate_left
            · intro w'
              go_simp; rfl
            rotate_left
            · simp only [Act.put, List.setIfInBounds_toArray, List.set_cons_zero, List.set_cons_succ, i64_w, i32_w]
              rfl
            refine done_ (by kernel_rfl) ?_
            try go_wp2_with fail
            go_roundw
            case rel => exact ⟨i + 1, S', A', c', by go_num, by omega, hS'.out, Lib.hid hHeld⟩
            case measure => simp [intOf]; omega
      · have hlt2 : (i : Int) < (len : Int) := by omega
        have h1002 : ¬ (i : Int) < 100 := by omega
        have T1 := Lib.hid (fun n : Nat => (room_any (HP.out.fr.drewN n)).mono fun e w'' (h : _ ∧ _) => (⟨h.1, n, h.2.symm⟩ : _ ∧ ∃ m, w'' = wr.drewN m))
        have hcx := HP.out.cell
        have hb9 := Aside0.mk HP.out.b
        go_wp2_with fail
        go_quiet ((go_at_call 20; exact T1.out _))
        try go_wp2_with fail
        go_ret
        exact ⟨rfl, pw_below_drewN hb9.out _⟩
    · have hlt2 : ¬ (i : Int) < (len : Int) := by omega
      have T1 := Lib.hid (fun n : Nat => (room_any (HP.out.fr.drewN n)).mono fun e w'' (h : _ ∧ _) => (⟨h.1, n, h.2.symm⟩ : _ ∧ ∃ m, w'' = wr.drewN m))
      have hcx := HP.out.cell
      have hb9 := Aside0.mk HP.out.b
      go_wp2_with fail
      go_quiet ((go_at_call 20; exact T1.out _))
      try go_wp2_with fail
      go_ret
      exact ⟨rfl, pw_below_drewN hb9.out _⟩
set_option maxHeartbeats 8000000 in
set_option maxRecDepth 100000 in
theorem plays15 (b : Int) (a : Option Addr) (len cap : Nat) (w : World) (hb0 : 0 ≤ b) (hb1 : b < 256) (hbc : b % 3 = 1) (hlen : len < 9223372036854775808)
    (hcell : Hid (∀ wr : World, Below w.heap.size w wr → ∀ i : Nat, i < len → ∃ x v, a = some x ∧ wr.cell? (x.add i) = some (.int .i64 v) ∧ -9223372036854775808 ≤ v ∧ v < 9223372036854775808)) :
    Calls Try.prog 3 #[.int .u8 b, .slice a len cap] w fun e w' => e = .returned (.bool true) ∧ Below w.heap.size w w' := by
  go_enter Try.func3, Try.ntmps3
  go_wp2_with fail
  refine (awake_any w).mono ?_
  rintro e w1 ⟨rfl, B1⟩
  go_wp2_with fail
  refine (new_ok 15 w1 (by decide) (by decide)).mono ?_
  rintro e w2 ⟨rfl, F2, B2⟩
  replace F2 : FrAt w2 (w1.heap.size + 1) w1.heap.size (List.replicate 7 false) := F2
  have hm : w.heap.size ≤ w1.heap.size := B1.size
  have HB := below_step B1 B2
  generalize w1.heap.size = m at *
  clear B1 B2
  go_wp2_with fail
  refine (Fn.dormerref22_New.calls 20 15 _ w2 (Rf.new_val 15 (by decide) (by decide))).mono ?_
  rintro e w3 ⟨v, rfl, hR, hB⟩
  replace hR : Kd.R Kd.bool 4 w3 w2.heap.size (fun _ => True) v (List.replicate 7 false) := hR
  obtain ⟨A, c, rfl⟩ := Kd.R_slice hR
  have hl := F2.lt
  have hl3 := hB.size
  have hR6 : Kd.R Kd.bool 4 w3 w.heap.size (fun q => q ≠ m ∧ q ≠ w3.heap.size) (.slice A 7 c) (List.replicate 7 false) := by
    refine Kd.R_mono (Kd.R_lower (Kd.R_bound hR) (by omega)) ?_
    intro q hq
    have := hq.2.1
    have := hq.2.2.1
    exact ⟨by omega, by omega⟩
  have HP : Pl w (w3.alloc (.cells #[.slice A 7 c] 28)) m w3.heap.size (List.replicate 7 false) A c :=
    ⟨(F2.below hB).below (below_alloc (Below.refl _ _) _), blk_new w3 _, Kd.R_alloc hR6 _, below_alloc (below_step HB hB) _, by omega, hm⟩
  have HP := Lib.hid HP
  clear hR hR6 HB F2
  generalize hX : w3.heap.size = X at *
  go_wp2_with fail
  go_loopw [9] (fun y wr => ∃ (i : Nat) (S : List Bool) (A : Option Addr) (c : Nat), y = .int .i64 (i : Int) ∧ i ≤ len ∧ S.length = 7 ∧ Hid (Pl w wr m X S A c)) (fun y _ => 100 - (intOf y).toNat)
  case atStart => exact ⟨0, _, A, c, rfl, by omega, by simp, HP⟩
  case round =>
    clear HP hB hl hl3 hX
    obtain ⟨i, S, A, c, rfl, hi, hS, HP⟩ := hrel
    have hS15 : S.length ≤ 15 := by omega
    replace hS := Lib.hid hS
    by_cases hlt : i < len
    · by_cases h100 : i < 100
      · have hlt2 : (i : Int) < (len : Int) := by omega
        have h1002 : (i : Int) < 100 := by omega
        obtain ⟨x, v, rfl, hc, hv1, hv2⟩ := hcell.out _ HP.out.b i hlt
        by_cases hv : v < 0
        · go_wp2_with fail
          rcases lowest S with ⟨k, hk1, hk2, hk3⟩ | hk
          · refine (take_some HP.out.fr k hk1 hk2 hk3).mono ?_
            rintro e w4 ⟨rfl, F4, G4⟩
            have hx4 := blk_grown HP.out.x G4 (by have := HP.out.ne; simp; omega)
            have hcx : w4.cell? ⟨X, 0, none⟩ = some (.slice A S.length c) := (blk_cell hx4 0).trans rfl
            have hR4 := Kd.R_grown HP.out.r G4 (fun q hq => by simpa using hq.1)
            obtain ⟨A2, c2, e2, hl2, hC2⟩ := Kd.R_reads hR4
            injection e2 with e1 e2 e3
            subst e1 e3
            have T1 := Lib.hid (Rf.take_some S A c w4 hC2 hl2 (by omega) k hk1 hk2 hk3)
            have ek : (((k + 1) * 4096 : Nat) : Int) = ((k : Int) + 1) * 4096 := by omega
            rw [ek] at T1 ⊢
            clear ek hR4 hC2 hl2 hc
            go_wp2_with fail
            refine T1.out.mono ?_
            rintro e w5 ⟨v5, rfl, hR5, hB5⟩
            have hx5 := blk_below hx4 hB5
            have hcx5 : w5.cell? ⟨X, 0, none⟩ = some (.slice A S.length c) := (blk_cell hx5 0).trans rfl
            have hfx5 := blk_frozen hx5 0
            obtain ⟨A', c', rfl⟩ := Kd.R_slice hR5
            have hlS : (S.set k true).length = S.length := List.length_set
            have hx6 := blk_alloc hx5 (.cells #[.slice A' (S.set k true).length c'] 28)
            have hcx6 : (w5.alloc (.cells #[.slice A' (S.set k true).length c'] 28)).cell? ⟨X, 0, none⟩ = some (.slice A S.length c) := (blk_cell hx6 0).trans rfl
            have hfx6 := blk_frozen hx6 0
            have HPn := Lib.hid (fun W hW => Pl.next (W := W) HP.out G4 F4 hB5 hR5 (.cells #[.slice A' (S.set k true).length c'] 28) hW)
            have hS' := Lib.hid (show (S.set k true).length = 7 by rw [hlS, hS.out])
            have hS15' : (S.set k true).length ≤ 15 := by omega
            clear hx4 hcx T1 hR5 hx5 hx6 hcx5 hfx5 hlS F4 G4 hB5 hk1 hk2 hk3 HP
            generalize S.set k true = S' at *
            go_wp2_with fail
            have HP := Lib.hid (HPn.out _ rfl)
            clear HPn hcx6 hfx6
            generalize (w5.alloc (.cells #[.slice A' S'.length c'] 28)).setCell ⟨X, 0, none⟩ (.slice A' S'.length c') = W at *
            refine start_ (n := 5) (S := (fun W' => Pl w W' m X S' A' c')) (ds := []) #[false, false, false, false, false] (by kernel_rfl) rfl rfl HP.out.drew (fun hHeld => ?_)
            clear HP
            generalize World.drew W = W1 at *
            refine pure_ (i := 0) (N := some 92) (v := ?_) (a' := ?_) #[true, false, false, false, false] rfl rfl (by kernel_rfl) (fun _ _ _ h => h) (Or.inl ⟨by rfl, ?_⟩) ?_ ?_
            rotate_left
            · intro w'
              first | (go_simp; done) | (go_simp; with_reducible rfl)
            rotate_left
            · simp only [Act.put, List.setIfInBounds_toArray, List.set_cons_zero, List.set_cons_succ, i64_w, i32_w]
              rfl
            refine take_ (i := 2) (N := some 94) (v := ?_) (a' := ?_) #[true, false, true, false, false] rfl rfl (by kernel_rfl) (fun _ _ _ h => h) (Or.inl ⟨by rfl, ?_⟩) hHeld ?_ ?_
            rotate_left
            · intro w' hSw
              (try dsimp only at hSw)
              have hcx := hSw.cell
              first | (go_simp; done) | (go_simp; with_reducible rfl) | (go_simp; rfl)
            rotate_left
            · simp only [Act.put, List.setIfInBounds_toArray, List.set_cons_zero, List.set_cons_succ, i64_w, i32_w]
              rfl
            refine one_ (i := 1) (N := some 93) #[true, true, true, false, false] rfl rfl (by kernel_rfl) (by decide) (fun K hK => ?_)
            refine goes_ Try.func18 (by kernel_rfl) rfl #[.pointer (some ⟨m + 1, 0, none⟩)] (by rfl) rfl rfl (by (try simp only [List.map_toArray, List.map_cons, List.map_nil]); first | done | rfl) ?_
            with_reducible refine (free_any hHeld.fr).mono ?_
            rintro e w8 ⟨rfl, ⟨nd, rfl⟩⟩
            refine ⟨_, rfl, ?_⟩
            refine hK.out _ _ (hHeld.drewN nd) (fun hHeld => ?_)
            clear hK K
            refine norm_ (a' := ?_) ?_ ?_
            rotate_left
            · show Act.put _ (some 93) _ = _
              simp only [Act.put, List.setIfInBounds_toArray, List.set_cons_zero, List.set_cons_succ, i64_w, i32_w]
              rfl
            refine one_ (i := 3) (N := some 95) #[true, true, true, true, false] rfl rfl (by kernel_rfl) (by decide) (fun K hK => ?_)
            refine goes_ Try.func19 (by kernel_rfl) rfl #[.agg #[.slice A' S'.length c']] (by rfl) rfl rfl (by (try simp only [List.map_toArray, List.map_cons, List.map_nil]); first | done | rfl) ?_
            with_reducible refine (Fn.dormerref22_Free.calls (S'.length + 1) A' c' S' _ _ hHeld.C.1 hHeld.C.2 (Rf.free_val S' (by omega))).mono ?_
            rintro e w9 ⟨rfl, hb9⟩
            refine ⟨_, rfl, ?_⟩
            refine hK.out _ _ (hHeld.below hb9) (fun hHeld => ?_)
            clear hK K
            refine norm_ (a' := ?_) ?_ ?_
            rotate_left
            · show Act.put _ (some 95) _ = _
              simp only [Act.put, List.setIfInBounds_toArray, List.set_cons_zero, List.set_cons_succ, i64_w, i32_w]
              rfl
            refine pure_ (i := 4) (N := some 96) (v := ?_) (a' := ?_) #[true, true, true, true, true] rfl rfl (by kernel_rfl) (fun _ _ _ h => h) (Or.inl ⟨by rfl, ?_⟩) ?_ ?_
            rotate_left
            · intro w'
              go_simp; rfl
            rotate_left
            · simp only [Act.put, List.setIfInBounds_toArray, List.set_cons_zero, List.set_cons_succ, i64_w, i32_w]
              rfl
            refine done_ (by kernel_rfl) ?_
            try go_wp2_with fail
            go_roundw
            case rel => exact ⟨i + 1, S', A', c', by go_num, by omega, hS'.out, Lib.hid hHeld⟩
            case measure => simp [intOf]; omega
          · refine (take_none HP.out.fr hk).mono ?_
            rintro e w4 ⟨rfl, rfl⟩
            have hcx := HP.out.cell
            have T1 := Lib.hid (Rf.take_none S A c wr HP.out.C.1 HP.out.C.2 (by omega) hk)
            clear hc hk
            go_wp2_with fail
            refine T1.out.mono ?_
            rintro e w5 ⟨rfl, hB5⟩
            have hx6 := blk_alloc (blk_below HP.out.x hB5) (.cells #[.slice A S.length c] 28)
            have hcx6 : (w5.alloc (.cells #[.slice A S.length c] 28)).cell? ⟨X, 0, none⟩ = some (.slice A S.length c) := (blk_cell hx6 0).trans rfl
            have hfx6 := blk_frozen hx6 0
            have HPn := Lib.hid (fun W hW => Pl.same (W := W) HP.out hB5 (.cells #[.slice A S.length c] 28) hW)
            clear hcx T1 hx6 hB5 HP
            go_wp2_with fail
            have HP := Lib.hid (HPn.out _ rfl)
            clear HPn hcx6 hfx6
            generalize (w5.alloc (.cells #[.slice A S.length c] 28)).setCell ⟨X, 0, none⟩ (.slice A S.length c) = W at *
            have hS' := hS
            have hS15' := hS15
            clear hS hS15
            revert HP hS' hS15'
            generalize S = S', A = A', c = c'
            intro HP hS' hS15'
            refine start_ (n := 5) (S := (fun W' => Pl w W' m X S' A' c')) (ds := []) #[false, false, false, false, false] (by kernel_rfl) rfl rfl HP.out.drew (fun hHeld => ?_)
            clear HP
            generalize World.drew W = W1 at *
            refine pure_ (i := 0) (N := some 92) (v := ?_) (a' := ?_) #[true, false, false, false, false] rfl rfl (by kernel_rfl) (fun _ _ _ h => h) (Or.inl ⟨by rfl, ?_⟩) ?_ ?_
            rotate_left
            · intro w'
              first | (go_simp; done) | (go_simp; with_reducible rfl)
            rotate_left
            · simp only [Act.put, List.setIfInBounds_toArray, List.set_cons_zero, List.set_cons_succ, i64_w, i32_w]
              rfl
            refine take_ (i := 2) (N := some 94) (v := ?_) (a' := ?_) #[true, false, true, false, false] rfl rfl (by kernel_rfl) (fun _ _ _ h => h) (Or.inl ⟨by rfl, ?_⟩) hHeld ?_ ?_
            rotate_left
            · intro w' hSw
              (try dsimp only at hSw)
              have hcx := hSw.cell
              first | (go_simp; done) | (go_simp; with_reducible rfl) | (go_simp; rfl)
            rotate_left
            · simp only [Act.put, List.setIfInBounds_toArray, List.set_cons_zero, List.set_cons_succ, i64_w, i32_w]
              rfl
            refine one_ (i := 1) (N := some 93) #[true, true, true, false, false] rfl rfl (by kernel_rfl) (by decide) (fun K hK => ?_)
            refine goes_ Try.func18 (by kernel_rfl) rfl #[.pointer (some ⟨m + 1, 0, none⟩)] (by rfl) rfl rfl (by (try simp only [List.map_toArray, List.map_cons, List.map_nil]); first | done | rfl) ?_
            with_reducible refine (free_any hHeld.fr).mono ?_
            rintro e w8 ⟨rfl, ⟨nd, rfl⟩⟩
            refine ⟨_, rfl, ?_⟩
            refine hK.out _ _ (hHeld.drewN nd) (fun hHeld => ?_)
            clear hK K
            refine norm_ (a' := ?_) ?_ ?_
            rotate_left
            · show Act.put _ (some 93) _ = _
              simp only [Act.put, List.setIfInBounds_toArray, List.set_cons_zero, List.set_cons_succ, i64_w, i32_w]
              rfl
            refine one_ (i := 3) (N := some 95) #[true, true, true, true, false] rfl rfl (by kernel_rfl) (by decide) (fun K hK => ?_)
            refine goes_ Try.func19 (by kernel_rfl) rfl #[.agg #[.slice A' S'.length c']] (by rfl) rfl rfl (by (try simp only [List.map_toArray, List.map_cons, List.map_nil]); first | done | rfl) ?_
            with_reducible refine (Fn.dormerref22_Free.calls (S'.length + 1) A' c' S' _ _ hHeld.C.1 hHeld.C.2 (Rf.free_val S' (by omega))).mono ?_
            rintro e w9 ⟨rfl, hb9⟩
            refine ⟨_, rfl, ?_⟩
            refine hK.out _ _ (hHeld.below hb9) (fun hHeld => ?_)
            clear hK K
            refine norm_ (a' := ?_) ?_ ?_
            rotate_left
            · show Act.put _ (some 95) _ = _
              simp only [Act.put, List.setIfInBounds_toArray, List.set_cons_zero, List.set_cons_succ, i64_w, i32_w]
              rfl
            refine pure_ (i := 4) (N := some 96) (v := ?_) (a' := ?_) #[true, true, true, true, true] rfl rfl (by kernel_rfl) (fun _ _ _ h => h) (Or.inl ⟨by rfl, ?_⟩) ?_ ?_
            rotate_left
            · intro w'
              go_simp; rfl
            rotate_left
            · simp only [Act.put, List.setIfInBounds_toArray, List.set_cons_zero, List.set_cons_succ, i64_w, i32_w]
              rfl
            refine done_ (by kernel_rfl) ?_
            try go_wp2_with fail
            go_roundw
            case rel => exact ⟨i + 1, S', A', c', by go_num, by omega, hS'.out, Lib.hid hHeld⟩
            case measure => simp [intOf]; omega
        · obtain ⟨q, rfl⟩ : ∃ q : Nat, v = (q : Int) := ⟨v.toNat, by omega⟩
          have hq : q < 18446744073709551616 := by omega
          go_wp2_with fail
          cases ho : tk S q with
          | true =>
            obtain ⟨k, hk1, hq2, hk2⟩ := tk_form ho
            have T0 := give_ok HP.out.fr k hk1 hk2
            rw [← hq2] at T0
            refine T0.mono ?_
            rintro e w4 ⟨rfl, F4, G4⟩
            have hx4 := blk_grown HP.out.x G4 (by have := HP.out.ne; simp; omega)
            have hcx : w4.cell? ⟨X, 0, none⟩ = some (.slice A S.length c) := (blk_cell hx4 0).trans rfl
            have hR4 := Kd.R_grown HP.out.r G4 (fun q hq => by simpa using hq.1)
            obtain ⟨A2, c2, e2, hl2, hC2⟩ := Kd.R_reads hR4
            injection e2 with e1 e2 e3
            subst e1 e3
            have T1 := Lib.hid (Rf.give_ok S A c w4 hC2 hl2 (by omega) k q hk1 hk2 hq2)
            clear T0 hR4 hC2 hl2 hc ho hq2
            go_wp2_with fail
            refine T1.out.mono ?_
            rintro e w5 ⟨v5, rfl, hR5, hB5⟩
            have hx5 := blk_below hx4 hB5
            obtain ⟨A', c', rfl⟩ := Kd.R_slice hR5
            have hlS : (S.set k false).length = S.length := List.length_set
            have hx6 := blk_alloc hx5 (.cells #[.slice A' (S.set k false).length c'] 28)
            have hcx6 : (w5.alloc (.cells #[.slice A' (S.set k false).length c'] 28)).cell? ⟨X, 0, none⟩ = some (.slice A S.length c) := (blk_cell hx6 0).trans rfl
            have hfx6 := blk_frozen hx6 0
            have HPn := Lib.hid (fun W hW => Pl.next (W := W) HP.out G4 F4 hB5 hR5 (.cells #[.slice A' (S.set k false).length c'] 28) hW)
            have hS' := Lib.hid (show (S.set k false).length = 7 by rw [hlS, hS.out])
            have hS15' : (S.set k false).length ≤ 15 := by omega
            clear hx4 hcx T1 hR5 hx5 hx6 hlS F4 G4 hB5 hk1 hk2 HP
            generalize S.set k false = S' at *
            go_wp2_with fail
            have HP := Lib.hid (HPn.out _ rfl)
            clear HPn hcx6 hfx6
            generalize (w5.alloc (.cells #[.slice A' S'.length c'] 28)).setCell ⟨X, 0, none⟩ (.slice A' S'.length c') = W at *
            refine start_ (n := 12) (S := (fun W' => Pl w W' m X S' A' c')) (ds := []) #[false, false, false, false, false, false, false, false, false, false, false, false] (by kernel_rfl) rfl rfl HP.out.drew (fun hHeld => ?_)
            clear HP
            generalize World.drew W = W1 at *
            refine pure_ (i := 0) (N := some 80) (v := ?_) (a' := ?_) #[true, false, false, false, false, false, false, false, false, false, false, false] rfl rfl (by kernel_rfl) (fun _ _ _ h => h) (Or.inl ⟨by rfl, ?_⟩) ?_ ?_
            rotate_left
            · intro w'
              first | (go_simp; done) | (go_simp; with_reducible rfl)
            rotate_left
            · simp only [Act.put, List.setIfInBounds_toArray, List.set_cons_zero, List.set_cons_succ, i64_w, i32_w]
              rfl
            refine pure_ (i := 1) (N := some 81) (v := ?_) (a' := ?_) #[true, true, false, false, false, false, false, false, false, false, false, false] rfl rfl (by kernel_rfl) (fun _ _ _ h => h) (Or.inl ⟨by rfl, ?_⟩) ?_ ?_
            rotate_left
            · intro w'
              first | (go_simp; done) | (go_simp; with_reducible rfl)
            rotate_left
            · simp only [Act.put, List.setIfInBounds_toArray, List.set_cons_zero, List.set_cons_succ, i64_w, i32_w]
              rfl
            refine pure_ (i := 2) (N := some 82) (v := ?_) (a' := ?_) #[true, true, true, false, false, false, false, false, false, false, false, false] rfl rfl (by kernel_rfl) (fun _ _ _ h => h) (Or.inl ⟨by rfl, ?_⟩) ?_ ?_
            rotate_left
            · intro w'
              go_simp; rfl
            rotate_left
            · simp only [Act.put, List.setIfInBounds_toArray, List.set_cons_zero, List.set_cons_succ, i64_w, i32_w]
              rfl
            refine pure_ (i := 3) (N := some 83) (v := ?_) (a' := ?_) #[true, true, true, true, false, false, false, false, false, false, false, false] rfl rfl (by kernel_rfl) (fun _ _ _ h => h) (Or.inl ⟨by rfl, ?_⟩) ?_ ?_
            rotate_left
            · intro w'
              first | (go_simp; done) | (go_simp; with_reducible rfl)
            rotate_left
            · simp only [Act.put, List.setIfInBounds_toArray, List.set_cons_zero, List.set_cons_succ, i64_w, i32_w]
              rfl
            refine pure_ (i := 4) (N := some 84) (v := ?_) (a' := ?_) #[true, true, true, true, true, false, false, false, false, false, false, false] rfl rfl (by kernel_rfl) (fun _ _ _ h => h) (Or.inl ⟨by rfl, ?_⟩) ?_ ?_
            rotate_left
            · intro w'
              first | (go_simp; done) | (go_simp; with_reducible rfl)
            rotate_left
            · simp only [Act.put, List.setIfInBounds_toArray, List.set_cons_zero, List.set_cons_succ, i64_w, i32_w]
              rfl
            refine pure_ (i := 5) (N := some 85) (v := ?_) (a' := ?_) #[true, true, true, true, true, true, false, false, false, false, false, false] rfl rfl (by kernel_rfl) (fun _ _ _ h => h) (Or.inl ⟨by rfl, ?_⟩) ?_ ?_
            rotate_left
            · intro w'
              first | (go_simp; done) | (go_simp; with_reducible rfl)
            rotate_left
            · simp only [Act.put, List.setIfInBounds_toArray, List.set_cons_zero, List.set_cons_succ, i64_w, i32_w]
              rfl
            refine pure_ (i := 8) (N := some 88) (v := ?_) (a' := ?_) #[true, true, true, true, true, true, false, false, true, false, false, false] rfl rfl (by kernel_rfl) (fun _ _ _ h => h) (Or.inl ⟨by rfl, ?_⟩) ?_ ?_
            rotate_left
            · intro w'
              first | (go_simp; done) | (go_simp; with_reducible rfl)
            rotate_left
            · simp only [Act.put, List.setIfInBounds_toArray, List.set_cons_zero, List.set_cons_succ, i64_w, i32_w]
              rfl
            refine take_ (i := 7) (N := some 87) (v := ?_) (a' := ?_) #[true, true, true, true, true, true, false, true, true, false, false, false] rfl rfl (by kernel_rfl) (fun _ _ _ h => h) (Or.inl ⟨by rfl, ?_⟩) hHeld ?_ ?_
            rotate_left
            · intro w' hSw
              (try dsimp only at hSw)
              have hcx := hSw.cell
              first | (go_simp; done) | (go_simp; with_reducible rfl) | (go_simp; rfl)
            rotate_left
            · simp only [Act.put, List.setIfInBounds_toArray, List.set_cons_zero, List.set_cons_succ, i64_w, i32_w]
              rfl
            refine one_ (i := 6) (N := some 86) #[true, true, true, true, true, true, true, true, true, false, false, false] rfl rfl (by kernel_rfl) (by decide) (fun K hK => ?_)
            refine goes_ Try.func16 (by kernel_rfl) rfl #[.pointer (some ⟨m + 1, 0, none⟩), .int .u64 (q : Int)] (by rfl) rfl rfl (by (try simp only [List.map_toArray, List.map_cons, List.map_nil]); first | done | rfl) ?_
            with_reducible refine (taken_any hHeld.fr q (by omega)).mono ?_
            rintro e w8 ⟨rfl, rfl⟩
            refine ⟨_, rfl, ?_⟩
            refine hK.out _ _ hHeld (fun hHeld => ?_)
            clear hK K
            refine norm_ (a' := ?_) ?_ ?_
            rotate_left
            · show Act.put _ (some 86) _ = _
              simp only [Act.put, List.setIfInBounds_toArray, List.set_cons_zero, List.set_cons_succ, i64_w, i32_w]
              rfl
            refine one_ (i := 9) (N := some 89) #[true, true, true, true, true, true, true, true, true, true, false, false] rfl rfl (by kernel_rfl) (by decide) (fun K hK => ?_)
            refine goes_ Try.func17 (by kernel_rfl) rfl #[.agg #[.slice A' S'.length c'], .int .u64 (q : Int)] (by rfl) rfl rfl (by (try simp only [List.map_toArray, List.map_cons, List.map_nil]); first | done | rfl) ?_
            with_reducible refine (Fn.dormerref22_Has.calls (S'.length + 1) A' c' S' _ _ _ hHeld.C.1 hHeld.C.2 (Rf.has_val S' q (by omega))).mono ?_
            rintro e w9 ⟨rfl, hb9⟩
            refine ⟨_, rfl, ?_⟩
            refine hK.out _ _ (hHeld.below hb9) (fun hHeld => ?_)
            clear hK K
            refine norm_ (a' := ?_) ?_ ?_
            rotate_left
            · show Act.put _ (some 89) _ = _
              simp only [Act.put, List.setIfInBounds_toArray, List.set_cons_zero, List.set_cons_succ, i64_w, i32_w]
              rfl
            refine pure_ (i := 10) (N := some 90) (v := ?_) (a' := ?_) #[true, true, true, true, true, true, true, true, true, true, true, false] rfl rfl (by kernel_rfl) (fun _ _ _ h => h) (Or.inl ⟨by rfl, ?_⟩) ?_ ?_
            rotate_left
            · intro w'
              go_simp; rfl
            rotate_left
            · simp only [Act.put, List.setIfInBounds_toArray, List.set_cons_zero, List.set_cons_succ, i64_w, i32_w]
              rfl
            refine pure_ (i := 11) (N := some 91) (v := ?_) (a' := ?_) #[true, true, true, true, true, true, true, true, true, true, true, true] rfl rfl (by kernel_rfl) (fun _ _ _ h => h) (Or.inl ⟨by rfl, ?_⟩) ?_ ?_
            rotate_left
            · intro w'
              go_simp; rfl
            rotate_left
            · simp only [Act.put, List.setIfInBounds_toArray, List.set_cons_zero, List.set_cons_succ, i64_w, i32_w]
              rfl
            refine done_ (by kernel_rfl) ?_
            try go_wp2_with fail
            have HP := Lib.hid hHeld
            refine start_ (n := 5) (S := (fun W' => Pl w W' m X S' A' c')) (ds := []) #[false, false, false, false, false] (by kernel_rfl) rfl rfl HP.out.drew (fun hHeld => ?_)
            clear HP
            generalize World.drew _ = W2 at *
            refine pure_ (i := 0) (N := some 92) (v := ?_) (a' := ?_) #[true, false, false, false, false] rfl rfl (by kernel_rfl) (fun _ _ _ h => h) (Or.inl ⟨by rfl, ?_⟩) ?_ ?_
            rotate_left
            · intro w'
              first | (go_simp; done) | (go_simp; with_reducible rfl)
            rotate_left
            · simp only [Act.put, List.setIfInBounds_toArray, List.set_cons_zero, List.set_cons_succ, i64_w, i32_w]
              rfl
            refine take_ (i := 2) (N := some 94) (v := ?_) (a' := ?_) #[true, false, true, false, false] rfl rfl (by kernel_rfl) (fun _ _ _ h => h) (Or.inl ⟨by rfl, ?_⟩) hHeld ?_ ?_
            rotate_left
            · intro w' hSw
              (try dsimp only at hSw)
              have hcx := hSw.cell
              first | (go_simp; done) | (go_simp; with_reducible rfl) | (go_simp; rfl)
            rotate_left
            · simp only [Act.put, List.setIfInBounds_toArray, List.set_cons_zero, List.set_cons_succ, i64_w, i32_w]
              rfl
            refine one_ (i := 1) (N := some 93) #[true, true, true, false, false] rfl rfl (by kernel_rfl) (by decide) (fun K hK => ?_)
            refine goes_ Try.func18 (by kernel_rfl) rfl #[.pointer (some ⟨m + 1, 0, none⟩)] (by rfl) rfl rfl (by (try simp only [List.map_toArray, List.map_cons, List.map_nil]); first | done | rfl) ?_
            with_reducible refine (free_any hHeld.fr).mono ?_
            rintro e w8 ⟨rfl, ⟨nd, rfl⟩⟩
            refine ⟨_, rfl, ?_⟩
            refine hK.out _ _ (hHeld.drewN nd) (fun hHeld => ?_)
            clear hK K
            refine norm_ (a' := ?_) ?_ ?_
            rotate_left
            · show Act.put _ (some 93) _ = _
              simp only [Act.put, List.setIfInBounds_toArray, List.set_cons_zero, List.set_cons_succ, i64_w, i32_w]
              rfl
            refine one_ (i := 3) (N := some 95) #[true, true, true, true, false] rfl rfl (by kernel_rfl) (by decide) (fun K hK => ?_)
            refine goes_ Try.func19 (by kernel_rfl) rfl #[.agg #[.slice A' S'.length c']] (by rfl) rfl rfl (by (try simp only [List.map_toArray, List.map_cons, List.map_nil]); first | done | rfl) ?_
            with_reducible refine (Fn.dormerref22_Free.calls (S'.length + 1) A' c' S' _ _ hHeld.C.1 hHeld.C.2 (Rf.free_val S' (by omega))).mono ?_
            rintro e w9 ⟨rfl, hb9⟩
            refine ⟨_, rfl, ?_⟩
            refine hK.out _ _ (hHeld.below hb9) (fun hHeld => ?_)
            clear hK K
            refine norm_ (a' := ?_) ?_ ?_
            rotate_left
            · show Act.put _ (some 95) _ = _
              simp only [Act.put, List.setIfInBounds_toArray, List.set_cons_zero, List.set_cons_succ, i64_w, i32_w]
              rfl
            refine pure_ (i := 4) (N := some 96) (v := ?_) (a' := ?_) #[true, true, true, true, true] rfl rfl (by kernel_rfl) (fun _ _ _ h => h) (Or.inl ⟨by rfl, ?_⟩) ?_ ?_
            rotate_left
            · intro w'
              go_simp; rfl
            rotate_left
            · simp only [Act.put, List.setIfInBounds_toArray, List.set_cons_zero, List.set_cons_succ, i64_w, i32_w]
              rfl
            refine done_ (by kernel_rfl) ?_
            try go_wp2_with fail
            go_roundw
            case rel => exact ⟨i + 1, S', A', c', by go_num, by omega, hS'.out, Lib.hid hHeld⟩
            case measure => simp [intOf]; omega
          | false =>
            refine (give_bad HP.out.fr q hq ho).mono ?_
            rintro e w4 ⟨rfl, rfl⟩
            have hcx := HP.out.cell
            have T1 := Lib.hid (Rf.give_bad S A c wr HP.out.C.1 HP.out.C.2 (by omega) q hq ho)
            clear hc ho
            go_wp2_with fail
            refine T1.out.mono ?_
            rintro e w5 ⟨rfl, hB5⟩
            have hx6 := blk_alloc (blk_below HP.out.x hB5) (.cells #[.slice A S.length c] 28)
            have hcx6 : (w5.alloc (.cells #[.slice A S.length c] 28)).cell? ⟨X, 0, none⟩ = some (.slice A S.length c) := (blk_cell hx6 0).trans rfl
            have hfx6 := blk_frozen hx6 0
            have HPn := Lib.hid (fun W hW => Pl.same (W := W) HP.out hB5 (.cells #[.slice A S.length c] 28) hW)
            clear hcx T1 hx6 hB5 HP
            go_wp2_with fail
            have HP := Lib.hid (HPn.out _ rfl)
            clear HPn hcx6 hfx6
            generalize (w5.alloc (.cells #[.slice A S.length c] 28)).setCell ⟨X, 0, none⟩ (.slice A S.length c) = W at *
            have hS' := hS
            have hS15' := hS15
            clear hS hS15
            revert HP hS' hS15'
            generalize S = S', A = A', c = c'
            intro HP hS' hS15'
            refine start_ (n := 12) (S := (fun W' => Pl w W' m X S' A' c')) (ds := []) #[false, false, false, false, false, false, false, false, false, false, false, false] (by kernel_rfl) rfl rfl HP.out.drew (fun hHeld => ?_)
            clear HP
            generalize World.drew W = W1 at *
            refine pure_ (i := 0) (N := some 80) (v := ?_) (a' := ?_) #[true, false, false, false, false, false, false, false, false, false, false, false] rfl rfl (by kernel_rfl) (fun _ _ _ h => h) (Or.inl ⟨by rfl, ?_⟩) ?_ ?_
            rotate_left
            · intro w'
              first | (go_simp; done) | (go_simp; with_reducible rfl)
            rotate_left
            · simp only [Act.put, List.setIfInBounds_toArray, List.set_cons_zero, List.set_cons_succ, i64_w, i32_w]
              rfl
            refine pure_ (i := 1) (N := some 81) (v := ?_) (a' := ?_) #[true, true, false, false, false, false, false, false, false, false, false, false] rfl rfl (by kernel_rfl) (fun _ _ _ h => h) (Or.inl ⟨by rfl, ?_⟩) ?_ ?_
            rotate_left
            · intro w'
              first | (go_simp; done) | (go_simp; with_reducible rfl)
            rotate_left
            · simp only [Act.put, List.setIfInBounds_toArray, List.set_cons_zero, List.set_cons_succ, i64_w, i32_w]
              rfl
            refine pure_ (i := 2) (N := some 82) (v := ?_) (a' := ?_) #[true, true, true, false, false, false, false, false, false, false, false, false] rfl rfl (by kernel_rfl) (fun _ _ _ h => h) (Or.inl ⟨by rfl, ?_⟩) ?_ ?_
            rotate_left
            · intro w'
              go_simp; rfl
            rotate_left
            · simp only [Act.put, List.setIfInBounds_toArray, List.set_cons_zero, List.set_cons_succ, i64_w, i32_w]
              rfl
            refine pure_ (i := 3) (N := some 83) (v := ?_) (a' := ?_) #[true, true, true, true, false, false, false, false, false, false, false, false] rfl rfl (by kernel_rfl) (fun _ _ _ h => h) (Or.inl ⟨by rfl, ?_⟩) ?_ ?_
            rotate_left
            · intro w'
              first | (go_simp; done) | (go_simp; with_reducible rfl)
            rotate_left
            · simp only [Act.put, List.setIfInBounds_toArray, List.set_cons_zero, List.set_cons_succ, i64_w, i32_w]
              rfl
            refine pure_ (i := 4) (N := some 84) (v := ?_) (a' := ?_) #[true, true, true, true, true, false, false, false, false, false, false, false] rfl rfl (by kernel_rfl) (fun _ _ _ h => h) (Or.inl ⟨by rfl, ?_⟩) ?_ ?_
            rotate_left
            · intro w'
              first | (go_simp; done) | (go_simp; with_reducible rfl)
            rotate_left
            · simp only [Act.put, List.setIfInBounds_toArray, List.set_cons_zero, List.set_cons_succ, i64_w, i32_w]
              rfl
            refine pure_ (i := 5) (N := some 85) (v := ?_) (a' := ?_) #[true, true, true, true, true, true, false, false, false, false, false, false] rfl rfl (by kernel_rfl) (fun _ _ _ h => h) (Or.inl ⟨by rfl, ?_⟩) ?_ ?_
            rotate_left
            · intro w'
              first | (go_simp; done) | (go_simp; with_reducible rfl)
            rotate_left
            · simp only [Act.put, List.setIfInBounds_toArray, List.set_cons_zero, List.set_cons_succ, i64_w, i32_w]
              rfl
            refine pure_ (i := 8) (N := some 88) (v := ?_) (a' := ?_) #[true, true, true, true, true, true, false, false, true, false, false, false] rfl rfl (by kernel_rfl) (fun _ _ _ h => h) (Or.inl ⟨by rfl, ?_⟩) ?_ ?_
            rotate_left
            · intro w'
              first | (go_simp; done) | (go_simp; with_reducible rfl)
            rotate_left
            · simp only [Act.put, List.setIfInBounds_toArray, List.set_cons_zero, List.set_cons_succ, i64_w, i32_w]
              rfl
            refine take_ (i := 7) (N := some 87) (v := ?_) (a' := ?_) #[true, true, true, true, true, true, false, true, true, false, false, false] rfl rfl (by kernel_rfl) (fun _ _ _ h => h) (Or.inl ⟨by rfl, ?_⟩) hHeld ?_ ?_
            rotate_left
            · intro w' hSw
              (try dsimp only at hSw)
              have hcx := hSw.cell
              first | (go_simp; done) | (go_simp; with_reducible rfl) | (go_simp; rfl)
            rotate_left
            · simp only [Act.put, List.setIfInBounds_toArray, List.set_cons_zero, List.set_cons_succ, i64_w, i32_w]
              rfl
            refine one_ (i := 6) (N := some 86) #[true, true, true, true, true, true, true, true, true, false, false, false] rfl rfl (by kernel_rfl) (by decide) (fun K hK => ?_)
            refine goes_ Try.func16 (by kernel_rfl) rfl #[.pointer (some ⟨m + 1, 0, none⟩), .int .u64 (q : Int)] (by rfl) rfl rfl (by (try simp only [List.map_toArray, List.map_cons, List.map_nil]); first | done | rfl) ?_
            with_reducible refine (taken_any hHeld.fr q (by omega)).mono ?_
            rintro e w8 ⟨rfl, rfl⟩
            refine ⟨_, rfl, ?_⟩
            refine hK.out _ _ hHeld (fun hHeld => ?_)
            clear hK K
            refine norm_ (a' := ?_) ?_ ?_
            rotate_left
            · show Act.put _ (some 86) _ = _
              simp only [Act.put, List.setIfInBounds_toArray, List.set_cons_zero, List.set_cons_succ, i64_w, i32_w]
              rfl
            refine one_ (i := 9) (N := some 89) #[true, true, true, true, true, true, true, true, true, true, false, false] rfl rfl (by kernel_rfl) (by decide) (fun K hK => ?_)
            refine goes_ Try.func17 (by kernel_rfl) rfl #[.agg #[.slice A' S'.length c'], .int .u64 (q : Int)] (by rfl) rfl rfl (by (try simp only [List.map_toArray, List.map_cons, List.map_nil]); first | done | rfl) ?_
            with_reducible refine (Fn.dormerref22_Has.calls (S'.length + 1) A' c' S' _ _ _ hHeld.C.1 hHeld.C.2 (Rf.has_val S' q (by omega))).mono ?_
            rintro e w9 ⟨rfl, hb9⟩
            refine ⟨_, rfl, ?_⟩
            refine hK.out _ _ (hHeld.below hb9) (fun hHeld => ?_)
            clear hK K
            refine norm_ (a' := ?_) ?_ ?_
            rotate_left
            · show Act.put _ (some 89) _ = _
              simp only [Act.put, List.setIfInBounds_toArray, List.set_cons_zero, List.set_cons_succ, i64_w, i32_w]
              rfl
            refine pure_ (i := 10) (N := some 90) (v := ?_) (a' := ?_) #[true, true, true, true, true, true, true, true, true, true, true, false] rfl rfl (by kernel_rfl) (fun _ _ _ h => h) (Or.inl ⟨by rfl, ?_⟩) ?_ ?_
            rotate_left
            · intro w'
              go_simp; rfl
            rotate_left
            · simp only [Act.put, List.setIfInBounds_toArray, List.set_cons_zero, List.set_cons_succ, i64_w, i32_w]
              rfl
            refine pure_ (i := 11) (N := some 91) (v := ?_) (a' := ?_) #[true, true, true, true, true, true, true, true, true, true, true, true] rfl rfl (by kernel_rfl) (fun _ _ _ h => h) (Or.inl ⟨by rfl, ?_⟩) ?_ ?_
            rotate_left
            · intro w'
              go_simp; rfl
            rotate_left
            · simp only [Act.put, List.setIfInBounds_toArray, List.set_cons_zero, List.set_cons_succ, i64_w, i32_w]
              rfl
            refine done_ (by kernel_rfl) ?_
            try go_wp2_with fail
            have HP := Lib.hid hHeld
            refine start_ (n := 5) (S := (fun W' => Pl w W' m X S' A' c')) (ds := []) #[false, false, false, false, false] (by kernel_rfl) rfl rfl HP.out.drew (fun hHeld => ?_)
            clear HP
            generalize World.drew _ = W2 at *
            refine pure_ (i := 0) (N := some 92) (v := ?_) (a' := ?_) #[true, false, false, false, false] rfl rfl (by kernel_rfl) (fun _ _ _ h => h) (Or.inl ⟨by rfl, ?_⟩) ?_ ?_
            rotate_left
            · intro w'
              first | (go_simp; done) | (go_simp; with_reducible rfl)
            rotate_left
            · simp only [Act.put, List.setIfInBounds_toArray, List.set_cons_zero, List.set_cons_succ, i64_w, i32_w]
              rfl
            refine take_ (i := 2) (N := some 94) (v := ?_) (a' := ?_) #[true, false, true, false, false] rfl rfl (by kernel_rfl) (fun _ _ _ h => h) (Or.inl ⟨by rfl, ?_⟩) hHeld ?_ ?_
            rotate_left
            · intro w' hSw
              (try dsimp only at hSw)
              have hcx := hSw.cell
              first | (go_simp; done) | (go_simp; with_reducible rfl) | (go_simp; rfl)
            rotate_left
            · simp only [Act.put, List.setIfInBounds_toArray, List.set_cons_zero, List.set_cons_succ, i64_w, i32_w]
              rfl
            refine one_ (i := 1) (N := some 93) #[true, true, true, false, false] rfl rfl (by kernel_rfl) (by decide) (fun K hK => ?_)
            refine goes_ Try.func18 (by kernel_rfl) rfl #[.pointer (some ⟨m + 1, 0, none⟩)] (by rfl) rfl rfl (by (try simp only [List.map_toArray, List.map_cons, List.map_nil]); first | done | rfl) ?_
            with_reducible refine (free_any hHeld.fr).mono ?_
            rintro e w8 ⟨rfl, ⟨nd, rfl⟩⟩
            refine ⟨_, rfl, ?_⟩
            refine hK.out _ _ (hHeld.drewN nd) (fun hHeld => ?_)
            clear hK K
            refine norm_ (a' := ?_) ?_ ?_
            rotate_left
            · show Act.put _ (some 93) _ = _
              simp only [Act.put, List.setIfInBounds_toArray, List.set_cons_zero, List.set_cons_succ, i64_w, i32_w]
              rfl
            refine one_ (i := 3) (N := some 95) #[true, true, true, true, false] rfl rfl (by kernel_rfl) (by decide) (fun K hK => ?_)
            refine goes_ Try.func19 (by kernel_rfl) rfl #[.agg #[.slice A' S'.length c']] (by rfl) rfl rfl (by (try simp only [List.map_toArray, List.map_cons, List.map_nil]); first | done | rfl) ?_
            with_reducible refine (Fn.dormerref22_Free.calls (S'.length + 1) A' c' S' _ _ hHeld.C.1 hHeld.C.2 (Rf.free_val S' (by omega))).mono ?_
            rintro e w9 ⟨rfl, hb9⟩
            refine ⟨_, rfl, ?_⟩
            refine hK.out _ _ (hHeld.below hb9) (fun hHeld => ?_)
            clear hK K
            refine norm_ (a' := ?_) ?_ ?_
            rotate_left
            · show Act.put _ (some 95) _ = _
              simp only [Act.put, List.setIfInBounds_toArray, List.set_cons_zero, List.set_cons_succ, i64_w, i32_w]
              rfl
            refine pure_ (i := 4) (N := some 96) (v := ?_) (a' := ?_) #[true, true, true, true, true] rfl rfl (by kernel_rfl) (fun _ _ _ h => h) (Or.inl ⟨by rfl, ?_⟩) ?_ ?_
            rotate_left
            · intro w'
              go_simp; rfl
            rotate_left
            · simp only [Act.put, List.setIfInBounds_toArray, List.set_cons_zero, List.set_cons_succ, i64_w, i32_w]
              rfl
            refine done_ (by kernel_rfl) ?_
            try go_wp2_with fail
            go_roundw
            case rel => exact ⟨i + 1, S', A', c', by go_num, by omega, hS'.out, Lib.hid hHeld⟩
            case measure => simp [intOf]; omega
      · have hlt2 : (i : Int) < (len : Int) := by omega
        have h1002 : ¬ (i : Int) < 100 := by omega
        have T1 := Lib.hid (fun n : Nat => (room_any (HP.out.fr.drewN n)).mono fun e w'' (h : _ ∧ _) => (⟨h.1, n, h.2.symm⟩ : _ ∧ ∃ m, w'' = wr.drewN m))
        have hcx := HP.out.cell
        have hb9 := Aside0.mk HP.out.b
        go_wp2_with fail
        go_quiet ((go_at_call 20; exact T1.out _))
        try go_wp2_with fail
        go_ret
        exact ⟨rfl, pw_below_drewN hb9.out _⟩
    · have hlt2 : ¬ (i : Int) < (len : Int) := by omega
      have T1 := Lib.hid (fun n : Nat => (room_any (HP.out.fr.drewN n)).mono fun e w'' (h : _ ∧ _) => (⟨h.1, n, h.2.symm⟩ : _ ∧ ∃ m, w'' = wr.drewN m))
      have hcx := HP.out.cell
      have hb9 := Aside0.mk HP.out.b
      go_wp2_with fail
      go_quiet ((go_at_call 20; exact T1.out _))
      try go_wp2_with fail
      go_ret
      exact ⟨rfl, pw_below_drewN hb9.out _⟩
set_option maxHeartbeats 8000000 in
set_option maxRecDepth 100000 in
theorem plays16 (b : Int) (a : Option Addr) (len cap : Nat) (w : World) (hb0 : 0 ≤ b) (hb1 : b < 256) (hbc : b % 3 = 2) (hlen : len < 9223372036854775808)
    (hcell : Hid (∀ wr : World, Below w.heap.size w wr → ∀ i : Nat, i < len → ∃ x v, a = some x ∧ wr.cell? (x.add i) = some (.int .i64 v) ∧ -9223372036854775808 ≤ v ∧ v < 9223372036854775808)) :
    Calls Try.prog 3 #[.int .u8 b, .slice a len cap] w fun e w' => e = .returned (.bool true) ∧ Below w.heap.size w w' := by
  go_enter Try.func3, Try.ntmps3
  go_wp2_with fail
  refine (awake_any w).mono ?_
  rintro e w1 ⟨rfl, B1⟩
  go_wp2_with fail
  refine (new_ok 16 w1 (by decide) (by decide)).mono ?_
  rintro e w2 ⟨rfl, F2, B2⟩
  replace F2 : FrAt w2 (w1.heap.size + 1) w1.heap.size (List.replicate 15 false) := F2
  have hm : w.heap.size ≤ w1.heap.size := B1.size
  have HB := below_step B1 B2
  generalize w1.heap.size = m at *
  clear B1 B2
  go_wp2_with fail
  refine (Fn.dormerref22_New.calls 20 16 _ w2 (Rf.new_val 16 (by decide) (by decide))).mono ?_
  rintro e w3 ⟨v, rfl, hR, hB⟩
  replace hR : Kd.R Kd.bool 4 w3 w2.heap.size (fun _ => True) v (List.replicate 15 false) := hR
  obtain ⟨A, c, rfl⟩ := Kd.R_slice hR
  have hl := F2.lt
  have hl3 := hB.size
  have hR6 : Kd.R Kd.bool 4 w3 w.heap.size (fun q => q ≠ m ∧ q ≠ w3.heap.size) (.slice A 15 c) (List.replicate 15 false) := by
    refine Kd.R_mono (Kd.R_lower (Kd.R_bound hR) (by omega)) ?_
    intro q hq
    have := hq.2.1
    have := hq.2.2.1
    exact ⟨by omega, by omega⟩
  have HP : Pl w (w3.alloc (.cells #[.slice A 15 c] 28)) m w3.heap.size (List.replicate 15 false) A c :=
    ⟨(F2.below hB).below (below_alloc (Below.refl _ _) _), blk_new w3 _, Kd.R_alloc hR6 _, below_alloc (below_step HB hB) _, by omega, hm⟩
  have HP := Lib.hid HP
  clear hR hR6 HB F2
  generalize hX : w3.heap.size = X at *
  go_wp2_with fail
  go_loopw [9] (fun y wr => ∃ (i : Nat) (S : List Bool) (A : Option Addr) (c : Nat), y = .int .i64 (i : Int) ∧ i ≤ len ∧ S.length = 15 ∧ Hid (Pl w wr m X S A c)) (fun y _ => 100 - (intOf y).toNat)
  case atStart => exact ⟨0, _, A, c, rfl, by omega, by simp, HP⟩
  case round =>
    clear HP hB hl hl3 hX
    obtain ⟨i, S, A, c, rfl, hi, hS, HP⟩ := hrel
    have hS15 : S.length ≤ 15 := by omega
    replace hS := Lib.hid hS
    by_cases hlt : i < len
    · by_cases h100 : i < 100
      · have hlt2 : (i : Int) < (len : Int) := by omega
        have h1002 : (i : Int) < 100 := by omega
        obtain ⟨x, v, rfl, hc, hv1, hv2⟩ := hcell.out _ HP.out.b i hlt
        by_cases hv : v < 0
        · go_wp2_with fail
          rcases lowest S with ⟨k, hk1, hk2, hk3⟩ | hk
          · refine (take_some HP.out.fr k hk1 hk2 hk3).mono ?_
            rintro e w4 ⟨rfl, F4, G4⟩
            have hx4 := blk_grown HP.out.x G4 (by have := HP.out.ne; simp; omega)
            have hcx : w4.cell? ⟨X, 0, none⟩ = some (.slice A S.length c) := (blk_cell hx4 0).trans rfl
            have hR4 := Kd.R_grown HP.out.r G4 (fun q hq => by simpa using hq.1)
            obtain ⟨A2, c2, e2, hl2, hC2⟩ := Kd.R_reads hR4
            injection e2 with e1 e2 e3
            subst e1 e3
            have T1 := Lib.hid (Rf.take_some S A c w4 hC2 hl2 (by omega) k hk1 hk2 hk3)
            have ek : (((k + 1) * 4096 : Nat) : Int) = ((k : Int) + 1) * 4096 := by omega
            rw [ek] at T1 ⊢
            clear ek hR4 hC2 hl2 hc
            go_wp2_with fail
            refine T1.out.mono ?_
            rintro e w5 ⟨v5, rfl, hR5, hB5⟩
            have hx5 := blk_below hx4 hB5
            have hcx5 : w5.cell? ⟨X, 0, none⟩ = some (.slice A S.length c) := (blk_cell hx5 0).trans rfl
            have hfx5 := blk_frozen hx5 0
            obtain ⟨A', c', rfl⟩ := Kd.R_slice hR5
            have hlS : (S.set k true).length = S.length := List.length_set
            have hx6 := blk_alloc hx5 (.cells #[.slice A' (S.set k true).length c'] 28)
            have hcx6 : (w5.alloc (.cells #[.slice A' (S.set k true).length c'] 28)).cell? ⟨X, 0, none⟩ = some (.slice A S.length c) := (blk_cell hx6 0).trans rfl
            have hfx6 := blk_frozen hx6 0
            have HPn := Lib.hid (fun W hW => Pl.next (W := W) HP.out G4 F4 hB5 hR5 (.cells #[.slice A' (S.set k true).length c'] 28) hW)
            have hS' := Lib.hid (show (S.set k true).length = 15 by rw [hlS, hS.out])
            have hS15' : (S.set k true).length ≤ 15 := by omega
            clear hx4 hcx T1 hR5 hx5 hx6 hcx5 hfx5 hlS F4 G4 hB5 hk1 hk2 hk3 HP
            generalize S.set k true = S' at *
            go_wp2_with fail
            have HP := Lib.hid (HPn.out _ rfl)
            clear HPn hcx6 hfx6
            generalize (w5.alloc (.cells #[.slice A' S'.length c'] 28)).setCell ⟨X, 0, none⟩ (.slice A' S'.length c') = W at *
            refine start_ (n := 5) (S := (fun W' => Pl w W' m X S' A' c')) (ds := []) #[false, false, false, false, false] (by kernel_rfl) rfl rfl HP.out.drew (fun hHeld => ?_)
            clear HP
            generalize World.drew W = W1 at *
            refine pure_ (i := 0) (N := some 92) (v := ?_) (a' := ?_) #[true, false, false, false, false] rfl rfl (by kernel_rfl) (fun _ _ _ h => h) (Or.inl ⟨by rfl, ?_⟩) ?_ ?_
            rotate_left
            · intro w'
              first | (go_simp; done) | (go_simp; with_reducible rfl)
            rotate_left
            · simp only [Act.put, List.setIfInBounds_toArray, List.set_cons_zero, List.set_cons_succ, i64_w, i32_w]
              rfl
            refine take_ (i := 2) (N := some 94) (v := ?_) (a' := ?_) #[true, false, true, false, false] rfl rfl (by kernel_rfl) (fun _ _ _ h => h) (Or.inl ⟨by rfl, ?_⟩) hHeld ?_ ?_
            rotate_left
            · intro w' hSw
              (try dsimp only at hSw)
              have hcx := hSw.cell
              first | (go_simp; done) | (go_simp; with_reducible rfl) | (go_simp; rfl)
            rotate_left
            · simp only [Act.put, List.setIfInBounds_toArray, List.set_cons_zero, List.set_cons_succ, i64_w, i32_w]
              rfl
            refine one_ (i := 1) (N := some 93) #[true, true, true, false, false] rfl rfl (by kernel_rfl) (by decide) (fun K hK => ?_)
            refine goes_ Try.func18 (by kernel_rfl) rfl #[.pointer (some ⟨m + 1, 0, none⟩)] (by rfl) rfl rfl (by (try simp only [List.map_toArray, List.map_cons, List.map_nil]); first | done | rfl) ?_
            with_reducible refine (free_any hHeld.fr).mono ?_
            rintro e w8 ⟨rfl, ⟨nd, rfl⟩⟩
            refine ⟨_, rfl, ?_⟩
            refine hK.out _ _ (hHeld.drewN nd) (fun hHeld => ?_)
            clear hK K
            refine norm_ (a' := ?_) ?_ ?_
            rotate_left
            · show Act.put _ (some 93) _ = _
              simp only [Act.put, List.setIfInBounds_toArray, List.set_cons_zero, List.set_cons_succ, i64_w, i32_w]
              rfl
            refine one_ (i := 3) (N := some 95) #[true, true, true, true, false] rfl rfl (by kernel_rfl) (by decide) (fun K hK => ?_)
            refine goes_ Try.func19 (by kernel_rfl) rfl #[.agg #[.slice A' S'.length c']] (by rfl) rfl rfl (by (try simp only [List.map_toArray, List.map_cons, List.map_nil]); first | done | rfl) ?_
            with_reducible refine (Fn.dormerref22_Free.calls (S'.length + 1) A' c' S' _ _ hHeld.C.1 hHeld.C.2 (Rf.free_val S' (by omega))).mono ?_
            rintro e w9 ⟨rfl, hb9⟩
            refine ⟨_, rfl, ?_⟩
            refine hK.out _ _ (hHeld.below hb9) (fun hHeld => ?_)
            clear hK K
            refine norm_ (a' := ?_) ?_ ?_
            rotate_left
            · show Act.put _ (some 95) _ = _
              simp only [Act.put, List.setIfInBounds_toArray, List.set_cons_zero, List.set_cons_succ, i64_w, i32_w]
              rfl
            refine pure_ (i := 4) (N := some 96) (v := ?_) (a' := ?_) #[true, true, true, true, true] rfl rfl (by kernel_rfl) (fun _ _ _ h => h) (Or.inl ⟨by rfl, ?_⟩) ?_ ?_
            rotate_left
            · intro w'
              go_simp; rfl
            rotate_left
            · simp only [Act.put, List.setIfInBounds_toArray, List.set_cons_zero, List.set_cons_succ, i64_w, i32_w]
              rfl
            refine done_ (by kernel_rfl) ?_
            try go_wp2_with fail
            go_roundw
            case rel => exact ⟨i + 1, S', A', c', by go_num, by omega, hS'.out, Lib.hid hHeld⟩
            case measure => simp [intOf]; omega
          · refine (take_none HP.out.fr hk).mono ?_
            rintro e w4 ⟨rfl, rfl⟩
            have hcx := HP.out.cell
            have T1 := Lib.hid (Rf.take_none S A c wr HP.out.C.1 HP.out.C.2 (by omega) hk)
            clear hc hk
            go_wp2_with fail
            refine T1.out.mono ?_
            rintro e w5 ⟨rfl, hB5⟩
            have hx6 := blk_alloc (blk_below HP.out.x hB5) (.cells #[.slice A S.length c] 28)
            have hcx6 : (w5.alloc (.cells #[.slice A S.length c] 28)).cell? ⟨X, 0, none⟩ = some (.slice A S.length c) := (blk_cell hx6 0).trans rfl
            have hfx6 := blk_frozen hx6 0
            have HPn := Lib.hid (fun W hW => Pl.same (W := W) HP.out hB5 (.cells #[.slice A S.length c] 28) hW)
            clear hcx T1 hx6 hB5 HP
            go_wp2_with fail
            have HP := Lib.hid (HPn.out _ rfl)
            clear HPn hcx6 hfx6
            generalize (w5.alloc (.cells #[.slice A S.length c] 28)).setCell ⟨X, 0, none⟩ (.slice A S.length c) = W at *
            have hS' := hS
            have hS15' := hS15
            clear hS hS15
            revert HP hS' hS15'
            generalize S = S', A = A', c = c'
            intro HP hS' hS15'
            refine start_ (n := 5) (S := (fun W' => Pl w W' m X S' A' c')) (ds := []) #[false, false, false, false, false] (by kernel_rfl) rfl rfl HP.out.drew (fun hHeld => ?_)
            clear HP
            generalize World.drew W = W1 at *
            refine pure_ (i := 0) (N := some 92) (v := ?_) (a' := ?_) #[true, false, false, false, false] rfl rfl (by kernel_rfl) (fun _ _ _ h => h) (Or.inl ⟨by rfl, ?_⟩) ?_ ?_
            rotate_left
            · intro w'
              first | (go_simp; done) | (go_simp; with_reducible rfl)
            rotate_left
            · simp only [Act.put, List.setIfInBounds_toArray, List.set_cons_zero, List.set_cons_succ, i64_w, i32_w]
              rfl
            refine take_ (i := 2) (N := some 94) (v := ?_) (a' := ?_) #[true, false, true, false, false] rfl rfl (by kernel_rfl) (fun _ _ _ h => h) (Or.inl ⟨by rfl, ?_⟩) hHeld ?_ ?_
            rotate_left
            · intro w' hSw
              (try dsimp only at hSw)
              have hcx := hSw.cell
              first | (go_simp; done) | (go_simp; with_reducible rfl) | (go_simp; rfl)
            rotate_left
            · simp only [Act.put, List.setIfInBounds_toArray, List.set_cons_zero, List.set_cons_succ, i64_w, i32_w]
              rfl
            refine one_ (i := 1) (N := some 93) #[true, true, true, false, false] rfl rfl (by kernel_rfl) (by decide) (fun K hK => ?_)
            refine goes_ Try.func18 (by kernel_rfl) rfl #[.pointer (some ⟨m + 1, 0, none⟩)] (by rfl) rfl rfl (by (try simp only [List.map_toArray, List.map_cons, List.map_nil]); first | done | rfl) ?_
            with_reducible refine (free_any hHeld.fr).mono ?_
            rintro e w8 ⟨rfl, ⟨nd, rfl⟩⟩
            refine ⟨_, rfl, ?_⟩
            refine hK.out _ _ (hHeld.drewN nd) (fun hHeld => ?_)
            clear hK K
            refine norm_ (a' := ?_) ?_ ?_
            rotate_left
            · show Act.put _ (some 93) _ = _
              simp only [Act.put, List.setIfInBounds_toArray, List.set_cons_zero, List.set_cons_succ, i64_w, i32_w]
              rfl
            refine one_ (i := 3) (N := some 95) #[true, true, true, true, false] rfl rfl (by kernel_rfl) (by decide) (fun K hK => ?_)
            refine goes_ Try.func19 (by kernel_rfl) rfl #[.agg #[.slice A' S'.length c']] (by rfl) rfl rfl (by (try simp only [List.map_toArray, List.map_cons, List.map_nil]); first | done | rfl) ?_
            with_reducible refine (Fn.dormerref22_Free.calls (S'.length + 1) A' c' S' _ _ hHeld.C.1 hHeld.C.2 (Rf.free_val S' (by omega))).mono ?_
            rintro e w9 ⟨rfl, hb9⟩
            refine ⟨_, rfl, ?_⟩
            refine hK.out _ _ (hHeld.below hb9) (fun hHeld => ?_)
            clear hK K
            refine norm_ (a' := ?_) ?_ ?_
            rotate_left
            · show Act.put _ (some 95) _ = _
              simp only [Act.put, List.setIfInBounds_toArray, List.set_cons_zero, List.set_cons_succ, i64_w, i32_w]
              rfl
            refine pure_ (i := 4) (N := some 96) (v := ?_) (a' := ?_) #[true, true, true, true, true] rfl rfl (by kernel_rfl) (fun _ _ _ h => h) (Or.inl ⟨by rfl, ?_⟩) ?_ ?_
            rotate_left
            · intro w'
              go_simp; rfl
            rotate_left
            · simp only [Act.put, List.setIfInBounds_toArray, List.set_cons_zero, List.set_cons_succ, i64_w, i32_w]
              rfl
            refine done_ (by kernel_rfl) ?_
            try go_wp2_with fail
            go_roundw
            case rel => exact ⟨i + 1, S', A', c', by go_num, by omega, hS'.out, Lib.hid hHeld⟩
            case measure => simp [intOf]; omega
        · obtain ⟨q, rfl⟩ : ∃ q : Nat, v = (q : Int) := ⟨v.toNat, by omega⟩
          have hq : q < 18446744073709551616 := by omega
          go_wp2_with fail
          cases ho : tk S q with
          | true =>
            obtain ⟨k, hk1, hq2, hk2⟩ := tk_form ho
            have T0 := give_ok HP.out.fr k hk1 hk2
            rw [← hq2] at T0
            refine T0.mono ?_
            rintro e w4 ⟨rfl, F4, G4⟩
            have hx4 := blk_grown HP.out.x G4 (by have := HP.out.ne; simp; omega)
            have hcx : w4.cell? ⟨X, 0, none⟩ = some (.slice A S.length c) := (blk_cell hx4 0).trans rfl
            have hR4 := Kd.R_grown HP.out.r G4 (fun q hq => by simpa using hq.1)
            obtain ⟨A2, c2, e2, hl2, hC2⟩ := Kd.R_reads hR4
            injection e2 with e1 e2 e3
            subst e1 e3
            have T1 := Lib.hid (Rf.give_ok S A c w4 hC2 hl2 (by omega) k q hk1 hk2 hq2)
            clear T0 hR4 hC2 hl2 hc ho hq2
            go_wp2_with fail
            refine T1.out.mono ?_
            rintro e w5 ⟨v5, rfl, hR5, hB5⟩
            have hx5 := blk_below hx4 hB5
            obtain ⟨A', c', rfl⟩ := Kd.R_slice hR5
            have hlS : (S.set k false).length = S.length := List.length_set
            have hx6 := blk_alloc hx5 (.cells #[.slice A' (S.set k false).length c'] 28)
            have hcx6 : (w5.alloc (.cells #[.slice A' (S.set k false).length c'] 28)).cell? ⟨X, 0, none⟩ = some (.slice A S.length c) := (blk_cell hx6 0).trans rfl
            have hfx6 := blk_frozen hx6 0
            have HPn := Lib.hid (fun W hW => Pl.next (W := W) HP.out G4 F4 hB5 hR5 (.cells #[.slice A' (S.set k false).length c'] 28) hW)
            have hS' := Lib.hid (show (S.set k false).length = 15 by rw [hlS, hS.out])
            have hS15' : (S.set k false).length ≤ 15 := by omega
            clear hx4 hcx T1 hR5 hx5 hx6 hlS F4 G4 hB5 hk1 hk2 HP
            generalize S.set k false = S' at *
            go_wp2_with fail
            have HP := Lib.hid (HPn.out _ rfl)
            clear HPn hcx6 hfx6
            generalize (w5.alloc (.cells #[.slice A' S'.length c'] 28)).setCell ⟨X, 0, none⟩ (.slice A' S'.length c') = W at *
            refine start_ (n := 12) (S := (fun W' => Pl w W' m X S' A' c')) (ds := []) #[false, false, false, false, false, false, false, false, false, false, false, false] (by kernel_rfl) rfl rfl HP.out.drew (fun hHeld => ?_)
            clear HP
            generalize World.drew W = W1 at *
            refine pure_ (i := 0) (N := some 80) (v := ?_) (a' := ?_) #[true, false, false, false, false, false, false, false, false, false, false, false] rfl rfl (by kernel_rfl) (fun _ _ _ h => h) (Or.inl ⟨by rfl, ?_⟩) ?_ ?_
            rotate_left
            · intro w'
              first | (go_simp; done) | (go_simp; with_reducible rfl)
            rotate_left
            · simp only [Act.put, List.setIfInBounds_toArray, List.set_cons_zero, List.set_cons_succ, i64_w, i32_w]
              rfl
            refine pure_ (i := 1) (N := some 81) (v := ?_) (a' := ?_) #[true, true, false, false, false, false, false, false, false, false, false, false] rfl rfl (by kernel_rfl) (fun _ _ _ h => h) (Or.inl ⟨by rfl, ?_⟩) ?_ ?_
            rotate_left
            · intro w'
              first | (go_simp; done) | (go_simp; with_reducible rfl)
            rotate_left
            · simp only [Act.put, List.setIfInBounds_toArray, List.set_cons_zero, List.set_cons_succ, i64_w, i32_w]
              rfl
            refine pure_ (i := 2) (N := some 82) (v := ?_) (a' := ?_) #[true, true, true, false, false, false, false, false, false, false, false, false] rfl rfl (by kernel_rfl) (fun _ _ _ h => h) (Or.inl ⟨by rfl, ?_⟩) ?_ ?_
            rotate_left
            · intro w'
              go_simp; rfl
            rotate_left
            · simp only [Act.put, List.setIfInBounds_toArray, List.set_cons_zero, List.set_cons_succ, i64_w, i32_w]
              rfl
            refine pure_ (i := 3) (N := some 83) (v := ?_) (a' := ?_) #[true, true, true, true, false, false, false, false, false, false, false, false] rfl rfl (by kernel_rfl) (fun _ _ _ h => h) (Or.inl ⟨by rfl, ?_⟩) ?_ ?_
            rotate_left
            · intro w'
              first | (go_simp; done) | (go_simp; with_reducible rfl)
            rotate_left
            · simp only [Act.put, List.setIfInBounds_toArray, List.set_cons_zero, List.set_cons_succ, i64_w, i32_w]
              rfl
            refine pure_ (i := 4) (N := some 84) (v := ?_) (a' := ?_) #[true, true, true, true, true, false, false, false, false, false, false, false] rfl rfl (by kernel_rfl) (fun _ _ _ h => h) (Or.inl ⟨by rfl, ?_⟩) ?_ ?_
            rotate_left
            · intro w'
              first | (go_simp; done) | (go_simp; with_reducible rfl)
            rotate_left
            · simp only [Act.put, List.setIfInBounds_toArray, List.set_cons_zero, List.set_cons_succ, i64_w, i32_w]
              rfl
            refine pure_ (i := 5) (N := some 85) (v := ?_) (a' := ?_) #[true, true, true, true, true, true, false, false, false, false, false, false] rfl rfl (by kernel_rfl) (fun _ _ _ h => h) (Or.inl ⟨by rfl, ?_⟩) ?_ ?_
            rotate_left
            · intro w'
              first | (go_simp; done) | (go_simp; with_reducible rfl)
            rotate_left
            · simp only [Act.put, List.setIfInBounds_toArray, List.set_cons_zero, List.set_cons_succ, i64_w, i32_w]
              rfl
            refine pure_ (i := 8) (N := some 88) (v := ?_) (a' := ?_) #[true, true, true, true, true, true, false, false, true, false, false, false] rfl rfl (by kernel_rfl) (fun _ _ _ h => h) (Or.inl ⟨by rfl, ?_⟩) ?_ ?_
            rotate_left
            · intro w'
              first | (go_simp; done) | (go_simp; with_reducible rfl)
            rotate_left
            · simp only [Act.put, List.setIfInBounds_toArray, List.set_cons_zero, List.set_cons_succ, i64_w, i32_w]
              rfl
            refine take_ (i := 7) (N := some 87) (v := ?_) (a' := ?_) #[true, true, true, true, true, true, false, true, true, false, false, false] rfl rfl (by kernel_rfl) (fun _ _ _ h => h) (Or.inl ⟨by rfl, ?_⟩) hHeld ?_ ?_
            rotate_left
            · intro w' hSw
              (try dsimp only at hSw)
              have hcx := hSw.cell
              first | (go_simp; done) | (go_simp; with_reducible rfl) | (go_simp; rfl)
            rotate_left
            · simp only [Act.put, List.setIfInBounds_toArray, List.set_cons_zero, List.set_cons_succ, i64_w, i32_w]
              rfl
            refine one_ (i := 6) (N := some 86) #[true, true, true, true, true, true, true, true, true, false, false, false] rfl rfl (by kernel_rfl) (by decide) (fun K hK => ?_)
            refine goes_ Try.func16 (by kernel_rfl) rfl #[.pointer (some ⟨m + 1, 0, none⟩), .int .u64 (q : Int)] (by rfl) rfl rfl (by (try simp only [List.map_toArray, List.map_cons, List.map_nil]); first | done | rfl) ?_
            with_reducible refine (taken_any hHeld.fr q (by omega)).mono ?_
            rintro e w8 ⟨rfl, rfl⟩
            refine ⟨_, rfl, ?_⟩
            refine hK.out _ _ hHeld (fun hHeld => ?_)
            clear hK K
            refine norm_ (a' := ?_) ?_ ?_
            rotate_left
            · show Act.put _ (some 86) _ = _
              simp only [Act.put, List.setIfInBounds_toArray, List.set_cons_zero, List.set_cons_succ, i64_w, i32_w]
              rfl
            refine one_ (i := 9) (N := some 89) #[true, true, true, true, true, true, true, true, true, true, false, false] rfl rfl (by kernel_rfl) (by decide) (fun K hK => ?_)
            refine goes_ Try.func17 (by kernel_rfl) rfl #[.agg #[.slice A' S'.length c'], .int .u64 (q : Int)] (by rfl) rfl rfl (by (try simp only [List.map_toArray, List.map_cons, List.map_nil]); first | done | rfl) ?_
            with_reducible refine (Fn.dormerref22_Has.calls (S'.length + 1) A' c' S' _ _ _ hHeld.C.1 hHeld.C.2 (Rf.has_val S' q (by omega))).mono ?_
            rintro e w9 ⟨rfl, hb9⟩
            refine ⟨_, rfl, ?_⟩
            refine hK.out _ _ (hHeld.below hb9) (fun hHeld => ?_)
            clear hK K
            refine norm_ (a' := ?_) ?_ ?_
            rotate_left
            · show Act.put _ (some 89) _ = _
              simp only [Act.put, List.setIfInBounds_toArray, List.set_cons_zero, List.set_cons_succ, i64_w, i32_w]
              rfl
            refine pure_ (i := 10) (N := some 90) (v := ?_) (a' := ?_) #[true, true, true, true, true, true, true, true, true, true, true, false] rfl rfl (by kernel_rfl) (fun _ _ _ h => h) (Or.inl ⟨by rfl, ?_⟩) ?_ ?_
            rotate_left
            · intro w'
              go_simp; rfl
            rotate_left
            · simp only [Act.put, List.setIfInBounds_toArray, List.set_cons_zero, List.set_cons_succ, i64_w, i32_w]
              rfl
            refine pure_ (i := 11) (N := some 91) (v := ?_) (a' := ?_) #[true, true, true, true, true, true, true, true, true, true, true, true] rfl rfl (by kernel_rfl) (fun _ _ _ h => h) (Or.inl ⟨by rfl, ?_⟩) ?_ ?_
            rotate_left
            · intro w'
              go_simp; rfl
            rotate_left
            · simp only [Act.put, List.setIfInBounds_toArray, List.set_cons_zero, List.set_cons_succ, i64_w, i32_w]
              rfl
            refine done_ (by kernel_rfl) ?_
            try go_wp2_with fail
            have HP := Lib.hid hHeld
            refine start_ (n := 5) (S := (fun W' => Pl w W' m X S' A' c')) (ds := []) #[false, false, false, false, false] (by kernel_rfl) rfl rfl HP.out.drew (fun hHeld => ?_)
            clear HP
            generalize World.drew _ = W2 at *
            refine pure_ (i := 0) (N := some 92) (v := ?_) (a' := ?_) #[true, false, false, false, false] rfl rfl (by kernel_rfl) (fun _ _ _ h => h) (Or.inl ⟨by rfl, ?_⟩) ?_ ?_
            rotate_left
            · intro w'
              first | (go_simp; done) | (go_simp; with_reducible rfl)
            rotate_left
            · simp only [Act.put, List.setIfInBounds_toArray, List.set_cons_zero, List.set_cons_succ, i64_w, i32_w]
              rfl
            refine take_ (i := 2) (N := some 94) (v := ?_) (a' := ?_) #[true, false, true, false, false] rfl rfl (by kernel_rfl) (fun _ _ _ h => h) (Or.inl ⟨by rfl, ?_⟩) hHeld ?_ ?_
            rotate_left
            · intro w' hSw
              (try dsimp only at hSw)
              have hcx := hSw.cell
              first | (go_simp; done) | (go_simp; with_reducible rfl) | (go_simp; rfl)
            rotate_left
            · simp only [Act.put, List.setIfInBounds_toArray, List.set_cons_zero, List.set_cons_succ, i64_w, i32_w]
              rfl
            refine one_ (i := 1) (N := some 93) #[true, true, true, false, false] rfl rfl (by kernel_rfl) (by decide) (fun K hK => ?_)
            refine goes_ Try.func18 (by kernel_rfl) rfl #[.pointer (some ⟨m + 1, 0, none⟩)] (by rfl) rfl rfl (by (try simp only [List.map_toArray, List.map_cons, List.map_nil]); first | done | rfl) ?_
            with_reducible refine (free_any hHeld.fr).mono ?_
            rintro e w8 ⟨rfl, ⟨nd, rfl⟩⟩
            refine ⟨_, rfl, ?_⟩
            refine hK.out _ _ (hHeld.drewN nd) (fun hHeld => ?_)
            clear hK K
            refine norm_ (a' := ?_) ?_ ?_
            rotate_left
            · show Act.put _ (some 93) _ = _
              simp only [Act.put, List.setIfInBounds_toArray, List.set_cons_zero, List.set_cons_succ, i64_w, i32_w]
              rfl
            refine one_ (i := 3) (N := some 95) #[true, true, true, true, false] rfl rfl (by kernel_rfl) (by decide) (fun K hK => ?_)
            refine goes_ Try.func19 (by kernel_rfl) rfl #[.agg #[.slice A' S'.length c']] (by rfl) rfl rfl (by (try simp only [List.map_toArray, List.map_cons, List.map_nil]); first | done | rfl) ?_
            with_reducible refine (Fn.dormerref22_Free.calls (S'.length + 1) A' c' S' _ _ hHeld.C.1 hHeld.C.2 (Rf.free_val S' (by omega))).mono ?_
            rintro e w9 ⟨rfl, hb9⟩
            refine ⟨_, rfl, ?_⟩
            refine hK.out _ _ (hHeld.below hb9) (fun hHeld => ?_)
            clear hK K
            refine norm_ (a' := ?_) ?_ ?_
            rotate_left
            · show Act.put _ (some 95) _ = _
              simp only [Act.put, List.setIfInBounds_toArray, List.set_cons_zero, List.set_cons_succ, i64_w, i32_w]
              rfl
            refine pure_ (i := 4) (N := some 96) (v := ?_) (a' := ?_) #[true, true, true, true, true] rfl rfl (by kernel_rfl) (fun _ _ _ h => h) (Or.inl ⟨by rfl, ?_⟩) ?_ ?_
            rotate_left
            · intro w'
              go_simp; rfl
            rotate_left
            · simp only [Act.put, List.setIfInBounds_toArray, List.set_cons_zero, List.set_cons_succ, i64_w, i32_w]
              rfl
            refine done_ (by kernel_rfl) ?_
            try go_wp2_with fail
            go_roundw
            case rel => exact ⟨i + 1, S', A', c', by go_num, by omega, hS'.out, Lib.hid hHeld⟩
            case measure => simp [intOf]; omega
          | false =>
            refine (give_bad HP.out.fr q hq ho).mono ?_
            rintro e w4 ⟨rfl, rfl⟩
            have hcx := HP.out.cell
            have T1 := Lib.hid (Rf.give_bad S A c wr HP.out.C.1 HP.out.C.2 (by omega) q hq ho)
            clear hc ho
            go_wp2_with fail
            refine T1.out.mono ?_
            rintro e w5 ⟨rfl, hB5⟩
            have hx6 := blk_alloc (blk_below HP.out.x hB5) (.cells #[.slice A S.length c] 28)
            have hcx6 : (w5.alloc (.cells #[.slice A S.length c] 28)).cell? ⟨X, 0, none⟩ = some (.slice A S.length c) := (blk_cell hx6 0).trans rfl
            have hfx6 := blk_frozen hx6 0
            have HPn := Lib.hid (fun W hW => Pl.same (W := W) HP.out hB5 (.cells #[.slice A S.length c] 28) hW)
            clear hcx T1 hx6 hB5 HP
            go_wp2_with fail
            have HP := Lib.hid (HPn.out _ rfl)
            clear HPn hcx6 hfx6
            generalize (w5.alloc (.cells #[.slice A S.length c] 28)).setCell ⟨X, 0, none⟩ (.slice A S.length c) = W at *
            have hS' := hS
            have hS15' := hS15
            clear hS hS15
            revert HP hS' hS15'
            generalize S = S', A = A', c = c'
            intro HP hS' hS15'
            refine start_ (n := 12) (S := (fun W' => Pl w W' m X S' A' c')) (ds := []) #[false, false, false, false, false, false, false, false, false, false, false, false] (by kernel_rfl) rfl rfl HP.out.drew (fun hHeld => ?_)
            clear HP
            generalize World.drew W = W1 at *
            refine pure_ (i := 0) (N := some 80) (v := ?_) (a' := ?_) #[true, false, false, false, false, false, false, false, false, false, false, false] rfl rfl (by kernel_rfl) (fun _ _ _ h => h) (Or.inl ⟨by rfl, ?_⟩) ?_ ?_
            rotate_left
            · intro w'
              first | (go_simp; done) | (go_simp; with_reducible rfl)
            rotate_left
            · simp only [Act.put, List.setIfInBounds_toArray, List.set_cons_zero, List.set_cons_succ, i64_w, i32_w]
              rfl
            refine pure_ (i := 1) (N := some 81) (v := ?_) (a' := ?_) #[true, true, false, false, false, false, false, false, false, false, false, false] rfl rfl (by kernel_rfl) (fun _ _ _ h => h) (Or.inl ⟨by rfl, ?_⟩) ?_ ?_
            rotate_left
            · intro w'
              first | (go_simp; done) | (go_simp; with_reducible rfl)
            rotate_left
            · simp only [Act.put, List.setIfInBounds_toArray, List.set_cons_zero, List.set_cons_succ, i64_w, i32_w]
              rfl
            refine pure_ (i := 2) (N := some 82) (v := ?_) (a' := ?_) #[true, true, true, false, false, false, false, false, false, false, false, false] rfl rfl (by kernel_rfl) (fun _ _ _ h => h) (Or.inl ⟨by rfl, ?_⟩) ?_ ?_
            rotate_left
            · intro w'
              go_simp; rfl
            rotate_left
            · simp only [Act.put, List.setIfInBounds_toArray, List.set_cons_zero, List.set_cons_succ, i64_w, i32_w]
              rfl
            refine pure_ (i := 3) (N := some 83) (v := ?_) (a' := ?_) #[true, true, true, true, false, false, false, false, false, false, false, false] rfl rfl (by kernel_rfl) (fun _ _ _ h => h) (Or.inl ⟨by rfl, ?_⟩) ?_ ?_
            rotate_left
            · intro w'
              first | (go_simp; done) | (go_simp; with_reducible rfl)
            rotate_left
            · simp only [Act.put, List.setIfInBounds_toArray, List.set_cons_zero, List.set_cons_succ, i64_w, i32_w]
              rfl
            refine pure_ (i := 4) (N := some 84) (v := ?_) (a' := ?_) #[true, true, true, true, true, false, false, false, false, false, false, false] rfl rfl (by kernel_rfl) (fun _ _ _ h => h) (Or.inl ⟨by rfl, ?_⟩) ?_ ?_
            rotate_left
            · intro w'
              first | (go_simp; done) | (go_simp; with_reducible rfl)
            rotate_left
            · simp only [Act.put, List.setIfInBounds_toArray, List.set_cons_zero, List.set_cons_succ, i64_w, i32_w]
              rfl
            refine pure_ (i := 5) (N := some 85) (v := ?_) (a' := ?_) #[true, true, true, true, true, true, false, false, false, false, false, false] rfl rfl (by kernel_rfl) (fun _ _ _ h => h) (Or.inl ⟨by rfl, ?_⟩) ?_ ?_
            rotate_left
            · intro w'
              first | (go_simp; done) | (go_simp; with_reducible rfl)
            rotate_left
            · simp only [Act.put, List.setIfInBounds_toArray, List.set_cons_zero, List.set_cons_succ, i64_w, i32_w]
              rfl
            refine pure_ (i := 8) (N := some 88) (v := ?_) (a' := ?_) #[true, true, true, true, true, true, false, false, true, false, false, false] rfl rfl (by kernel_rfl) (fun _ _ _ h => h) (Or.inl ⟨by rfl, ?_⟩) ?_ ?_
            rotate_left
            · intro w'
              first | (go_simp; done) | (go_simp; with_reducible rfl)
            rotate_left
            · simp only [Act.put, List.setIfInBounds_toArray, List.set_cons_zero, List.set_cons_succ, i64_w, i32_w]
              rfl
            refine take_ (i := 7) (N := some 87) (v := ?_) (a' := ?_) #[true, true, true, true, true, true, false, true, true, false, false, false] rfl rfl (by kernel_rfl) (fun _ _ _ h => h) (Or.inl ⟨by rfl, ?_⟩) hHeld ?_ ?_
            rotate_left
            · intro w' hSw
              (try dsimp only at hSw)
              have hcx := hSw.cell
              first | (go_simp; done) | (go_simp; with_reducible rfl) | (go_simp; rfl)
            rotate_left
            · simp only [Act.put, List.setIfInBounds_toArray, List.set_cons_zero, List.set_cons_succ, i64_w, i32_w]
              rfl
            refine one_ (i := 6) (N := some 86) #[true, true, true, true, true, true, true, true, true, false, false, false] rfl rfl (by kernel_rfl) (by decide) (fun K hK => ?_)
            refine goes_ Try.func16 (by kernel_rfl) rfl #[.pointer (some ⟨m + 1, 0, none⟩), .int .u64 (q : Int)] (by rfl) rfl rfl (by (try simp only [List.map_toArray, List.map_cons, List.map_nil]); first | done | rfl) ?_
            with_reducible refine (taken_any hHeld.fr q (by omega)).mono ?_
            rintro e w8 ⟨rfl, rfl⟩
            refine ⟨_, rfl, ?_⟩
            refine hK.out _ _ hHeld (fun hHeld => ?_)
            clear hK K
            refine norm_ (a' := ?_) ?_ ?_
            rotate_left
            · show Act.put _ (some 86) _ = _
              simp only [Act.put, List.setIfInBounds_toArray, List.set_cons_zero, List.set_cons_succ, i64_w, i32_w]
              rfl
            refine one_ (i := 9) (N := some 89) #[true, true, true, true, true, true, true, true, true, true, false, false] rfl rfl (by kernel_rfl) (by decide) (fun K hK => ?_)
            refine goes_ Try.func17 (by kernel_rfl) rfl #[.agg #[.slice A' S'.length c'], .int .u64 (q : Int)] (by rfl) rfl rfl (by (try simp only [List.map_toArray, List.map_cons, List.map_nil]); first | done | rfl) ?_
            with_reducible refine (Fn.dormerref22_Has.calls (S'.length + 1) A' c' S' _ _ _ hHeld.C.1 hHeld.C.2 (Rf.has_val S' q (by omega))).mono ?_
            rintro e w9 ⟨rfl, hb9⟩
            refine ⟨_, rfl, ?_⟩
            refine hK.out _ _ (hHeld.below hb9) (fun hHeld => ?_)
            clear hK K
            refine norm_ (a' := ?_) ?_ ?_
            rotate_left
            · show Act.put _ (some 89) _ = _
              simp only [Act.put, List.setIfInBounds_toArray, List.set_cons_zero, List.set_cons_succ, i64_w, i32_w]
              rfl
            refine pure_ (i := 10) (N := some 90) (v := ?_) (a' := ?_) #[true, true, true, true, true, true, true, true, true, true, true, false] rfl rfl (by kernel_rfl) (fun _ _ _ h => h) (Or.inl ⟨by rfl, ?_⟩) ?_ ?_
            rotate_left
            · intro w'
              go_simp; rfl
            rotate_left
            · simp only [Act.put, List.setIfInBounds_toArray, List.set_cons_zero, List.set_cons_succ, i64_w, i32_w]
              rfl
            refine pure_ (i := 11) (N := some 91) (v := ?_) (a' := ?_) #[true, true, true, true, true, true, true, true, true, true, true, true] rfl rfl (by kernel_rfl) (fun _ _ _ h => h) (Or.inl ⟨by rfl, ?_⟩) ?_ ?_
            rotate_left
            · intro w'
              go_simp; rfl
            rotate_left
            · simp only [Act.put, List.setIfInBounds_toArray, List.set_cons_zero, List.set_cons_succ, i64_w, i32_w]
              rfl
            refine done_ (by kernel_rfl) ?_
            try go_wp2_with fail
            have HP := Lib.hid hHeld
            refine start_ (n := 5) (S := (fun W' => Pl w W' m X S' A' c')) (ds := []) #[false, false, false, false, false] (by kernel_rfl) rfl rfl HP.out.drew (fun hHeld => ?_)
            clear HP
            generalize World.drew _ = W2 at *
            refine pure_ (i := 0) (N := some 92) (v := ?_) (a' := ?_) #[true, false, false, false, false] rfl rfl (by kernel_rfl) (fun _ _ _ h => h) (Or.inl ⟨by rfl, ?_⟩) ?_ ?_
            rotate_left
            · intro w'
              first | (go_simp; done) | (go_simp; with_reducible rfl)
            rotate_left
            · simp only [Act.put, List.setIfInBounds_toArray, List.set_cons_zero, List.set_cons_succ, i64_w, i32_w]
              rfl
            refine take_ (i := 2) (N := some 94) (v := ?_) (a' := ?_) #[true, false, true, false, false] rfl rfl (by kernel_rfl) (fun _ _ _ h => h) (Or.inl ⟨by rfl, ?_⟩) hHeld ?_ ?_
            rotate_left
            · intro w' hSw
              (try dsimp only at hSw)
              have hcx := hSw.cell
              first | (go_simp; done) | (go_simp; with_reducible rfl) | (go_simp; rfl)
            rotate_left
            · simp only [Act.put, List.setIfInBounds_toArray, List.set_cons_zero, List.set_cons_succ, i64_w, i32_w]
              rfl
            refine one_ (i := 1) (N := some 93) #[true, true, true, false, false] rfl rfl (by kernel_rfl) (by decide) (fun K hK => ?_)
            refine goes_ Try.func18 (by kernel_rfl) rfl #[.pointer (some ⟨m + 1, 0, none⟩)] (by rfl) rfl rfl (by (try simp only [List.map_toArray, List.map_cons, List.map_nil]); first | done | rfl) ?_
            with_reducible refine (free_any hHeld.fr).mono ?_
            rintro e w8 ⟨rfl, ⟨nd, rfl⟩⟩
            refine ⟨_, rfl, ?_⟩
            refine hK.out _ _ (hHeld.drewN nd) (fun hHeld => ?_)
            clear hK K
            refine norm_ (a' := ?_) ?_ ?_
            rotate_left
            · show Act.put _ (some 93) _ = _
              simp only [Act.put, List.setIfInBounds_toArray, List.set_cons_zero, List.set_cons_succ, i64_w, i32_w]
              rfl
            refine one_ (i := 3) (N := some 95) #[true, true, true, true, false] rfl rfl (by kernel_rfl) (by decide) (fun K hK => ?_)
            refine goes_ Try.func19 (by kernel_rfl) rfl #[.agg #[.slice A' S'.length c']] (by rfl) rfl rfl (by (try simp only [List.map_toArray, List.map_cons, List.map_nil]); first | done | rfl) ?_
            with_reducible refine (Fn.dormerref22_Free.calls (S'.length + 1) A' c' S' _ _ hHeld.C.1 hHeld.C.2 (Rf.free_val S' (by omega))).mono ?_
            rintro e w9 ⟨rfl, hb9⟩
            refine ⟨_, rfl, ?_⟩
            refine hK.out _ _ (hHeld.below hb9) (fun hHeld => ?_)
            clear hK K
            refine norm_ (a' := ?_) ?_ ?_
            rotate_left
            · show Act.put _ (some 95) _ = _
              simp only [Act.put, List.setIfInBounds_toArray, List.set_cons_zero, List.set_cons_succ, i64_w, i32_w]
              rfl
            refine pure_ (i := 4) (N := some 96) (v := ?_) (a' := ?_) #[true, true, true, true, true] rfl rfl (by kernel_rfl) (fun _ _ _ h => h) (Or.inl ⟨by rfl, ?_⟩) ?_ ?_
            rotate_left
            · intro w'
              go_simp; rfl
            rotate_left
            · simp only [Act.put, List.setIfInBounds_toArray, List.set_cons_zero, List.set_cons_succ, i64_w, i32_w]
              rfl
            refine done_ (by kernel_rfl) ?_
            try go_wp2_with fail
            go_roundw
            case rel => exact ⟨i + 1, S', A', c', by go_num, by omega, hS'.out, Lib.hid hHeld⟩
            case measure => simp [intOf]; omega
      · have hlt2 : (i : Int) < (len : Int) := by omega
        have h1002 : ¬ (i : Int) < 100 := by omega
        have T1 := Lib.hid (fun n : Nat => (room_any (HP.out.fr.drewN n)).mono fun e w'' (h : _ ∧ _) => (⟨h.1, n, h.2.symm⟩ : _ ∧ ∃ m, w'' = wr.drewN m))
        have hcx := HP.out.cell
        have hb9 := Aside0.mk HP.out.b
        go_wp2_with fail
        go_quiet ((go_at_call 20; exact T1.out _))
        try go_wp2_with fail
        go_ret
        exact ⟨rfl, pw_below_drewN hb9.out _⟩
    · have hlt2 : ¬ (i : Int) < (len : Int) := by omega
      have T1 := Lib.hid (fun n : Nat => (room_any (HP.out.fr.drewN n)).mono fun e w'' (h : _ ∧ _) => (⟨h.1, n, h.2.symm⟩ : _ ∧ ∃ m, w'' = wr.drewN m))
      have hcx := HP.out.cell
      have hb9 := Aside0.mk HP.out.b
      go_wp2_with fail
      go_quiet ((go_at_call 20; exact T1.out _))
      try go_wp2_with fail
      go_ret
      exact ⟨rfl, pw_below_drewN hb9.out _⟩
theorem FramesPlays (b : Int) (a : Option Addr) (len cap : Nat) (zs : List Int) (w : World) (wb : (Lit.int .u8 b).wf = true)
    (hrow : (a = none ∧ len = 0 ∧ cap = 0 ∧ zs = []) ∨ ∃ x, a = some x ∧ len ≤ cap ∧ cap ≤ maxLen ∧ zs.length = cap ∧ (∀ i, i < zs.length → w.cell? (x.add i) = some (.int .i64 (zs.getD i 0))) ∧ ∀ n ∈ zs, (Lit.int .i64 n).wf = true) (hy : len * 8 ≤ 140737488351232) :
    Calls Try.prog 3 #[.int .u8 b, .slice a len cap] w fun e w' => e = .returned (.bool true) ∧ Below w.heap.size w w' := by
  obtain ⟨h0, h1⟩ := u8_lit wb
  have hcell : Hid (∀ wr : World, Below w.heap.size w wr → ∀ i : Nat, i < len → ∃ x v, a = some x ∧ wr.cell? (x.add i) = some (.int .i64 v) ∧ -9223372036854775808 ≤ v ∧ v < 9223372036854775808) := by
    refine Lib.hid fun wr hb i hi => ?_
    rcases hrow with ⟨_, rfl, _⟩ | ⟨x, rfl, h1, h2, h3, h4, h5⟩
    · omega
    · have hi2 : i < zs.length := by omega
      refine ⟨x, zs.getD i 0, rfl, (hb.cell (World.block_lt_of_cell? w _ (h4 i hi2))).trans (h4 i hi2), ?_⟩
      exact i64_lit (h5 (zs.getD i 0) (by rw [List.getD_eq_getElem?_getD, List.getElem?_eq_getElem hi2]; exact List.getElem_mem hi2))
  have h : b % 3 = 0 ∨ b % 3 = 1 ∨ b % 3 = 2 := by omega
  rcases h with h | h | h
  · exact plays14 b a len cap w h0 h1 h (by omega) hcell
  · exact plays15 b a len cap w h0 h1 h (by omega) hcell
  · exact plays16 b a len cap w h0 h1 h (by omega) hcell
end Go.Proofs.Ytekfcbgndjmhnaa.Pu
