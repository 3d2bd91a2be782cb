/- Contracts of dormerref22's Take and Give over marks. Conditions: those each contract names. -/
import Derived.Test.YtekfcbgndjmhnaaRfP
import Derived.WalkKit
import Derived.Lib.Hide
set_option linter.unusedVariables false
set_option linter.unusedSimpArgs false
namespace Go.Proofs.Ytekfcbgndjmhnaa.Rf
open Go.RowKit Go.Proofs.Ytekfcbgndjmhnaa.FrP Go.Proofs.Ytekfcbgndjmhnaa.Fn Go.Proofs.YtekfcbgndjmhnaaW.PrintWords Go.Proofs.YtekfcbgndjmhnaaW.PrintLast Go.Proofs.YtekfcbgndjmhnaaW.PrintMore
set_option maxHeartbeats 1000000 in
set_option maxRecDepth 100000 in
theorem take_some (S : List Bool) (A : Option Addr) (c : Nat) (w : World) (hC : Kd.C Kd.bool w A S.length S) (hc : S.length ≤ c) (hS : S.length ≤ 1023) (i : Nat) (hi : i < S.length) (hf : S.getD i false = false) (hlt : ∀ j, j < i → S.getD j false = true) :
    Calls Try.prog 13 #[.agg #[.slice A S.length c]] w fun e w' => ∃ v : Value, e = .returned (.tuple #[.agg #[v], .int .u64 (((i + 1) * 4096 : Nat) : Int), .int .i64 0]) ∧ Kd.R Kd.bool 4 w' w.heap.size (fun _ => True) v (S.set i true) ∧ Below w.heap.size w w' := by
  have hat : Hid (∀ W', Below w.heap.size w W' → ∀ k : Nat, k < S.length → ∃ ad, A = some ad ∧ W'.cell? (ad.add k) = some (.bool (S.getD k false))) := by
    refine Lib.hid fun W' hb k hk => ?_
    obtain ⟨ad, h1, h2⟩ := Kd.at_bool (Kd.C_below hC hb) (k : Int) (by omega) (by omega)
    rw [Int.toNat_natCast, rdOf, Int.toNat_natCast] at h2
    exact ⟨ad, h1, h2⟩
  have hC2 := Lib.hid hC
  have hlt := Lib.hid hlt
  have hf := Lib.hid hf
  clear hC
  go_enter Try.func13, Try.ntmps13
  go_wp2_with fail
  have hx : ((w.alloc (.cells #[.slice A S.length c] 28)).alloc (.cells #[.slice none 0 0] 28)).cell? ⟨w.heap.size, 0, none⟩ = some (.slice A S.length c) :=
    (World.cell?_alloc_lt _ _ _ (by simp)).trans (World.cell?_alloc_at _ _ _ _ rfl)
  have hr : ((w.alloc (.cells #[.slice A S.length c] 28)).alloc (.cells #[.slice none 0 0] 28)).heap[w.heap.size + 1]? = some (.cells #[.slice none 0 0] 28 (0, 0)) := by
    have h := blk_new (w.alloc (.cells #[.slice A S.length c] 28)) (.cells #[.slice none 0 0] 28)
    simpa using h
  have HB := Aside0.mk (below_alloc (below_alloc (Below.refl w.heap.size w) (.cells #[.slice A S.length c] 28)) (.cells #[.slice none 0 0] 28))
  generalize (w.alloc (.cells #[.slice A S.length c] 28)).alloc (.cells #[.slice none 0 0] 28) = W2 at *
  have hr := Lib.hid hr
  go_loop [5] (fun x => ∃ k : Nat, k ≤ i ∧ x = .int .i64 (k : Int)) (fun x => i - (intOf x).toNat)
  case atStart => exact ⟨0, Nat.zero_le _, rfl⟩
  case round =>
    obtain ⟨k, hk, rfl⟩ := hrel
    have hkl : (k : Int) < (S.length : Int) := by omega
    obtain ⟨ad, rfl, hcell⟩ := hat.out W2 HB.out k (by omega)
    by_cases hki : k < i
    · rw [hlt.out k hki] at hcell
      go_wp2_with fail
      go_round
      case rel => exact ⟨k + 1, by omega, by go_num⟩
      case measure => simp [intOf]; omega
    · obtain rfl : k = i := by omega
      rw [hf.out] at hcell
      have T1 := Lib.hid (dormerref22_with.calls (some ad) c S (k : Int) true _ W2 (Kd.C_below hC2.out HB.out) hc (with_val S k true hi hS))
      go_wp2_with fail
      refine T1.out.mono ?_
      rintro e w3 ⟨v, rfl, hR, hB⟩
      have hr3 := blk_below hr.out hB
      have hc3 : w3.cell? ⟨w.heap.size + 1, 0, none⟩ = some (.slice none 0 0) := (blk_cell hr3 0).trans rfl
      have hf3 := blk_frozen hr3 0
      have HB3 := Aside0.mk (below_step HB.out hB)
      obtain ⟨Av, cv, rfl⟩ := Kd.R_slice hR
      rw [List.length_set] at hR ⊢
      have HR := Lib.hid (Kd.R_lower hR HB.out.size)
      have hvb : (Value.slice Av S.length cv).ownBlock ≠ some (w.heap.size + 1) := by
        intro e
        have := Kd.R_base hR _ e
        have := blk_lt hr.out
        omega
      have hvb := Lib.hid hvb
      have hr3 := Lib.hid hr3
      clear hr hB hR T1 hcell hx
      go_wp2_with fail
      refine bodyPost_ret (results_ctt rfl _ _ (w.heap.size + 1) 28 #[.slice Av S.length cv] (0, 0) _ rfl (blk_put hr3.out 0 _ rfl) Try.underlying28 rfl (by kernel_rfl)) rfl ?_
      exact ⟨_, rfl, Kd.R_mono (Kd.R_far (p := ⟨w.heap.size + 1, 0, none⟩) (Kd.R_far1 HR.out rfl (fun e => hvb.out e.symm)) (fun q hq => hq.2) _) (fun _ _ => trivial), below_set HB3.out (by omega)⟩
set_option maxHeartbeats 1000000 in
set_option maxRecDepth 100000 in
theorem take_none (S : List Bool) (A : Option Addr) (c : Nat) (w : World) (hC : Kd.C Kd.bool w A S.length S) (hc : S.length ≤ c) (hS : S.length ≤ 1023) (hlt : ∀ j, j < S.length → S.getD j false = true) :
    Calls Try.prog 13 #[.agg #[.slice A S.length c]] w fun e w' => e = .returned (.tuple #[.agg #[.slice A S.length c], .int .u64 0, .int .i64 6]) ∧ Below w.heap.size w w' := by
  have hat : Hid (∀ W', Below w.heap.size w W' → ∀ k : Nat, k < S.length → ∃ ad, A = some ad ∧ W'.cell? (ad.add k) = some (.bool (S.getD k false))) := by
    refine Lib.hid fun W' hb k hk => ?_
    obtain ⟨ad, h1, h2⟩ := Kd.at_bool (Kd.C_below hC hb) (k : Int) (by omega) (by omega)
    rw [Int.toNat_natCast, rdOf, Int.toNat_natCast] at h2
    exact ⟨ad, h1, h2⟩
  have hC2 := Lib.hid hC
  have hlt := Lib.hid hlt
  clear hC
  go_enter Try.func13, Try.ntmps13
  go_wp2_with fail
  have hx : ((w.alloc (.cells #[.slice A S.length c] 28)).alloc (.cells #[.slice none 0 0] 28)).cell? ⟨w.heap.size, 0, none⟩ = some (.slice A S.length c) :=
    (World.cell?_alloc_lt _ _ _ (by simp)).trans (World.cell?_alloc_at _ _ _ _ rfl)
  have hr : ((w.alloc (.cells #[.slice A S.length c] 28)).alloc (.cells #[.slice none 0 0] 28)).heap[w.heap.size + 1]? = some (.cells #[.slice none 0 0] 28 (0, 0)) := by
    have h := blk_new (w.alloc (.cells #[.slice A S.length c] 28)) (.cells #[.slice none 0 0] 28)
    simpa using h
  have HB := Aside0.mk (below_alloc (below_alloc (Below.refl w.heap.size w) (.cells #[.slice A S.length c] 28)) (.cells #[.slice none 0 0] 28))
  generalize (w.alloc (.cells #[.slice A S.length c] 28)).alloc (.cells #[.slice none 0 0] 28) = W2 at *
  have hr := Lib.hid hr
  go_loop [5] (fun x => ∃ k : Nat, k ≤ S.length ∧ x = .int .i64 (k : Int)) (fun x => S.length - (intOf x).toNat)
  case atStart => exact ⟨0, Nat.zero_le _, rfl⟩
  case round =>
    obtain ⟨k, hk, rfl⟩ := hrel
    by_cases hki : k < S.length
    · have hkl : (k : Int) < (S.length : Int) := by omega
      obtain ⟨ad, rfl, hcell⟩ := hat.out W2 HB.out k (by omega)
      rw [hlt.out k hki] at hcell
      go_wp2_with fail
      go_round
      case rel => exact ⟨k + 1, by omega, by go_num⟩
      case measure => simp [intOf]; omega
    · have hkl : ¬ (k : Int) < (S.length : Int) := by omega
      have hc3 : W2.cell? ⟨w.heap.size + 1, 0, none⟩ = some (.slice none 0 0) := (blk_cell hr.out 0).trans rfl
      have hf3 := blk_frozen hr.out 0
      go_wp2_with fail
      refine bodyPost_ret (results_ctt rfl _ _ (w.heap.size + 1) 28 #[.slice A S.length c] (0, 0) _ rfl (blk_put hr.out 0 _ rfl) Try.underlying28 rfl (by kernel_rfl)) rfl ?_
      exact ⟨rfl, below_set HB.out (by omega)⟩
set_option maxHeartbeats 1000000 in
set_option maxRecDepth 100000 in
theorem give_bad (S : List Bool) (A : Option Addr) (c : Nat) (w : World) (hC : Kd.C Kd.bool w A S.length S) (hc : S.length ≤ c) (hS : S.length ≤ 1023) (a : Nat) (ha : a < 18446744073709551616) (ht : tk S a = false) :
    Calls Try.prog 15 #[.agg #[.slice A S.length c], .int .u64 (a : Int)] w fun e w' => e = .returned (.tuple #[.agg #[.slice A S.length c], .int .i64 7]) ∧ Below w.heap.size w w' := by
  have hat : Hid (∀ W', Below w.heap.size w W' → ∀ k : Nat, k < S.length → ∃ ad, A = some ad ∧ W'.cell? (ad.add k) = some (.bool (S.getD k false))) := by
    refine Lib.hid fun W' hb k hk => ?_
    obtain ⟨ad, h1, h2⟩ := Kd.at_bool (Kd.C_below hC hb) (k : Int) (by omega) (by omega)
    rw [Int.toNat_natCast, rdOf, Int.toNat_natCast] at h2
    exact ⟨ad, h1, h2⟩
  have hC2 := Lib.hid hC
  clear hC
  go_enter Try.func15, Try.ntmps15
  go_wp2_with fail
  have hx : ((w.alloc (.cells #[.slice A S.length c] 28)).alloc (.cells #[.slice none 0 0] 28)).cell? ⟨w.heap.size, 0, none⟩ = some (.slice A S.length c) :=
    (World.cell?_alloc_lt _ _ _ (by simp)).trans (World.cell?_alloc_at _ _ _ _ rfl)
  have hr : ((w.alloc (.cells #[.slice A S.length c] 28)).alloc (.cells #[.slice none 0 0] 28)).heap[w.heap.size + 1]? = some (.cells #[.slice none 0 0] 28 (0, 0)) := by
    have h := blk_new (w.alloc (.cells #[.slice A S.length c] 28)) (.cells #[.slice none 0 0] 28)
    simpa using h
  have HB := Aside0.mk (below_alloc (below_alloc (Below.refl w.heap.size w) (.cells #[.slice A S.length c] 28)) (.cells #[.slice none 0 0] 28))
  generalize (w.alloc (.cells #[.slice A S.length c] 28)).alloc (.cells #[.slice none 0 0] 28) = W2 at *
  have hr := Lib.hid hr
  have P1 := Lib.hid (dormerref22_place.calls (S.length + 1) A c S (a : Int) (pl S.length a) W2 (Kd.C_below hC2.out HB.out) hc (place_val S a hS))
  refine P1.out.mono ?_
  rintro e W3 ⟨rfl, hb⟩
  have hx3 := (hb.cell (World.block_lt_of_cell? _ _ hx)).trans hx
  have hr3 := Lib.hid (blk_below hr.out hb)
  have HB3 := Aside0.mk (below_step HB.out hb)
  have hc3 : W3.cell? ⟨w.heap.size + 1, 0, none⟩ = some (.slice none 0 0) := (blk_cell hr3.out 0).trans rfl
  have hf3 := blk_frozen hr3.out 0
  clear P1 hb hx hr HB
  rcases pl_tk S a with ⟨h1, h2⟩ | ⟨i, h1, h2, h3, h4⟩
  · rw [h1]
    clear h1 h2 ht
    go_wp2_with fail
    refine bodyPost_ret (results_ct rfl _ _ (w.heap.size + 1) 28 #[.slice A S.length c] (0, 0) _ rfl (blk_put hr3.out 0 _ rfl) Try.underlying28 rfl (by kernel_rfl)) rfl ?_
    exact ⟨rfl, below_set HB3.out (by omega)⟩
  · rw [h1]
    obtain ⟨ad, rfl, hcell⟩ := hat.out W3 HB3.out i h2
    rw [← h4, ht] at hcell
    have h5 : ¬ (i : Int) < 0 := by omega
    have h6 : (i : Int) < (S.length : Int) := by omega
    clear h1 h3 h4 ht
    go_wp2_with fail
    refine bodyPost_ret (results_ct rfl _ _ (w.heap.size + 1) 28 #[.slice (some ad) S.length c] (0, 0) _ rfl (blk_put hr3.out 0 _ rfl) Try.underlying28 rfl (by kernel_rfl)) rfl ?_
    exact ⟨rfl, below_set HB3.out (by omega)⟩
set_option maxHeartbeats 1000000 in
set_option maxRecDepth 100000 in
theorem give_ok (S : List Bool) (A : Option Addr) (c : Nat) (w : World) (hC : Kd.C Kd.bool w A S.length S) (hc : S.length ≤ c) (hS : S.length ≤ 1023) (k a : Nat) (hk : k < S.length) (hf : S.getD k false = true) (ha : a = (k + 1) * 4096) :
    Calls Try.prog 15 #[.agg #[.slice A S.length c], .int .u64 (a : Int)] w fun e w' => ∃ v : Value, e = .returned (.tuple #[.agg #[v], .int .i64 0]) ∧ Kd.R Kd.bool 4 w' w.heap.size (fun _ => True) v (S.set k false) ∧ Below w.heap.size w w' := by
  have hpl : pl S.length a = (k : Int) := by
    have h1 : a / 4096 - 1 = k := by omega
    rw [pl, if_pos ⟨by omega, by omega, by omega⟩, h1]
  clear ha
  have hat : Hid (∀ W', Below w.heap.size w W' → ∀ k : Nat, k < S.length → ∃ ad, A = some ad ∧ W'.cell? (ad.add k) = some (.bool (S.getD k false))) := by
    refine Lib.hid fun W' hb k hk => ?_
    obtain ⟨ad, h1, h2⟩ := Kd.at_bool (Kd.C_below hC hb) (k : Int) (by omega) (by omega)
    rw [Int.toNat_natCast, rdOf, Int.toNat_natCast] at h2
    exact ⟨ad, h1, h2⟩
  have hC2 := Lib.hid hC
  clear hC
  go_enter Try.func15, Try.ntmps15
  go_wp2_with fail
  have hx : ((w.alloc (.cells #[.slice A S.length c] 28)).alloc (.cells #[.slice none 0 0] 28)).cell? ⟨w.heap.size, 0, none⟩ = some (.slice A S.length c) :=
    (World.cell?_alloc_lt _ _ _ (by simp)).trans (World.cell?_alloc_at _ _ _ _ rfl)
  have hr : ((w.alloc (.cells #[.slice A S.length c] 28)).alloc (.cells #[.slice none 0 0] 28)).heap[w.heap.size + 1]? = some (.cells #[.slice none 0 0] 28 (0, 0)) := by
    have h := blk_new (w.alloc (.cells #[.slice A S.length c] 28)) (.cells #[.slice none 0 0] 28)
    simpa using h
  have HB := Aside0.mk (below_alloc (below_alloc (Below.refl w.heap.size w) (.cells #[.slice A S.length c] 28)) (.cells #[.slice none 0 0] 28))
  generalize (w.alloc (.cells #[.slice A S.length c] 28)).alloc (.cells #[.slice none 0 0] 28) = W2 at *
  have hr := Lib.hid hr
  have P1 := Lib.hid (dormerref22_place.calls (S.length + 1) A c S (a : Int) (pl S.length a) W2 (Kd.C_below hC2.out HB.out) hc (place_val S a hS))
  refine P1.out.mono ?_
  rintro e W3 ⟨rfl, hb⟩
  have hx3 := (hb.cell (World.block_lt_of_cell? _ _ hx)).trans hx
  have hr3 := Lib.hid (blk_below hr.out hb)
  have HB3 := Aside0.mk (below_step HB.out hb)
  have hc3 : W3.cell? ⟨w.heap.size + 1, 0, none⟩ = some (.slice none 0 0) := (blk_cell hr3.out 0).trans rfl
  have hf3 := blk_frozen hr3.out 0
  clear P1 hb hx hr HB
  rw [hpl]
  obtain ⟨ad, rfl, hcell⟩ := hat.out W3 HB3.out k hk
  rw [hf] at hcell
  have h5 : ¬ (k : Int) < 0 := by omega
  have h6 : (k : Int) < (S.length : Int) := by omega
  clear hpl hf
  have T1 := Lib.hid (dormerref22_with.calls (some ad) c S (k : Int) false _ W3 (Kd.C_below hC2.out HB3.out) hc (with_val S k false hk hS))
  go_wp2_with fail
  refine T1.out.mono ?_
  rintro e w3 ⟨v, rfl, hR, hB⟩
  have hr4 := blk_below hr3.out hB
  clear hc3 hf3
  have hc3 : w3.cell? ⟨w.heap.size + 1, 0, none⟩ = some (.slice none 0 0) := (blk_cell hr4 0).trans rfl
  have hf3 := blk_frozen hr4 0
  have HB4 := Aside0.mk (below_step HB3.out hB)
  obtain ⟨Av, cv, rfl⟩ := Kd.R_slice hR
  rw [List.length_set] at hR ⊢
  have HR := Lib.hid (Kd.R_lower hR HB3.out.size)
  have hvb : (Value.slice Av S.length cv).ownBlock ≠ some (w.heap.size + 1) := by
    intro e
    have := Kd.R_base hR _ e
    have := blk_lt hr3.out
    omega
  have hvb := Lib.hid hvb
  have hr4 := Lib.hid hr4
  clear hr3 hB hR T1 hcell hx3 HB3
  go_wp2_with fail
  refine bodyPost_ret (results_ct rfl _ _ (w.heap.size + 1) 28 #[.slice Av S.length cv] (0, 0) _ rfl (blk_put hr4.out 0 _ rfl) Try.underlying28 rfl (by kernel_rfl)) rfl ?_
  exact ⟨_, rfl, Kd.R_mono (Kd.R_far (p := ⟨w.heap.size + 1, 0, none⟩) (Kd.R_far1 HR.out rfl (fun e => hvb.out e.symm)) (fun q hq => hq.2) _) (fun _ _ => trivial), below_set HB4.out (Nat.le_succ _)⟩
end Go.Proofs.Ytekfcbgndjmhnaa.Rf
