/- Contracts of frames.Take and frames.New. Conditions: those each contract names. -/
import Derived.Test.YtekfcbgndjmhnaaFr
set_option linter.unusedVariables false
set_option linter.unusedSimpArgs false
namespace Go.Proofs.Ytekfcbgndjmhnaa.Fr
open Go.RowKit Go.Maps Go.Proofs.Ytekfcbgndjmhnaa.FrP Go.Proofs.YtekfcbgndjmhnaaW.PrintWords

theorem at_val {D : DataW Unit} {S : List Bool} (hD : Is D S) (i : Nat) {c : Int} (hat : D.atKey (.int .u64 (((i : Int) + 1) * 4096)) (.lit (.int .i64 0)) = .lit (.int .i64 c)) : c = if S.getD i false = true then 1 else 0 := by
  have h := hD.at_ ((i + 1) * 4096)
  rw [tk_at] at h
  have e : ((((i + 1) * 4096 : Nat)) : Int) = ((i : Int) + 1) * 4096 := by omega
  rw [key, e] at h
  rw [hat] at h
  injection h with h
  injection h with _ h
theorem u64_wf' (k : Nat) (hk : k < 1024) : (Lit.int .u64 (((k : Int) + 1) * 4096)).wf = true := by
  have := u64_wf ((k + 1) * 4096) (by omega)
  rwa [show ((((k + 1) * 4096 : Nat)) : Int) = ((k : Int) + 1) * 4096 by omega] at this
set_option maxHeartbeats 400000 in
set_option maxRecDepth 100000 in
theorem take_some {w : World} {g m : Nat} {S : List Bool} (h : FrAt w g m S) (i : Nat) (hi : i < S.length) (hf : S.getD i false = false) (hlt : ∀ j, j < i → S.getD j false = true) :
    Calls Try.prog 12 #[.pointer (some ⟨g, 0, none⟩)] w fun e w' => e = .returned (.tuple #[.int .u64 (((i + 1) * 4096 : Nat) : Int), .int .i64 0]) ∧ FrAt w' g m (S.set i true) ∧ w.grownBy w' (some m) := by
  have hfew := h.few
  have hr := room_any h
  have H := Lib.hid hr
  have c0 := h.c0
  have hne := h.ne
  have HF := Lib.hid h
  obtain ⟨D, ho, hD⟩ := h.own
  have HI := Lib.hid (is_put hD hi hf)
  have HD := Lib.hid hD
  have HL := Lib.hid hlt
  have Hf := Lib.hid hf
  have hsz : Maps.size D ≤ 1023 := by rw [hD.size_]; have := count_le S; omega
  clear hr h hD hlt hf
  go_enter Try.func12, Try.ntmps12
  go_wp2_with (first | (go_at_call 20; with_reducible refine H.out.mono ?_; rintro e w' ⟨rfl, rfl⟩))
  go_loop [8] (fun c => ∃ k : Nat, k ≤ i ∧ c = .int .i64 k) (fun c => i - (intOf c).toNat)
  case atStart => exact ⟨0, Nat.zero_le _, rfl⟩
  case round =>
    obtain ⟨k, hk, rfl⟩ := hrel
    have hkey := Lib.hid (keyOf_int_mk Try.underlying30 (u64_wf' k (by omega)))
    have hkl : k < S.length := by omega
    rcases Nat.lt_or_ge k i with hki | hki
    · go_wp2_with (first | (at_lookup; refine wpList_lookup_own_int _ rfl _ _ 51 rfl 30 3 .i64 law30 Try.underlying51 Try.underlying3 (zero3 _) m _ D rfl ho _ _ rfl hkey.out ?_; intro c hat hwc; obtain rfl : c = 1 := (by rw [at_val HD.out k hat, HL.out k hki]; rfl); clear hat))
      go_round
      case rel => exact ⟨k + 1, by omega, by go_num⟩
      case measure => simp [intOf]; omega
    · obtain rfl : k = i := by omega
      go_wp2_with (first
        | (at_lookup; refine wpList_lookup_own_int _ rfl _ _ 51 rfl 30 3 .i64 law30 Try.underlying51 Try.underlying3 (zero3 _) m _ D rfl ho _ _ rfl hkey.out ?_; intro c hat hwc; obtain rfl : c = 0 := (by rw [at_val HD.out k hat, Hf.out]; rfl); clear hat)
        | (at_mapUpdate; refine wpList_mapUpdate_own _ rfl _ _ _ 51 rfl 30 3 law30 Try.underlying51 _ m _ D rfl ho (by unfold maxLen; omega) _ _ _ rfl rfl hkey.out _ [] (plainElem_int Try.underlying3 (by decide)) ?_; intro w1 hown1 hgrow1))
      go_ret2
      refine ⟨?_, ?_, hgrow1⟩
      · first | rfl | (rw [show ((((k + 1) * 4096 : Nat)) : Int) = ((k : Int) + 1) * 4096 by omega]; rfl)
      · have hI := HI.out
        rw [key, show ((((k + 1) * 4096 : Nat)) : Int) = ((k : Int) + 1) * 4096 by omega] at hI
        obtain ⟨hl1, _⟩ := HF.out.lt
        have hb := hgrow1.block g hl1 (by simp [hne])
        exact ⟨by rw [World.cell?_of_block (a := ⟨g, 0, none⟩) hb]; exact HF.out.c0, by rw [World.cell?_of_block (a := ⟨g, 1, none⟩) hb, List.length_set]; exact HF.out.c1, by rw [List.length_set]; exact hfew, _, own_tight hown1, hI⟩
set_option maxRecDepth 100000 in
theorem take_none {w : World} {g m : Nat} {S : List Bool} (h : FrAt w g m S) (hlt : ∀ j, j < S.length → S.getD j false = true) :
    Calls Try.prog 12 #[.pointer (some ⟨g, 0, none⟩)] w fun e w' => e = .returned (.tuple #[.int .u64 0, .int .i64 6]) ∧ w = w' := by
  have hfew := h.few
  have hr := room_any h
  have H := Lib.hid hr
  have c0 := h.c0
  obtain ⟨D, ho, hD⟩ := h.own
  have HD := Lib.hid hD
  have HL := Lib.hid hlt
  clear hr h hD hlt
  go_enter Try.func12, Try.ntmps12
  go_wp2_with (first | (go_at_call 20; with_reducible refine H.out.mono ?_; rintro e w' ⟨rfl, rfl⟩))
  go_loop [8] (fun c => ∃ k : Nat, k ≤ S.length ∧ c = .int .i64 k) (fun c => S.length - (intOf c).toNat)
  case atStart => exact ⟨0, Nat.zero_le _, rfl⟩
  case round =>
    obtain ⟨k, hk, rfl⟩ := hrel
    rcases Nat.lt_or_ge k S.length with hki | hki
    · have hkey := Lib.hid (keyOf_int_mk Try.underlying30 (u64_wf' k (by omega)))
      go_wp2_with (first | (at_lookup; refine wpList_lookup_own_int _ rfl _ _ 51 rfl 30 3 .i64 law30 Try.underlying51 Try.underlying3 (zero3 _) m _ D rfl ho _ _ rfl hkey.out ?_; intro c hat hwc; obtain rfl : c = 1 := (by rw [at_val HD.out k hat, HL.out k hki]; rfl); clear hat))
      go_round
      case rel => exact ⟨k + 1, by omega, by go_num⟩
      case measure => simp [intOf]; omega
    · obtain rfl : k = S.length := by omega
      go_wp2
      go_ret2
      exact ⟨rfl, rfl⟩
theorem take_nil (w : World) : Calls Try.prog 12 #[.pointer none] w fun e w' => e = .returned (.tuple #[.int .u64 0, .int .i64 6]) ∧ w = w' := by
  go_enter Try.func12, Try.ntmps12
  go_wp2_with (first | (go_at_call 20; with_reducible refine (room_nil _).mono ?_; rintro e w' ⟨rfl, rfl⟩))
  go_loop [8] (fun c => c = .int .i64 0) (fun c => 0)
  case atStart => rfl
  case round =>
    obtain rfl := hrel
    go_wp2
    go_ret2
    exact ⟨rfl, rfl⟩
theorem give_nil (a : Int) (w : World) : Calls Try.prog 14 #[.pointer none, .int .u64 a] w fun e w' => e = .returned (.int .i64 7) ∧ w = w' := by
  go_enter Try.func14, Try.ntmps14
  go_wp2_with (first | (go_at_call 16; with_reducible refine (taken_nil _ _).mono ?_; rintro e w' ⟨rfl, rfl⟩))
  go_ret
  exact ⟨rfl, rfl⟩
theorem new_bad (b : Int) (w : World) (h : b < 14 ∨ 22 < b) : Calls Try.prog 10 #[.int .i64 b] w fun e w' => e = .returned (.pointer none) ∧ w = w' := by
  rcases h with h | h
  · go_enter Try.func10, Try.ntmps10
    go_wp2
    go_ret
    exact ⟨rfl, rfl⟩
  · have h' : ¬ b < 14 := by omega
    go_enter Try.func10, Try.ntmps10
    go_wp2
    go_ret
    exact ⟨rfl, rfl⟩
theorem fr_made (w : World) (n : Nat) (hn : n ≤ 1023) : FrAt ((w.alloc (.map #[] 0)).alloc (.cells #[.map (some w.heap.size), .int .i64 (n : Int)] 54)) (w.heap.size + 1) w.heap.size (List.replicate n false) := by
  refine ⟨?_, ?_, by rw [List.length_replicate]; exact hn, .map [], ?_, is_new n⟩
  · rw [World.cell?_alloc_at _ _ _ _ (by simp)]; rfl
  · rw [World.cell?_alloc_at _ _ _ _ (by simp), List.length_replicate]; rfl
  · exact (World.ownsMap_made w Try.prog 30 (plainElem Try.prog 3)).alloc _
theorem two_below (w : World) (o p : Obj) : Below w.heap.size w ((w.alloc o).alloc p) := below_alloc (below_alloc (Below.refl _ _) _) _
theorem new_ok (k : Nat) (w : World) (h1 : 14 ≤ k) (h2 : k ≤ 22) : Calls Try.prog 10 #[.int .i64 (k : Int)] w fun e w' => e = .returned (.pointer (some ⟨w.heap.size + 1, 0, none⟩)) ∧ FrAt w' (w.heap.size + 1) w.heap.size (List.replicate (2 ^ (k - 12) - 1) false) ∧ Below w.heap.size w w' := by
  have hmm := @run_makeMap Try.prog
  have hk : k = 14 ∨ k = 15 ∨ k = 16 ∨ k = 17 ∨ k = 18 ∨ k = 19 ∨ k = 20 ∨ k = 21 ∨ k = 22 := by omega
  rcases hk with rfl | rfl | rfl | rfl | rfl | rfl | rfl | rfl | rfl
  all_goals
    clear h1 h2
    go_enter Try.func10, Try.ntmps10
    go_wp2
    go_ret
    exact ⟨rfl, fr_made w _ (by decide), two_below w _ _⟩
end Go.Proofs.Ytekfcbgndjmhnaa.Fr
