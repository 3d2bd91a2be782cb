/- Each one that is taken is one less that is free; each that is given one more; what is refused changes nothing. No condition. -/
import Derived.Test.YtekfcbgndjmhnaaFa
import Derived.Test.YtekfcbgndjmhnaaFrQ
set_option linter.unusedVariables false
set_option linter.unusedSimpArgs false
namespace Go.Proofs.Ytekfcbgndjmhnaa.Pu
open Go.RowKit Go.Maps Go.Proofs.Ytekfcbgndjmhnaa.FrP Go.Proofs.Ytekfcbgndjmhnaa.Fr Go.Proofs.YtekfcbgndjmhnaaW.PrintWords
set_option maxHeartbeats 1000000 in
set_option maxRecDepth 100000 in
theorem FramesCount (a : Option Addr) (len cap : Nat) (zs : List Int) (w : World)
    (hrow : (a = none ∧ len = 0 ∧ cap = 0 ∧ zs = []) ∨ ∃ x, a = some x ∧ len ≤ cap ∧ cap ≤ maxLen ∧ zs.length = cap ∧ (∀ i, i < zs.length → w.cell? (x.add i) = some (.int .i64 (zs.getD i 0))) ∧ ∀ n ∈ zs, (Lit.int .i64 n).wf = true) (hy : len * 8 ≤ 140737488351232) :
    Calls Try.prog 8 #[.slice a len cap] w fun e w' => e = .returned (.bool true) ∧ Below w.heap.size w w' := by
  have hlen : len < 9223372036854775808 := by omega
  have hcell : Hid (∀ wr : World, Below w.heap.size w wr → ∀ i : Nat, i < len → ∃ x v, a = some x ∧ wr.cell? (x.add i) = some (.int .i64 v) ∧ -9223372036854775808 ≤ v ∧ v < 9223372036854775808) := by
    refine Lib.hid fun wr hb i hi => ?_
    rcases hrow with ⟨_, rfl, _⟩ | ⟨x, rfl, h1, h2, h3, h4, h5⟩
    · omega
    · have hi2 : i < zs.length := by omega
      refine ⟨x, zs.getD i 0, rfl, (hb.cell (World.block_lt_of_cell? w _ (h4 i hi2))).trans (h4 i hi2), ?_⟩
      have := i64_lit (h5 (zs.getD i 0) (by rw [List.getD_eq_getElem?_getD, List.getElem?_eq_getElem hi2]; exact List.getElem_mem hi2))
      exact this
  clear hrow hy
  go_enter Try.func8, Try.ntmps8
  go_wp2_with fail
  refine (awake_any w).mono ?_
  rintro e w1 ⟨rfl, B1⟩
  go_wp2_with fail
  refine (new_ok 15 w1 (by decide) (by decide)).mono ?_
  rintro e w2 ⟨rfl, F2, B2⟩
  replace F2 : FrAt w2 (w1.heap.size + 1) w1.heap.size (List.replicate 7 false) := F2
  have hm : w.heap.size ≤ w1.heap.size := B1.size
  have HB := Aside0.mk (below_step B1 B2)
  generalize w1.heap.size = m at *
  clear B1 B2
  have HF := Lib.hid F2
  clear F2
  go_wp2_with fail
  go_loopw [5] (fun x wr => ∃ i : Nat, ∃ S : List Bool, x = .int .i64 (i : Int) ∧ i ≤ len ∧ S.length = 7 ∧ Hid (FrAt wr (m + 1) m S) ∧ Aside0 (Below w.heap.size w wr)) (fun x _ => 60 - (intOf x).toNat)
  case atStart => exact ⟨0, _, rfl, by omega, rfl, HF, HB⟩
  case round =>
    obtain ⟨i, S, rfl, hi, hS, HFr, HBr⟩ := hrel
    clear HF HB
    by_cases hlt : i < len
    · by_cases h60 : i < 60
      · have hlt2 : (i : Int) < (len : Int) := by omega
        have h602 : (i : Int) < 60 := by omega
        obtain ⟨x, v, rfl, hc, hv1, hv2⟩ := hcell.out _ HBr.out i hlt
        have T1 := Lib.hid (free_any HFr.out)
        rw [hS] at T1
        have hcc := List.count_le_length (a := true) (l := S)
        rw [hS] at hcc
        by_cases hev : v.tmod 2 = 0
        · go_wp2_with (first | (go_at_call 18; with_reducible refine T1.out.mono ?_; rintro e w' ⟨rfl, ⟨nd, rfl⟩⟩))
          have HF := HFr.out.drewN nd
          have HB := pw_below_drewN HBr.out nd
          clear T1 HFr HBr
          generalize wr.drewN nd = w3 at *
          rcases lowest S with ⟨k, hk1, hk2, hk3⟩ | hk
          · have hu := count_under hk1 hk2
            have hs := count_set_true hk1 hk2
            have tks := tk_set_same hk1 true
            refine (take_some HF k hk1 hk2 hk3).mono ?_
            rintro e w4 ⟨rfl, F4, G4⟩
            have HB4 := Aside0.mk (Fr.step HB G4 hm)
            have T3 := taken_any F4 ((k + 1) * 4096) (by omega)
            have T4 := free_any F4
            rw [tks] at T3
            have ek : (((k + 1) * 4096 : Nat) : Int) = ((k : Int) + 1) * 4096 := by omega
            rw [ek] at T3
            rw [ek]
            clear ek
            rw [hs, List.length_set, hS] at T4
            have T3 := Lib.hid T3
            have T4 := Lib.hid T4
            have F4 := Lib.hid F4
            have hS2 : (S.set k true).length = 7 := by rw [List.length_set, hS]
            generalize S.set k true = S2 at *
            clear HF HB G4 hk1 hk2 hk3 tks hs
            have hw : (0 : Int) < 7 - (S.count true : Int) := by omega
            generalize S.count true = n at *
            go_wp2_with (first | (go_at_call 18; with_reducible refine T4.out.mono ?_; rintro e w' ⟨rfl, ⟨nd, rfl⟩⟩) | (go_at_call 16; with_reducible refine T3.out.mono ?_; rintro e w' ⟨rfl, rfl⟩))
            go_roundw
            case rel => exact ⟨i + 1, S2, by go_num, by omega, hS2, F4.out.drewN _, ⟨pw_below_drewN HB4.out _⟩⟩
            case measure => simp [intOf]; omega
          · have hs := count_full hk
            rw [hS] at hs
            refine (take_none HF hk).mono ?_
            rintro e w4 ⟨rfl, rfl⟩
            have T3 := taken_any HF 0 (by omega)
            have T4 := free_any HF
            rw [tk_zero, show ((0 : Nat) : Int) = 0 from rfl] at T3
            rw [hs, hS] at T4
            have T3 := Lib.hid T3
            have T4 := Lib.hid T4
            have F4 := Lib.hid HF
            have HB4 := Aside0.mk HB
            clear HF HB hk
            rw [hs]
            go_wp2_with (first | (go_at_call 18; with_reducible refine T4.out.mono ?_; rintro e w' ⟨rfl, ⟨nd, rfl⟩⟩) | (go_at_call 16; with_reducible refine T3.out.mono ?_; rintro e w' ⟨rfl, rfl⟩))
            go_roundw
            case rel => exact ⟨i + 1, S, by go_num, by omega, hS, F4.out.drewN _, ⟨pw_below_drewN HB4.out _⟩⟩
            case measure => simp [intOf]; omega
        · go_wp2_with (first | (go_at_call 18; with_reducible refine T1.out.mono ?_; rintro e w' ⟨rfl, ⟨nd, rfl⟩⟩))
          have HF := HFr.out.drewN nd
          have HB := pw_below_drewN HBr.out nd
          clear T1 HFr HBr
          generalize wr.drewN nd = w3 at *
          obtain ⟨q, hq, hq2⟩ : ∃ q : Nat, IntKind.u64.wrap (IntKind.u64.wrap ((v.tdiv 2).tmod 9) * 4096) = (q : Int) ∧ q < 18446744073709551616 := by
            have h := IntKind.wrap_u64 (IntKind.u64.wrap ((v.tdiv 2).tmod 9) * 4096)
            rw [h]
            generalize IntKind.u64.wrap ((v.tdiv 2).tmod 9) * 4096 = y
            exact ⟨(y % 2 ^ 64).toNat, by omega, by omega⟩
          simp only [hq]
          clear hq
          cases ho : tk S q with
          | true =>
            obtain ⟨k, hk1, rfl, hk2⟩ := tk_form ho
            have hs := count_set_false hk1 hk2
            have T1 := taken_any HF ((k + 1) * 4096) (by omega)
            rw [ho] at T1
            have T2 := Lib.hid (give_ok HF k hk1 hk2)
            have ek : (((k + 1) * 4096 : Nat) : Int) = ((k : Int) + 1) * 4096 := by omega
            rw [ek] at T1 T2
            rw [ek]
            refine T1.mono ?_
            rintro e w' ⟨rfl, rfl⟩
            clear T1 HF ek
            have hS2 : (S.set k false).length = 7 := by rw [List.length_set, hS]
            have hn : S.count true = (S.set k false).count true + 1 := by omega
            rw [hn]
            clear hn ho
            generalize S.set k false = S2 at *
            go_wp2_with fail
            refine T2.out.mono ?_
            rintro e w4 ⟨rfl, F4, G4⟩
            have HB4 := Aside0.mk (Fr.step HB G4 hm)
            have T4 := free_any F4
            rw [hS2] at T4
            have T4 := Lib.hid T4
            have F4 := Lib.hid F4
            have hw : (0 : Int) ≤ S2.count true ∧ (S2.count true : Int) + 1 ≤ 7 := by omega
            obtain ⟨hw1, hw2⟩ := hw
            clear HB G4 T2
            generalize S2.count true = n at *
            go_wp2_with (first | (go_at_call 18; with_reducible refine T4.out.mono ?_; rintro e w' ⟨rfl, ⟨nd, rfl⟩⟩))
            go_roundw
            case rel => exact ⟨i + 1, S2, by go_num, by omega, hS2, F4.out.drewN _, ⟨pw_below_drewN HB4.out _⟩⟩
            case measure => simp [intOf]; omega
          | false =>
            have T1 := taken_any HF q (by omega)
            rw [ho] at T1
            have T1 := Lib.hid T1
            have T2 := Lib.hid (give_bad HF q (by omega) ho)
            have T4 := free_any HF
            rw [hS] at T4
            have T4 := Lib.hid T4
            have F4 := Lib.hid HF
            have HB4 := Aside0.mk HB
            clear HF HB ho
            generalize S.count true = n at *
            go_wp2_with (first | (go_at_call 16; with_reducible refine T1.out.mono ?_; rintro e w' ⟨rfl, rfl⟩) | (go_at_call 14; with_reducible refine T2.out.mono ?_; rintro e w' ⟨rfl, rfl⟩) | (go_at_call 18; with_reducible refine T4.out.mono ?_; rintro e w' ⟨rfl, ⟨nd, rfl⟩⟩))
            go_roundw
            case rel => exact ⟨i + 1, S, by go_num, by omega, hS, F4.out.drewN _, ⟨pw_below_drewN HB4.out _⟩⟩
            case measure => simp [intOf]; omega
      · have h602 : ¬ (i : Int) < 60 := by omega
        have hlt2 : (i : Int) < (len : Int) := by omega
        have T1 := room_any HFr.out
        rw [hS] at T1
        have T1 := Lib.hid T1
        go_wp2_with (first | (go_at_call 20; with_reducible refine T1.out.mono ?_; rintro e w' ⟨rfl, rfl⟩))
        go_ret
        exact ⟨rfl, HBr.out⟩
    · have hlt2 : ¬ (i : Int) < (len : Int) := by omega
      have T1 := room_any HFr.out
      rw [hS] at T1
      have T1 := Lib.hid T1
      go_wp2_with (first | (go_at_call 20; with_reducible refine T1.out.mono ?_; rintro e w' ⟨rfl, rfl⟩))
      go_ret
      exact ⟨rfl, HBr.out⟩
end Go.Proofs.Ytekfcbgndjmhnaa.Pu
