-- PRINTED by print.py (a twelfth state) out of the translation. Not trusted: Lean checks it.
import Derived.Test.YtlccjklljlddhaaFnx0
import Derived.Test.YtlccjklljlddhaaFnx2
namespace Go.Proofs.Ytlccjklljlddhaa.Fn
open Go.RowKit Go.Proofs.YtlccjklljlddhaaW.PrintWords Go.Proofs.YtlccjklljlddhaaW.PrintLast Go.Proofs.YtlccjklljlddhaaW.PrintMore
attribute [local go_sem] max2_int min2_int max_two min_two max_three min_three max_four min_four   -- for this text's walks alone
set_option linter.unusedVariables false
set_option linter.unusedSimpArgs false

/-! ### script_record: function 21 -/
mutual
def script_record.j0 : Nat → Int → Int → Int → Int → Int → Int → Bool → Bool → List Int → Option (List Int)
  | 0, _, _, _, _, _, _, _, _, _ => none
  | k + 1, x3, x141000, x141001, x141002, x141003, x141004, x141005, x141006, x141007 => if x141006 = true then (script_record.j1 k (Go.bits .or .i64 x3 128) x141000 x141001 x141002 x141003 x141004 x141005 x141006 x141007) else (script_record.j1 k x3 x141000 x141001 x141002 x141003 x141004 x141005 x141006 x141007)
def script_record.j1 : Nat → Int → Int → Int → Int → Int → Int → Bool → Bool → List Int → Option (List Int)
  | 0, _, _, _, _, _, _, _, _, _ => none
  | k + 1, x3, x141000, x141001, x141002, x141003, x141004, x141005, x141006, x141007 => (word_Bytes.f k x141001).bind fun t144 => ((word_Bytes.f k x141003).bind fun t147 => ((slices_Concat_byte_byte.f k (([(([(wrap64 (x141000 - 1)) % 256, (x3) % 256, (x141002) % 256] : List Int)), t144, t147] : List (List Int)))).bind fun t153 => (script_record.l0 k t153 x141007 (x141007.length : Int) 0)))
def script_record.l0 : Nat → List Int → List Int → Int → Int → Option (List Int)
  | 0, _, _, _, _ => none
  | k + 1, x4, x39, x40, x41 => if x41 < x40 then (if 0 ≤ x41 then (if x41 < (x39.length : Int) then (if x4.length < 140737488355328 then (script_record.l0 k (x4 ++ [(rd x39 x41) % 256]) x39 x40 (wrap64 (x41 + 1))) else (none)) else (none)) else (none)) else (some x4)
end
def script_record.f (k : Nat) (a0_0 : Int) (a0_1 : Int) (a0_2 : Int) (a0_3 : Int) (a0_4 : Int) (a0_5 : Bool) (a0_6 : Bool) (l0_7 : List Int) : Option (List Int) := if a0_5 = true then (script_record.j0 k (Go.bits .or .i64 a0_4 64) a0_0 a0_1 a0_2 a0_3 a0_4 a0_5 a0_6 l0_7) else (script_record.j0 k a0_4 a0_0 a0_1 a0_2 a0_3 a0_4 a0_5 a0_6 l0_7)
theorem script_record.mono_l : ∀ k, (∀ y0 y1 y2 y3 y4 y5 y6 y7 y8, LeO (script_record.j0 k y0 y1 y2 y3 y4 y5 y6 y7 y8) (script_record.j0 (k + 1) y0 y1 y2 y3 y4 y5 y6 y7 y8)) ∧ (∀ y0 y1 y2 y3 y4 y5 y6 y7 y8, LeO (script_record.j1 k y0 y1 y2 y3 y4 y5 y6 y7 y8) (script_record.j1 (k + 1) y0 y1 y2 y3 y4 y5 y6 y7 y8)) ∧ (∀ y0 y1 y2 y3, LeO (script_record.l0 k y0 y1 y2 y3) (script_record.l0 (k + 1) y0 y1 y2 y3))
  | 0 => ⟨fun _ _ _ _ _ _ _ _ _ r h => by simp [script_record.j0] at h, fun _ _ _ _ _ _ _ _ _ r h => by simp [script_record.j1] at h, fun _ _ _ _ r h => by simp [script_record.l0] at h⟩
  | k + 1 => by
    obtain ⟨ih0, ih1, ih2⟩ := script_record.mono_l k
    refine ⟨?_, ?_, ?_⟩
    · intro y0 y1 y2 y3 y4 y5 y6 y7 y8
      unfold script_record.j0
      repeat' first
      | (with_reducible exact ih0 _ _ _ _ _ _ _ _ _)
      | (with_reducible exact ih1 _ _ _ _ _ _ _ _ _)
      | (with_reducible exact ih2 _ _ _ _)
      | (with_reducible exact slices_Concat_byte_byte.mono _ _)
      | (with_reducible exact word_Bytes.mono _ _)
      | (with_reducible exact LeO.refl _)
      | (with_reducible exact LeO.none _)
      | (with_reducible refine LeO.ite ?_ ?_)
      | (with_reducible refine LeO.bind ?_ (fun _ => ?_))
      | exact ih0 _ _ _ _ _ _ _ _ _
      | exact ih1 _ _ _ _ _ _ _ _ _
      | exact ih2 _ _ _ _
      | exact slices_Concat_byte_byte.mono _ _
      | exact word_Bytes.mono _ _
      | exact LeO.none _
      | refine LeO.ite ?_ ?_
      | refine LeO.bind ?_ (fun _ => ?_)
    · intro y0 y1 y2 y3 y4 y5 y6 y7 y8
      unfold script_record.j1
      repeat' first
      | (with_reducible exact ih0 _ _ _ _ _ _ _ _ _)
      | (with_reducible exact ih1 _ _ _ _ _ _ _ _ _)
      | (with_reducible exact ih2 _ _ _ _)
      | (with_reducible exact slices_Concat_byte_byte.mono _ _)
      | (with_reducible exact word_Bytes.mono _ _)
      | (with_reducible exact LeO.refl _)
      | (with_reducible exact LeO.none _)
      | (with_reducible refine LeO.ite ?_ ?_)
      | (with_reducible refine LeO.bind ?_ (fun _ => ?_))
      | exact ih0 _ _ _ _ _ _ _ _ _
      | exact ih1 _ _ _ _ _ _ _ _ _
      | exact ih2 _ _ _ _
      | exact slices_Concat_byte_byte.mono _ _
      | exact word_Bytes.mono _ _
      | exact LeO.none _
      | refine LeO.ite ?_ ?_
      | refine LeO.bind ?_ (fun _ => ?_)
    · intro y0 y1 y2 y3
      unfold script_record.l0
      repeat' first
      | (with_reducible exact ih0 _ _ _ _ _ _ _ _ _)
      | (with_reducible exact ih1 _ _ _ _ _ _ _ _ _)
      | (with_reducible exact ih2 _ _ _ _)
      | (with_reducible exact slices_Concat_byte_byte.mono _ _)
      | (with_reducible exact word_Bytes.mono _ _)
      | (with_reducible exact LeO.refl _)
      | (with_reducible exact LeO.none _)
      | (with_reducible refine LeO.ite ?_ ?_)
      | (with_reducible refine LeO.bind ?_ (fun _ => ?_))
      | exact ih0 _ _ _ _ _ _ _ _ _
      | exact ih1 _ _ _ _ _ _ _ _ _
      | exact ih2 _ _ _ _
      | exact slices_Concat_byte_byte.mono _ _
      | exact word_Bytes.mono _ _
      | exact LeO.none _
      | refine LeO.ite ?_ ?_
      | refine LeO.bind ?_ (fun _ => ?_)
theorem script_record.mono : ∀ a0 a1 a2 a3 a4 a5 a6 a7 k, LeO (script_record.f k a0 a1 a2 a3 a4 a5 a6 a7) (script_record.f (k + 1) a0 a1 a2 a3 a4 a5 a6 a7) := by
  intro a0 a1 a2 a3 a4 a5 a6 a7 k
  obtain ⟨ih0, ih1, ih2⟩ := script_record.mono_l k
  unfold script_record.f
  repeat' first
      | (with_reducible exact ih0 _ _ _ _ _ _ _ _ _)
      | (with_reducible exact ih1 _ _ _ _ _ _ _ _ _)
      | (with_reducible exact ih2 _ _ _ _)
      | (with_reducible exact slices_Concat_byte_byte.mono _ _)
      | (with_reducible exact word_Bytes.mono _ _)
      | (with_reducible exact LeO.refl _)
      | (with_reducible exact LeO.none _)
      | (with_reducible refine LeO.ite ?_ ?_)
      | (with_reducible refine LeO.bind ?_ (fun _ => ?_))
      | exact ih0 _ _ _ _ _ _ _ _ _
      | exact ih1 _ _ _ _ _ _ _ _ _
      | exact ih2 _ _ _ _
      | exact slices_Concat_byte_byte.mono _ _
      | exact word_Bytes.mono _ _
      | exact LeO.none _
      | refine LeO.ite ?_ ?_
      | refine LeO.bind ?_ (fun _ => ?_)
def script_record.T6 : Bool × List (List Nat × List Nat) := (true, [([], []), ([0], [0]), ([1], [1]), ([2], [2]), ([], []), ([4], [4]), ([], []), ([6], [6]), ([7], [7]), ([3, 5, 8], [3, 5, 8]), ([], []), ([10], [10]), ([11], [11]), ([], []), ([13], [13]), ([14, 12], [14]), ([9, 12, 15], [9, 12, 15]), ([16, 15], [16]), ([17, 17, 0, 1, 2, 3, 4, 5, 6, 7, 8, 9, 10, 11, 12, 13, 14, 15, 16, 17], [17])])
def script_record.B6 : List Nat := [0, 1, 3, 7, 0, 16, 0, 64, 192, 511, 0, 1024, 3072, 0, 8192, 31744, 65535, 131071, 262143]
theorem script_record.tab6 : rtab .any (opsOf Try.f21 6) = script_record.T6 := by kernel_rfl
theorem script_record.bits6 : waitsOk script_record.T6.2 script_record.B6 = true := by kernel_rfl
set_option maxHeartbeats 8000000 in
set_option maxRecDepth 100000 in
theorem script_record.calls (k : Nat) (a0_0 : Int) (a0_1 : Int) (a0_2 : Int) (a0_3 : Int) (a0_4 : Int) (a0_5 : Bool) (a0_6 : Bool) (A0_7 : Option Addr) (c0_7 : Nat) (l0_7 : List Int) (r : List Int) (w : World) (hr0_7 : Kd.C (Kd.int .i64) w A0_7 l0_7.length l0_7) (hc0_7 : l0_7.length ≤ c0_7) (h : script_record.f k a0_0 a0_1 a0_2 a0_3 a0_4 a0_5 a0_6 l0_7 = some r) :
    Calls Try.prog 21 #[.agg #[.int .i64 a0_0, .int .u64 a0_1, .int .i64 a0_2, .int .u64 a0_3, .int .i64 a0_4, .bool a0_5, .bool a0_6, .slice A0_7 l0_7.length c0_7]] w fun e w' => ∃ v0_ : Value, e = .returned (v0_) ∧ Kd.R (Kd.int .u8) 5 w' w.heap.size (fun _ => True) v0_ r ∧ Below w.heap.size w w' := by
  have hu36 := Try.underlying36
  have HR0_7 := Aside0.mk hr0_7
  have HC0_7 := Aside0.mk hc0_7
  clear hr0_7 hc0_7
  have HB := Aside0.mk (Below.refl w.heap.size w)
  have H : (if a0_5 = true then (script_record.j0 k (Go.bits .or .i64 a0_4 64) a0_0 a0_1 a0_2 a0_3 a0_4 a0_5 a0_6 l0_7) else (script_record.j0 k a0_4 a0_0 a0_1 a0_2 a0_3 a0_4 a0_5 a0_6 l0_7)) = some r := h
  clear h
  have HC2 := Aside0.mk H
  clear H
  go_enter Try.func21, Try.ntmps21
  go_upto_if 12 with (first | ((with_reducible refine gate_dst (N := 1) rfl ?_); refine box_event ?hg (N := 1) ?hd (cs := #[.int .i64 a0_0, .int .u64 a0_1, .int .i64 a0_2, .int .u64 a0_3, .int .i64 a0_4, .bool a0_5, .bool a0_6, .slice A0_7 l0_7.length c0_7]) (t := 36) ?hr ?_; (case hd => rfl); (case hg => rfl); (case hr => first | (go_simp; done) | (go_simp; rfl)); intro gb140 hg w3 hbox hb; have n0_ := Aside0.mk (below_step (by repeat (first | (with_reducible first | exact HB.out | apply below_alloc | apply pw_below_drewN | apply below_drew1) | exact HB.out)) hb); have n1_ := Aside0.mk (hbox); have n2_ := Aside0.mk ((by rw [hg]; exact (below_size (by repeat (first | (with_reducible first | exact HB.out | apply below_alloc | apply pw_below_drewN | apply below_drew1) | exact HB.out))) : w.heap.size ≤ gb140)); have n3_ := Aside0.mk ((by rw [hg]; exact (below_size (by repeat (first | (with_reducible first | exact HB.out | apply below_alloc | apply pw_below_drewN | apply below_drew1) | exact HB.out))) : w.heap.size ≤ gb140)); clear HB; have HB := n0_; have BK140 := n1_; have GW140 := n2_; have GE140 := n3_; clear n0_ n1_ n2_ n3_; clear hb hbox hg; have hcz4_0 : w3.cell? ⟨gb140, 0, none⟩ = some (.int .i64 a0_0) := (blk_cell BK140.out 0).trans rfl; have hcz4_1 : w3.cell? ⟨gb140, 1, none⟩ = some (.int .u64 a0_1) := (blk_cell BK140.out 1).trans rfl; have hcz4_2 : w3.cell? ⟨gb140, 2, none⟩ = some (.int .i64 a0_2) := (blk_cell BK140.out 2).trans rfl; have hcz4_3 : w3.cell? ⟨gb140, 3, none⟩ = some (.int .u64 a0_3) := (blk_cell BK140.out 3).trans rfl; have hcz4_4 : w3.cell? ⟨gb140, 4, none⟩ = some (.int .i64 a0_4) := (blk_cell BK140.out 4).trans rfl; have hcz4_5 : w3.cell? ⟨gb140, 5, none⟩ = some (.bool a0_5) := (blk_cell BK140.out 5).trans rfl; have hcz4_6 : w3.cell? ⟨gb140, 6, none⟩ = some (.bool a0_6) := (blk_cell BK140.out 6).trans rfl; have hcz4_7 : w3.cell? ⟨gb140, 7, none⟩ = some (.slice A0_7 l0_7.length c0_7) := (blk_cell BK140.out 7).trans rfl; have hfz4_0 := blk_frozen BK140.out 0; have hfz4_1 := blk_frozen BK140.out 1; have hfz4_2 := blk_frozen BK140.out 2; have hfz4_3 := blk_frozen BK140.out 3; have hfz4_4 := blk_frozen BK140.out 4; have hfz4_5 := blk_frozen BK140.out 5; have hfz4_6 := blk_frozen BK140.out 6; have hfz4_7 := blk_frozen BK140.out 7))
  (try simp only [Act.put, List.setIfInBounds_toArray, List.set_cons_zero, List.set_cons_succ])
  go_cut [3] (fun v3 wc => ∃ (kq : Nat) (x3_1 : Int), v3 = .int .i64 x3_1 ∧ Aside0 (script_record.j0 kq x3_1 a0_0 a0_1 a0_2 a0_3 a0_4 a0_5 a0_6 l0_7 = some r) ∧ Aside0 (kq ≤ k) ∧ Aside0 (wc.heap[gb140]? = some (.cells #[.int .i64 a0_0, .int .u64 a0_1, .int .i64 a0_2, .int .u64 a0_3, .int .i64 a0_4, .bool a0_5, .bool a0_6, (.slice A0_7 l0_7.length c0_7)] 36 (0, 0))) ∧ Aside0 (Below w.heap.size w wc))
  case first =>
    have H := HC2.out
    clear HC2
    by_cases c5 : a0_5 = true
    · subst c5
      have H1 : (script_record.j0 k (Go.bits .or .i64 a0_4 64) a0_0 a0_1 a0_2 a0_3 a0_4 true a0_6 l0_7) = some r := by rw [if_pos rfl] at H; exact H
      clear H
      have H := H1
      clear H1
      have H' := Aside0.mk H
      clear H
      go_wp2
      go_meet
      case rel => exact ⟨_, (Go.bits .or .i64 a0_4 64), (by first | rfl | (simp; done) | (simp [*]; done)), H', ⟨by first | omega | exact Nat.le_refl _⟩, ⟨by (with_reducible repeat (first | refine blk_drewN ?_ _ | refine blk_drew ?_ | refine blk_alloc ?_ _)); exact BK140.out⟩, ⟨by repeat (first | (with_reducible first | exact HB.out | apply below_alloc | apply pw_below_drewN | apply below_drew1 | refine below_set ?_ GE140.out) | exact HB.out)⟩⟩
    · replace c5 := Bool.eq_false_iff.mpr c5
      subst c5
      have H1 : (script_record.j0 k a0_4 a0_0 a0_1 a0_2 a0_3 a0_4 false a0_6 l0_7) = some r := by rw [if_neg (show ¬ (false = true) by decide)] at H; exact H
      clear H
      have H := H1
      clear H1
      have H' := Aside0.mk H
      clear H
      go_wp2
      go_meet
      case rel => exact ⟨_, (a0_4), (by first | rfl | (simp; done) | (simp [*]; done)), H', ⟨by first | omega | exact Nat.le_refl _⟩, ⟨by (with_reducible repeat (first | refine blk_drewN ?_ _ | refine blk_drew ?_ | refine blk_alloc ?_ _)); exact BK140.out⟩, ⟨by repeat (first | (with_reducible first | exact HB.out | apply below_alloc | apply pw_below_drewN | apply below_drew1 | refine below_set ?_ GE140.out) | exact HB.out)⟩⟩
  case rest =>
    clear HC2
    try clear c2
    try clear p2
    try clear c5
    try clear hcz4_0
    try clear hcz4_1
    try clear hcz4_2
    try clear hcz4_3
    try clear hcz4_4
    try clear hcz4_5
    try clear hcz4_6
    try clear hcz4_7
    try clear hfz4_0
    try clear hfz4_1
    try clear hfz4_2
    try clear hfz4_3
    try clear hfz4_4
    try clear hfz4_5
    try clear hfz4_6
    try clear hfz4_7
    obtain ⟨kq, x3_1, rfl, HA, HJ1, BK140, HB⟩ := hcut
    cases kq with
    | zero => exact absurd HA.out (by simp [script_record.j0])
    | succ kj1 =>
      have H := HA.out
      clear HA
      simp only [script_record.j0] at H
      have HC6 := Aside0.mk H
      clear H
      have hcz7_0 : wc.cell? ⟨gb140, 0, none⟩ = some (.int .i64 a0_0) := (blk_cell BK140.out 0).trans rfl
      have hcz7_1 : wc.cell? ⟨gb140, 1, none⟩ = some (.int .u64 a0_1) := (blk_cell BK140.out 1).trans rfl
      have hcz7_2 : wc.cell? ⟨gb140, 2, none⟩ = some (.int .i64 a0_2) := (blk_cell BK140.out 2).trans rfl
      have hcz7_3 : wc.cell? ⟨gb140, 3, none⟩ = some (.int .u64 a0_3) := (blk_cell BK140.out 3).trans rfl
      have hcz7_4 : wc.cell? ⟨gb140, 4, none⟩ = some (.int .i64 a0_4) := (blk_cell BK140.out 4).trans rfl
      have hcz7_5 : wc.cell? ⟨gb140, 5, none⟩ = some (.bool a0_5) := (blk_cell BK140.out 5).trans rfl
      have hcz7_6 : wc.cell? ⟨gb140, 6, none⟩ = some (.bool a0_6) := (blk_cell BK140.out 6).trans rfl
      have hcz7_7 : wc.cell? ⟨gb140, 7, none⟩ = some (.slice A0_7 l0_7.length c0_7) := (blk_cell BK140.out 7).trans rfl
      have hfz7_0 := blk_frozen BK140.out 0
      have hfz7_1 := blk_frozen BK140.out 1
      have hfz7_2 := blk_frozen BK140.out 2
      have hfz7_3 := blk_frozen BK140.out 3
      have hfz7_4 := blk_frozen BK140.out 4
      have hfz7_5 := blk_frozen BK140.out 5
      have hfz7_6 := blk_frozen BK140.out 6
      have hfz7_7 := blk_frozen BK140.out 7
      go_upto_if 17 with (fail)
      go_cut [3] (fun v3 wc => ∃ (kq : Nat) (x3_5 : Int), v3 = .int .i64 x3_5 ∧ Aside0 (script_record.j1 kq x3_5 a0_0 a0_1 a0_2 a0_3 a0_4 a0_5 a0_6 l0_7 = some r) ∧ Aside0 (kq ≤ kj1) ∧ Aside0 (wc.heap[gb140]? = some (.cells #[.int .i64 a0_0, .int .u64 a0_1, .int .i64 a0_2, .int .u64 a0_3, .int .i64 a0_4, .bool a0_5, .bool a0_6, (.slice A0_7 l0_7.length c0_7)] 36 (0, 0))) ∧ Aside0 (Below w.heap.size w wc))
      case first =>
        have H := HC6.out
        clear HC6
        by_cases c8 : a0_6 = true
        · subst c8
          have H1 : (script_record.j1 kj1 (Go.bits .or .i64 x3_1 128) a0_0 a0_1 a0_2 a0_3 a0_4 a0_5 true l0_7) = some r := by rw [if_pos rfl] at H; exact H
          clear H
          have H := H1
          clear H1
          have H' := Aside0.mk H
          clear H
          go_wp2
          go_meet
          case rel => exact ⟨_, (Go.bits .or .i64 x3_1 128), (by first | rfl | (simp; done) | (simp [*]; done)), H', ⟨by have := HJ1.out; first | omega | exact Nat.le_refl _⟩, ⟨by (with_reducible repeat (first | refine blk_drewN ?_ _ | refine blk_drew ?_ | refine blk_alloc ?_ _)); exact BK140.out⟩, ⟨by repeat (first | (with_reducible first | exact HB.out | apply below_alloc | apply pw_below_drewN | apply below_drew1 | refine below_set ?_ GE140.out) | exact HB.out)⟩⟩
        · replace c8 := Bool.eq_false_iff.mpr c8
          subst c8
          have H1 : (script_record.j1 kj1 x3_1 a0_0 a0_1 a0_2 a0_3 a0_4 a0_5 false l0_7) = some r := by rw [if_neg (show ¬ (false = true) by decide)] at H; exact H
          clear H
          have H := H1
          clear H1
          have H' := Aside0.mk H
          clear H
          go_wp2
          go_meet
          case rel => exact ⟨_, (x3_1), (by first | rfl | (simp; done) | (simp [*]; done)), H', ⟨by have := HJ1.out; first | omega | exact Nat.le_refl _⟩, ⟨by (with_reducible repeat (first | refine blk_drewN ?_ _ | refine blk_drew ?_ | refine blk_alloc ?_ _)); exact BK140.out⟩, ⟨by repeat (first | (with_reducible first | exact HB.out | apply below_alloc | apply pw_below_drewN | apply below_drew1 | refine below_set ?_ GE140.out) | exact HB.out)⟩⟩
      case rest =>
        clear HC6
        try clear c2
        try clear p2
        try clear c5
        try clear c8
        try clear hcz4_0
        try clear hcz4_1
        try clear hcz4_2
        try clear hcz4_3
        try clear hcz4_4
        try clear hcz4_5
        try clear hcz4_6
        try clear hcz4_7
        try clear hcz7_0
        try clear hcz7_1
        try clear hcz7_2
        try clear hcz7_3
        try clear hcz7_4
        try clear hcz7_5
        try clear hcz7_6
        try clear hcz7_7
        try clear hfz4_0
        try clear hfz4_1
        try clear hfz4_2
        try clear hfz4_3
        try clear hfz4_4
        try clear hfz4_5
        try clear hfz4_6
        try clear hfz4_7
        try clear hfz7_0
        try clear hfz7_1
        try clear hfz7_2
        try clear hfz7_3
        try clear hfz7_4
        try clear hfz7_5
        try clear hfz7_6
        try clear hfz7_7
        try clear p2
        obtain ⟨kq, x3_5, rfl, HA, HJ5, BK140, HB⟩ := hcut
        cases kq with
        | zero => exact absurd HA.out (by simp [script_record.j1])
        | succ kj5 =>
          have H := HA.out
          clear HA
          simp only [script_record.j1] at H
          obtain ⟨y141, hy141⟩ : ∃ y_ : List Int, y_ = (([(wrap64 (a0_0 - 1)) % 256, (x3_5) % 256, (a0_2) % 256] : List Int)) := ⟨_, rfl⟩
          replace H : ((word_Bytes.f kj5 a0_1).bind fun t144 => ((word_Bytes.f kj5 a0_3).bind fun t147 => ((slices_Concat_byte_byte.f kj5 (([y141, t144, t147] : List (List Int)))).bind fun t153 => (script_record.l0 kj5 t153 l0_7 (l0_7.length : Int) 0)))) = some r := by first | (rw [hy141]; with_reducible exact H) | (have H2_ := (Option.bind_some _ _).symm.trans H; rw [hy141]; with_reducible exact H2_) | (have H2_ := (Option.bind_some _ _).symm.trans H; with_reducible exact H2_) | with_reducible exact H | (rw [hy141]; exact H) | exact H
          have Ny141 := Aside0.mk hy141
          clear hy141
          replace H := Option.bind_eq_some_iff.mp H
          obtain ⟨t144, A90, H⟩ := H
          replace H : ((word_Bytes.f kj5 a0_3).bind fun t147 => ((slices_Concat_byte_byte.f kj5 (([y141, t144, t147] : List (List Int)))).bind fun t153 => (script_record.l0 kj5 t153 l0_7 (l0_7.length : Int) 0))) = some r := H
          have A9 := Aside0.mk A90
          clear A90
          replace H := Option.bind_eq_some_iff.mp H
          obtain ⟨t147, A100, H⟩ := H
          replace H : ((slices_Concat_byte_byte.f kj5 (([y141, t144, t147] : List (List Int)))).bind fun t153 => (script_record.l0 kj5 t153 l0_7 (l0_7.length : Int) 0)) = some r := H
          have A10 := Aside0.mk A100
          clear A100
          obtain ⟨y150, hy150⟩ : ∃ y_ : List (List Int), y_ = (([y141, t144, t147] : List (List Int))) := ⟨_, rfl⟩
          replace H : ((slices_Concat_byte_byte.f kj5 y150).bind fun t153 => (script_record.l0 kj5 t153 l0_7 (l0_7.length : Int) 0)) = some r := by first | (rw [hy150]; with_reducible exact H) | (have H2_ := (Option.bind_some _ _).symm.trans H; rw [hy150]; with_reducible exact H2_) | (have H2_ := (Option.bind_some _ _).symm.trans H; with_reducible exact H2_) | with_reducible exact H | (rw [hy150]; exact H) | exact H
          have Ny150 := Aside0.mk hy150
          clear hy150
          replace H := Option.bind_eq_some_iff.mp H
          obtain ⟨t153, A110, H⟩ := H
          replace H : (script_record.l0 kj5 t153 l0_7 (l0_7.length : Int) 0) = some r := H
          have A11 := Aside0.mk A110
          clear A110
          have H' := Aside0.mk H
          clear H
          try go_wp2
          have n0_ := Aside0.mk (blk_drew BK140.out)
          have n1_ := Aside0.mk (below_drew1 HB.out)
          clear BK140
          clear HB
          have BK140 := n0_
          have HB := n1_
          clear n0_ n1_
          refine start_ (n := 19) (S := fun w' => True) (ds := []) #[false, false, false, false, false, false, false, false, false, false, false, false, false, false, false, false, false, false, false] (by kernel_rfl) rfl rfl trivial (fun hHeld => ?_); refine with_tabW script_record.tab6 script_record.bits6 (fun HT_ HW_ => ?_)
          generalize wc.drew = w12 at BK140 HB hHeld ⊢
          refine pure_ (i := 0) (N := some 20) (v := ?_) (a' := ?_) #[true, false, false, false, false, false, false, false, false, false, false, false, false, false, false, false, false, false, false] rfl rfl (any_of HT_.out (by kernel_rfl)) (fun _ _ _ h => h) (Or.inl ⟨by rfl, ?_⟩) ?_ ?_
          rotate_left
          · intro w'
            go_simp
            with_reducible rfl
          rotate_left
          · simp only [Act.put, List.setIfInBounds_toArray, List.set_cons_zero, List.set_cons_succ, i64_w, i32_w]
            rfl
          refine pure_ (i := 4) (N := some 24) (v := ?_) (a' := ?_) #[true, false, false, false, true, false, false, false, false, false, false, false, false, false, false, false, false, false, false] rfl rfl (any_of HT_.out (by kernel_rfl)) (fun _ _ _ h => h) (Or.inl ⟨by rfl, ?_⟩) ?_ ?_
          rotate_left
          · intro w'
            go_simp
            with_reducible rfl
          rotate_left
          · simp only [Act.put, List.setIfInBounds_toArray, List.set_cons_zero, List.set_cons_succ, i64_w, i32_w]
            rfl
          refine pure_ (i := 6) (N := some 26) (v := ?_) (a' := ?_) #[true, false, false, false, true, false, true, false, false, false, false, false, false, false, false, false, false, false, false] rfl rfl (any_of HT_.out (by kernel_rfl)) (fun _ _ _ h => h) (Or.inl ⟨by rfl, ?_⟩) ?_ ?_
          rotate_left
          · intro w'
            go_simp
            with_reducible rfl
          rotate_left
          · simp only [Act.put, List.setIfInBounds_toArray, List.set_cons_zero, List.set_cons_succ, i64_w, i32_w]
            rfl
          refine pure_ (i := 10) (N := some 30) (v := ?_) (a' := ?_) #[true, false, false, false, true, false, true, false, false, false, true, false, false, false, false, false, false, false, false] rfl rfl (any_of HT_.out (by kernel_rfl)) (fun _ _ _ h => h) (Or.inl ⟨by rfl, ?_⟩) ?_ ?_
          rotate_left
          · intro w'
            go_simp
            with_reducible rfl
          rotate_left
          · simp only [Act.put, List.setIfInBounds_toArray, List.set_cons_zero, List.set_cons_succ, i64_w, i32_w]
            rfl
          refine pure_ (i := 13) (N := some 33) (v := ?_) (a' := ?_) #[true, false, false, false, true, false, true, false, false, false, true, false, false, true, false, false, false, false, false] rfl rfl (any_of HT_.out (by kernel_rfl)) (fun _ _ _ h => h) (Or.inl ⟨by rfl, ?_⟩) ?_ ?_
          rotate_left
          · intro w'
            go_simp
            with_reducible rfl
          rotate_left
          · simp only [Act.put, List.setIfInBounds_toArray, List.set_cons_zero, List.set_cons_succ, i64_w, i32_w]
            rfl
          refine inv_at [1, 2, 3, 5, 7, 8, 9, 11, 12, 14, 15, 16, 17, 18] (fun a0_ b a w' => ∃ (v142 : Value) (v145 : Value) (v148 : Value) (v151 : Value) (v154 : Value) (m18_ : Value), a = putSel a0_ b [(1, 21, .int .i64 a0_0), (2, 22, .int .i64 (wrap64 (a0_0 - 1))), (3, 23, .int .u8 ((wrap64 (a0_0 - 1)) % 256)), (5, 25, .int .u8 ((x3_5) % 256)), (7, 27, .int .i64 a0_2), (8, 28, .int .u8 ((a0_2) % 256)), (9, 29, v142), (11, 31, .int .u64 a0_1), (12, 32, v145), (14, 34, .int .u64 a0_3), (15, 35, v148), (16, 36, v151), (17, 37, v154), (18, 4, m18_)] ∧ (w'.heap[gb140]? = some (.cells #[.int .i64 a0_0, .int .u64 a0_1, .int .i64 a0_2, .int .u64 a0_3, .int .i64 a0_4, .bool a0_5, .bool a0_6, .slice A0_7 l0_7.length c0_7] 36 (0, 0))) ∧ (Below w.heap.size w w') ∧ (b 9 = true → b 16 = false → Kd.R (Kd.int .u8) 5 w' w.heap.size (fun _ => True) v142 y141) ∧ (b 12 = true → b 16 = false → Kd.R (Kd.int .u8) 5 w' w.heap.size (fun _ => True) v145 t144) ∧ (b 15 = true → b 16 = false → Kd.R (Kd.int .u8) 5 w' w.heap.size (fun _ => True) v148 t147) ∧ (b 16 = true → Kd.N (Kd.slice 5 (Kd.int .u8)) 23 w' w.heap.size (fun k_ => k_ ≠ gb140) v151 y150) ∧ (b 17 = true → Kd.R (Kd.int .u8) 5 w' w.heap.size (fun _ => True) v154 t153) ∧ (b 18 = true → (m18_ : Value) = v154)) HT_.out HW_.out (by kernel_rfl) (by kernel_rfl) ?_ ?_ ?_
          · exact ⟨.bool false, .bool false, .bool false, .bool false, .bool false, .bool false, by simp only [putSel, Bool.false_eq_true, if_false], BK140.out, HB.out, fun h_ => absurd h_ (by decide), fun h_ => absurd h_ (by decide), fun h_ => absurd h_ (by decide), fun h_ => absurd h_ (by decide), fun h_ => absurd h_ (by decide), fun h_ => absurd h_ (by decide)⟩
          · skip
            clear BK140 HB
            refine steps_cons ?_ ?_
            · rintro b a w' ⟨v142, v145, v148, v151, v154, m18_, ha, Q_BK140, Q_HB, Q_HO143, Q_HO146, Q_HO149, Q_HO152, Q_HO155, Q_X18_⟩ hb_ hon hoff
              refine ⟨_, rfl, fun K hK => ?_⟩
              have e20 : a.tmps[20]? = some (.pointer (some ⟨gb140, 0, none⟩)) := by rw [ha]; exact (putSel_off rfl).trans rfl
              replace ha := Aside0.mk ha
              have BK140 := Aside0.mk Q_BK140
              have HB := Aside0.mk Q_HB
              have hc0_ : w'.cell? ⟨gb140, 0, none⟩ = some (.int .i64 a0_0) := (blk_cell BK140.out 0).trans rfl
              have hc1_ : w'.cell? ⟨gb140, 1, none⟩ = some (.int .u64 a0_1) := (blk_cell BK140.out 1).trans rfl
              have hc2_ : w'.cell? ⟨gb140, 2, none⟩ = some (.int .i64 a0_2) := (blk_cell BK140.out 2).trans rfl
              have hc3_ : w'.cell? ⟨gb140, 3, none⟩ = some (.int .u64 a0_3) := (blk_cell BK140.out 3).trans rfl
              have hc4_ : w'.cell? ⟨gb140, 4, none⟩ = some (.int .i64 a0_4) := (blk_cell BK140.out 4).trans rfl
              have hc5_ : w'.cell? ⟨gb140, 5, none⟩ = some (.bool a0_5) := (blk_cell BK140.out 5).trans rfl
              have hc6_ : w'.cell? ⟨gb140, 6, none⟩ = some (.bool a0_6) := (blk_cell BK140.out 6).trans rfl
              have hc7_ : w'.cell? ⟨gb140, 7, none⟩ = some (.slice A0_7 l0_7.length c0_7) := (blk_cell BK140.out 7).trans rfl
              refine value_ (w1 := w') (v := .int .i64 a0_0) (by rfl) rfl ?_ ?_
              · go_simp
                (try simp only [i64_w])
                try rfl
              refine hK.out _ _ ⟨v142, v145, v148, v151, v154, m18_, (by rw [ha.out]; exact putSel_upk 0 hb_ rfl rfl rfl), Q_BK140, Q_HB, fun h0_ _ => absurd ((hoff 9 (by kernel_rfl)).symm.trans h0_) (by decide), Q_HO146, Q_HO149, fun h0_ => absurd ((hoff 16 (by kernel_rfl)).symm.trans h0_) (by decide), fun h0_ => absurd ((hoff 17 (by kernel_rfl)).symm.trans h0_) (by decide), fun h0_ => absurd ((hoff 18 (by kernel_rfl)).symm.trans h0_) (by decide)⟩
            refine steps_cons ?_ ?_
            · rintro b a w' ⟨v142, v145, v148, v151, v154, m18_, ha, Q_BK140, Q_HB, Q_HO143, Q_HO146, Q_HO149, Q_HO152, Q_HO155, Q_X18_⟩ hb_ hon hoff
              refine ⟨_, rfl, fun K hK => ?_⟩
              have e21 : a.tmps[21]? = some (.int .i64 a0_0) := by rw [ha]; exact putSel_on (e := (1, 21, .int .i64 a0_0)) 0 rfl rfl (hon 1 (by kernel_rfl)) rfl
              replace ha := Aside0.mk ha
              have BK140 := Aside0.mk Q_BK140
              have HB := Aside0.mk Q_HB
              refine value_ (w1 := w') (v := .int .i64 (wrap64 (a0_0 - 1))) (by rfl) rfl ?_ ?_
              · go_simp
                (try simp only [i64_w])
                try rfl
              refine hK.out _ _ ⟨v142, v145, v148, v151, v154, m18_, (by rw [ha.out]; exact putSel_upk 1 hb_ rfl rfl rfl), Q_BK140, Q_HB, fun h0_ _ => absurd ((hoff 9 (by kernel_rfl)).symm.trans h0_) (by decide), Q_HO146, Q_HO149, fun h0_ => absurd ((hoff 16 (by kernel_rfl)).symm.trans h0_) (by decide), fun h0_ => absurd ((hoff 17 (by kernel_rfl)).symm.trans h0_) (by decide), fun h0_ => absurd ((hoff 18 (by kernel_rfl)).symm.trans h0_) (by decide)⟩
            refine steps_cons ?_ ?_
            · rintro b a w' ⟨v142, v145, v148, v151, v154, m18_, ha, Q_BK140, Q_HB, Q_HO143, Q_HO146, Q_HO149, Q_HO152, Q_HO155, Q_X18_⟩ hb_ hon hoff
              refine ⟨_, rfl, fun K hK => ?_⟩
              have e22 : a.tmps[22]? = some (.int .i64 (wrap64 (a0_0 - 1))) := by rw [ha]; exact putSel_on (e := (2, 22, .int .i64 (wrap64 (a0_0 - 1)))) 1 rfl rfl (hon 2 (by kernel_rfl)) rfl
              replace ha := Aside0.mk ha
              have BK140 := Aside0.mk Q_BK140
              have HB := Aside0.mk Q_HB
              refine value_ (w1 := w') (v := .int .u8 ((wrap64 (a0_0 - 1)) % 256)) (by rfl) rfl ?_ ?_
              · go_simp
                (try simp only [i64_w])
                try rfl
              refine hK.out _ _ ⟨v142, v145, v148, v151, v154, m18_, (by rw [ha.out]; exact putSel_upk 2 hb_ rfl rfl rfl), Q_BK140, Q_HB, fun h0_ _ => absurd ((hoff 9 (by kernel_rfl)).symm.trans h0_) (by decide), Q_HO146, Q_HO149, fun h0_ => absurd ((hoff 16 (by kernel_rfl)).symm.trans h0_) (by decide), fun h0_ => absurd ((hoff 17 (by kernel_rfl)).symm.trans h0_) (by decide), fun h0_ => absurd ((hoff 18 (by kernel_rfl)).symm.trans h0_) (by decide)⟩
            refine steps_cons ?_ ?_
            · rintro b a w' ⟨v142, v145, v148, v151, v154, m18_, ha, Q_BK140, Q_HB, Q_HO143, Q_HO146, Q_HO149, Q_HO152, Q_HO155, Q_X18_⟩ hb_ hon hoff
              refine ⟨_, rfl, fun K hK => ?_⟩
              have e24 : a.tmps[24]? = some (.int .i64 x3_5) := by rw [ha]; exact (putSel_off rfl).trans rfl
              replace ha := Aside0.mk ha
              have BK140 := Aside0.mk Q_BK140
              have HB := Aside0.mk Q_HB
              refine value_ (w1 := w') (v := .int .u8 ((x3_5) % 256)) (by rfl) rfl ?_ ?_
              · go_simp
                (try simp only [i64_w])
                try rfl
              refine hK.out _ _ ⟨v142, v145, v148, v151, v154, m18_, (by rw [ha.out]; exact putSel_upk 3 hb_ rfl rfl rfl), Q_BK140, Q_HB, fun h0_ _ => absurd ((hoff 9 (by kernel_rfl)).symm.trans h0_) (by decide), Q_HO146, Q_HO149, fun h0_ => absurd ((hoff 16 (by kernel_rfl)).symm.trans h0_) (by decide), fun h0_ => absurd ((hoff 17 (by kernel_rfl)).symm.trans h0_) (by decide), fun h0_ => absurd ((hoff 18 (by kernel_rfl)).symm.trans h0_) (by decide)⟩
            refine steps_cons ?_ ?_
            · rintro b a w' ⟨v142, v145, v148, v151, v154, m18_, ha, Q_BK140, Q_HB, Q_HO143, Q_HO146, Q_HO149, Q_HO152, Q_HO155, Q_X18_⟩ hb_ hon hoff
              refine ⟨_, rfl, fun K hK => ?_⟩
              have e26 : a.tmps[26]? = some (.pointer (some ⟨gb140, 2, none⟩)) := by rw [ha]; exact (putSel_off rfl).trans rfl
              replace ha := Aside0.mk ha
              have BK140 := Aside0.mk Q_BK140
              have HB := Aside0.mk Q_HB
              have hc0_ : w'.cell? ⟨gb140, 0, none⟩ = some (.int .i64 a0_0) := (blk_cell BK140.out 0).trans rfl
              have hc1_ : w'.cell? ⟨gb140, 1, none⟩ = some (.int .u64 a0_1) := (blk_cell BK140.out 1).trans rfl
              have hc2_ : w'.cell? ⟨gb140, 2, none⟩ = some (.int .i64 a0_2) := (blk_cell BK140.out 2).trans rfl
              have hc3_ : w'.cell? ⟨gb140, 3, none⟩ = some (.int .u64 a0_3) := (blk_cell BK140.out 3).trans rfl
              have hc4_ : w'.cell? ⟨gb140, 4, none⟩ = some (.int .i64 a0_4) := (blk_cell BK140.out 4).trans rfl
              have hc5_ : w'.cell? ⟨gb140, 5, none⟩ = some (.bool a0_5) := (blk_cell BK140.out 5).trans rfl
              have hc6_ : w'.cell? ⟨gb140, 6, none⟩ = some (.bool a0_6) := (blk_cell BK140.out 6).trans rfl
              have hc7_ : w'.cell? ⟨gb140, 7, none⟩ = some (.slice A0_7 l0_7.length c0_7) := (blk_cell BK140.out 7).trans rfl
              refine value_ (w1 := w') (v := .int .i64 a0_2) (by rfl) rfl ?_ ?_
              · go_simp
                (try simp only [i64_w])
                try rfl
              refine hK.out _ _ ⟨v142, v145, v148, v151, v154, m18_, (by rw [ha.out]; exact putSel_upk 4 hb_ rfl rfl rfl), Q_BK140, Q_HB, fun h0_ _ => absurd ((hoff 9 (by kernel_rfl)).symm.trans h0_) (by decide), Q_HO146, Q_HO149, fun h0_ => absurd ((hoff 16 (by kernel_rfl)).symm.trans h0_) (by decide), fun h0_ => absurd ((hoff 17 (by kernel_rfl)).symm.trans h0_) (by decide), fun h0_ => absurd ((hoff 18 (by kernel_rfl)).symm.trans h0_) (by decide)⟩
            refine steps_cons ?_ ?_
            · rintro b a w' ⟨v142, v145, v148, v151, v154, m18_, ha, Q_BK140, Q_HB, Q_HO143, Q_HO146, Q_HO149, Q_HO152, Q_HO155, Q_X18_⟩ hb_ hon hoff
              refine ⟨_, rfl, fun K hK => ?_⟩
              have e27 : a.tmps[27]? = some (.int .i64 a0_2) := by rw [ha]; exact putSel_on (e := (7, 27, .int .i64 a0_2)) 4 rfl rfl (hon 7 (by kernel_rfl)) rfl
              replace ha := Aside0.mk ha
              have BK140 := Aside0.mk Q_BK140
              have HB := Aside0.mk Q_HB
              refine value_ (w1 := w') (v := .int .u8 ((a0_2) % 256)) (by rfl) rfl ?_ ?_
              · go_simp
                (try simp only [i64_w])
                try rfl
              refine hK.out _ _ ⟨v142, v145, v148, v151, v154, m18_, (by rw [ha.out]; exact putSel_upk 5 hb_ rfl rfl rfl), Q_BK140, Q_HB, fun h0_ _ => absurd ((hoff 9 (by kernel_rfl)).symm.trans h0_) (by decide), Q_HO146, Q_HO149, fun h0_ => absurd ((hoff 16 (by kernel_rfl)).symm.trans h0_) (by decide), fun h0_ => absurd ((hoff 17 (by kernel_rfl)).symm.trans h0_) (by decide), fun h0_ => absurd ((hoff 18 (by kernel_rfl)).symm.trans h0_) (by decide)⟩
            refine steps_cons ?_ ?_
            · rintro b a w' ⟨v142, v145, v148, v151, v154, m18_, ha, Q_BK140, Q_HB, Q_HO143, Q_HO146, Q_HO149, Q_HO152, Q_HO155, Q_X18_⟩ hb_ hon hoff
              refine ⟨_, rfl, fun K hK => ?_⟩
              have e23 : a.tmps[23]? = some (.int .u8 ((wrap64 (a0_0 - 1)) % 256)) := by rw [ha]; exact putSel_on (e := (3, 23, .int .u8 ((wrap64 (a0_0 - 1)) % 256))) 2 rfl rfl (hon 3 (by kernel_rfl)) rfl
              have e25 : a.tmps[25]? = some (.int .u8 ((x3_5) % 256)) := by rw [ha]; exact putSel_on (e := (5, 25, .int .u8 ((x3_5) % 256))) 3 rfl rfl (hon 5 (by kernel_rfl)) rfl
              have e28 : a.tmps[28]? = some (.int .u8 ((a0_2) % 256)) := by rw [ha]; exact putSel_on (e := (8, 28, .int .u8 ((a0_2) % 256))) 5 rfl rfl (hon 8 (by kernel_rfl)) rfl
              replace ha := Aside0.mk ha
              have BK140 := Aside0.mk Q_BK140
              have HB := Aside0.mk Q_HB
              refine Kd.R_lit_step (Kd.int .u8) _ 5 ?hg (N := 29) ?hd (xs := ([(wrap64 (a0_0 - 1)) % 256, (x3_5) % 256, (a0_2) % 256] : List Int)) (inner := [.int .u8 ((wrap64 (a0_0 - 1)) % 256), .int .u8 ((x3_5) % 256), .int .u8 ((a0_2) % 256)]) (ok := fun _ => True) (okp := fun _ => True) ?hr ?hp (fun _ hk => hk) trivial (Below.refl _ _) (Nat.le_refl _) (by simp) ?_; (case hd => rfl); (case hg => rfl); (case hr => first | (go_simp; done) | (go_simp; rfl)); (case hp => exact (Reps.one (show Kd.M (Kd.int .u8) _ _ _ ((wrap64 (a0_0 - 1)) % 256) [.int .u8 ((wrap64 (a0_0 - 1)) % 256)] from rfl) (Reps.one (show Kd.M (Kd.int .u8) _ _ _ ((x3_5) % 256) [.int .u8 ((x3_5) % 256)] from rfl) (Reps.one (show Kd.M (Kd.int .u8) _ _ _ ((a0_2) % 256) [.int .u8 ((a0_2) % 256)] from rfl) (Reps.none _ _)))))
              intro v142 w13 ho14 hb hg_ hnew_
              clear hg_ hnew_
              (first | rw [← Ny141.out] at ho14 | (simp only [Int.reduceToNat] at ho14; rw [← Ny141.out] at ho14))
              have n0_ := Aside0.mk (Kd.R_lower ho14 (below_size (by repeat (first | (with_reducible first | exact HB.out | apply below_alloc | apply pw_below_drewN | apply below_drew1 | refine below_set ?_ GE140.out) | exact HB.out))))
              have n1_ := Aside0.mk (blk_below (g := gb140) (o := .cells #[.int .i64 a0_0, .int .u64 a0_1, .int .i64 a0_2, .int .u64 a0_3, .int .i64 a0_4, .bool a0_5, .bool a0_6, .slice A0_7 l0_7.length c0_7] 36 (0, 0)) (by (with_reducible repeat (first | refine blk_drewN ?_ _ | refine blk_drew ?_ | refine blk_alloc ?_ _)); exact BK140.out) hb)
              have n2_ := Aside0.mk (below_step (by repeat (first | (with_reducible first | exact HB.out | apply below_alloc | apply pw_below_drewN | apply below_drew1 | refine below_set ?_ GE140.out) | exact HB.out)) hb)
              have z_HO146 := fun (h0_ : b 12 = true) (h1_ : b 16 = false) => (show Kd.R (Kd.int .u8) 5 w13 w.heap.size (fun _ => True) v145 t144 from by first | exact (Kd.R_elder' (by (with_reducible repeat (first | apply Kd.R_alloc | apply Kd.R_drewN | apply Kd.R_drew)); exact (Q_HO146 h0_ h1_)) (Kd.R_base ho14) hb) | exact Kd.R_mono (Kd.R_elder' (by (with_reducible repeat (first | apply Kd.R_alloc | apply Kd.R_drewN | apply Kd.R_drew)); exact (Q_HO146 h0_ h1_)) (Kd.R_base ho14) hb) (fun _ h_ => by first | trivial | exact h_ | exact h_.1))
              have z_HO149 := fun (h0_ : b 15 = true) (h1_ : b 16 = false) => (show Kd.R (Kd.int .u8) 5 w13 w.heap.size (fun _ => True) v148 t147 from by first | exact (Kd.R_elder' (by (with_reducible repeat (first | apply Kd.R_alloc | apply Kd.R_drewN | apply Kd.R_drew)); exact (Q_HO149 h0_ h1_)) (Kd.R_base ho14) hb) | exact Kd.R_mono (Kd.R_elder' (by (with_reducible repeat (first | apply Kd.R_alloc | apply Kd.R_drewN | apply Kd.R_drew)); exact (Q_HO149 h0_ h1_)) (Kd.R_base ho14) hb) (fun _ h_ => by first | trivial | exact h_ | exact h_.1))
              clear BK140
              clear HB
              have HO143 := n0_
              have BK140 := n1_
              have HB := n2_
              clear n0_ n1_ n2_
              clear hb ho14
              refine hK.out _ _ ⟨v142, v145, v148, v151, v154, m18_, (by rw [ha.out]; exact putSel_upk 6 hb_ rfl rfl rfl), (by (with_reducible repeat (first | refine blk_drewN ?_ _ | refine blk_drew ?_ | refine blk_alloc ?_ _)); exact BK140.out), (by repeat (first | (with_reducible first | exact HB.out | apply below_alloc | apply pw_below_drewN | apply below_drew1 | refine below_set ?_ GE140.out) | exact HB.out)), fun _ _ => (by (with_reducible repeat (first | apply Kd.R_alloc | apply Kd.R_drewN | apply Kd.R_drew)); exact HO143.out), z_HO146, z_HO149, fun h0_ => absurd ((hoff 16 (by kernel_rfl)).symm.trans h0_) (by decide), fun h0_ => absurd ((hoff 17 (by kernel_rfl)).symm.trans h0_) (by decide), fun h0_ => absurd ((hoff 18 (by kernel_rfl)).symm.trans h0_) (by decide)⟩
            refine steps_cons ?_ ?_
            · rintro b a w' ⟨v142, v145, v148, v151, v154, m18_, ha, Q_BK140, Q_HB, Q_HO143, Q_HO146, Q_HO149, Q_HO152, Q_HO155, Q_X18_⟩ hb_ hon hoff
              refine ⟨_, rfl, fun K hK => ?_⟩
              have e30 : a.tmps[30]? = some (.pointer (some ⟨gb140, 1, none⟩)) := by rw [ha]; exact (putSel_off rfl).trans rfl
              replace ha := Aside0.mk ha
              have BK140 := Aside0.mk Q_BK140
              have HB := Aside0.mk Q_HB
              have hc0_ : w'.cell? ⟨gb140, 0, none⟩ = some (.int .i64 a0_0) := (blk_cell BK140.out 0).trans rfl
              have hc1_ : w'.cell? ⟨gb140, 1, none⟩ = some (.int .u64 a0_1) := (blk_cell BK140.out 1).trans rfl
              have hc2_ : w'.cell? ⟨gb140, 2, none⟩ = some (.int .i64 a0_2) := (blk_cell BK140.out 2).trans rfl
              have hc3_ : w'.cell? ⟨gb140, 3, none⟩ = some (.int .u64 a0_3) := (blk_cell BK140.out 3).trans rfl
              have hc4_ : w'.cell? ⟨gb140, 4, none⟩ = some (.int .i64 a0_4) := (blk_cell BK140.out 4).trans rfl
              have hc5_ : w'.cell? ⟨gb140, 5, none⟩ = some (.bool a0_5) := (blk_cell BK140.out 5).trans rfl
              have hc6_ : w'.cell? ⟨gb140, 6, none⟩ = some (.bool a0_6) := (blk_cell BK140.out 6).trans rfl
              have hc7_ : w'.cell? ⟨gb140, 7, none⟩ = some (.slice A0_7 l0_7.length c0_7) := (blk_cell BK140.out 7).trans rfl
              refine value_ (w1 := w') (v := .int .u64 a0_1) (by rfl) rfl ?_ ?_
              · go_simp
                (try simp only [i64_w])
                try rfl
              refine hK.out _ _ ⟨v142, v145, v148, v151, v154, m18_, (by rw [ha.out]; exact putSel_upk 7 hb_ rfl rfl rfl), Q_BK140, Q_HB, Q_HO143, fun h0_ _ => absurd ((hoff 12 (by kernel_rfl)).symm.trans h0_) (by decide), fun h0_ _ => absurd ((hoff 15 (by kernel_rfl)).symm.trans h0_) (by decide), fun h0_ => absurd ((hoff 16 (by kernel_rfl)).symm.trans h0_) (by decide), fun h0_ => absurd ((hoff 17 (by kernel_rfl)).symm.trans h0_) (by decide), fun h0_ => absurd ((hoff 18 (by kernel_rfl)).symm.trans h0_) (by decide)⟩
            refine steps_cons ?_ ?_
            · rintro b a w' ⟨v142, v145, v148, v151, v154, m18_, ha, Q_BK140, Q_HB, Q_HO143, Q_HO146, Q_HO149, Q_HO152, Q_HO155, Q_X18_⟩ hb_ hon hoff
              refine ⟨_, rfl, fun K hK => ?_⟩
              have e31 : a.tmps[31]? = some (.int .u64 a0_1) := by rw [ha]; exact putSel_on (e := (11, 31, .int .u64 a0_1)) 7 rfl rfl (hon 11 (by kernel_rfl)) rfl
              replace ha := Aside0.mk ha
              have BK140 := Aside0.mk Q_BK140
              have HB := Aside0.mk Q_HB
              refine goes_ Try.func28 (by kernel_rfl) rfl #[.int .u64 a0_1] (by rfl) rfl rfl (by first | (simp only [List.map_toArray, List.map_cons, List.map_nil, Act.eval, Array.getD_eq_getD_getElem?, Option.getD_some, e31]; done) | (simp only [List.map_toArray, List.map_cons, List.map_nil, Act.eval, Array.getD_eq_getD_getElem?, Option.getD_some, e31]; rfl)) ?_
              with_reducible refine (word_Bytes.calls kj5 a0_1 t144 _ A9.out).mono ?_
              rintro e w13 ⟨v145, rfl, ho0, hb⟩
              refine ⟨_, rfl, ?_⟩
              have n0_ := Aside0.mk (Kd.R_lower ho0 (below_size (by repeat (first | (with_reducible first | exact HB.out | apply below_alloc | apply pw_below_drewN | apply below_drew1 | refine below_set ?_ GE140.out) | exact HB.out))))
              have n1_ := Aside0.mk (blk_below (g := gb140) (o := .cells #[.int .i64 a0_0, .int .u64 a0_1, .int .i64 a0_2, .int .u64 a0_3, .int .i64 a0_4, .bool a0_5, .bool a0_6, .slice A0_7 l0_7.length c0_7] 36 (0, 0)) (by (with_reducible repeat (first | refine blk_drewN ?_ _ | refine blk_drew ?_ | refine blk_alloc ?_ _)); exact BK140.out) hb)
              have n2_ := Aside0.mk (below_step (by repeat (first | (with_reducible first | exact HB.out | apply below_alloc | apply pw_below_drewN | apply below_drew1 | refine below_set ?_ GE140.out) | exact HB.out)) hb)
              have z_HO143 := fun (h0_ : b 9 = true) (h1_ : b 16 = false) => (show Kd.R (Kd.int .u8) 5 w13 w.heap.size (fun _ => True) v142 y141 from by first | exact (Kd.R_elder' (by (with_reducible repeat (first | apply Kd.R_alloc | apply Kd.R_drewN | apply Kd.R_drew)); exact (Q_HO143 h0_ h1_)) (Kd.R_base ho0) hb) | exact Kd.R_mono (Kd.R_elder' (by (with_reducible repeat (first | apply Kd.R_alloc | apply Kd.R_drewN | apply Kd.R_drew)); exact (Q_HO143 h0_ h1_)) (Kd.R_base ho0) hb) (fun _ h_ => by first | trivial | exact h_ | exact h_.1))
              clear BK140
              clear HB
              have HO146 := n0_
              have BK140 := n1_
              have HB := n2_
              clear n0_ n1_ n2_
              (try clear hb)
              (try clear hb2)
              (try clear hk)
              (try clear hi)
              (try clear ho0)
              refine hK.out _ _ ⟨v142, v145, v148, v151, v154, m18_, (by rw [ha.out]; exact putSel_upk 8 hb_ rfl rfl rfl), (by (with_reducible repeat (first | refine blk_drewN ?_ _ | refine blk_drew ?_ | refine blk_alloc ?_ _)); exact BK140.out), (by repeat (first | (with_reducible first | exact HB.out | apply below_alloc | apply pw_below_drewN | apply below_drew1 | refine below_set ?_ GE140.out) | exact HB.out)), z_HO143, fun _ _ => (by (with_reducible repeat (first | apply Kd.R_alloc | apply Kd.R_drewN | apply Kd.R_drew)); exact HO146.out), fun h0_ _ => absurd ((hoff 15 (by kernel_rfl)).symm.trans h0_) (by decide), fun h0_ => absurd ((hoff 16 (by kernel_rfl)).symm.trans h0_) (by decide), fun h0_ => absurd ((hoff 17 (by kernel_rfl)).symm.trans h0_) (by decide), fun h0_ => absurd ((hoff 18 (by kernel_rfl)).symm.trans h0_) (by decide)⟩
            refine steps_cons ?_ ?_
            · rintro b a w' ⟨v142, v145, v148, v151, v154, m18_, ha, Q_BK140, Q_HB, Q_HO143, Q_HO146, Q_HO149, Q_HO152, Q_HO155, Q_X18_⟩ hb_ hon hoff
              refine ⟨_, rfl, fun K hK => ?_⟩
              have e33 : a.tmps[33]? = some (.pointer (some ⟨gb140, 3, none⟩)) := by rw [ha]; exact (putSel_off rfl).trans rfl
              replace ha := Aside0.mk ha
              have BK140 := Aside0.mk Q_BK140
              have HB := Aside0.mk Q_HB
              have hc0_ : w'.cell? ⟨gb140, 0, none⟩ = some (.int .i64 a0_0) := (blk_cell BK140.out 0).trans rfl
              have hc1_ : w'.cell? ⟨gb140, 1, none⟩ = some (.int .u64 a0_1) := (blk_cell BK140.out 1).trans rfl
              have hc2_ : w'.cell? ⟨gb140, 2, none⟩ = some (.int .i64 a0_2) := (blk_cell BK140.out 2).trans rfl
              have hc3_ : w'.cell? ⟨gb140, 3, none⟩ = some (.int .u64 a0_3) := (blk_cell BK140.out 3).trans rfl
              have hc4_ : w'.cell? ⟨gb140, 4, none⟩ = some (.int .i64 a0_4) := (blk_cell BK140.out 4).trans rfl
              have hc5_ : w'.cell? ⟨gb140, 5, none⟩ = some (.bool a0_5) := (blk_cell BK140.out 5).trans rfl
              have hc6_ : w'.cell? ⟨gb140, 6, none⟩ = some (.bool a0_6) := (blk_cell BK140.out 6).trans rfl
              have hc7_ : w'.cell? ⟨gb140, 7, none⟩ = some (.slice A0_7 l0_7.length c0_7) := (blk_cell BK140.out 7).trans rfl
              refine value_ (w1 := w') (v := .int .u64 a0_3) (by rfl) rfl ?_ ?_
              · go_simp
                (try simp only [i64_w])
                try rfl
              refine hK.out _ _ ⟨v142, v145, v148, v151, v154, m18_, (by rw [ha.out]; exact putSel_upk 9 hb_ rfl rfl rfl), Q_BK140, Q_HB, Q_HO143, Q_HO146, fun h0_ _ => absurd ((hoff 15 (by kernel_rfl)).symm.trans h0_) (by decide), fun h0_ => absurd ((hoff 16 (by kernel_rfl)).symm.trans h0_) (by decide), fun h0_ => absurd ((hoff 17 (by kernel_rfl)).symm.trans h0_) (by decide), fun h0_ => absurd ((hoff 18 (by kernel_rfl)).symm.trans h0_) (by decide)⟩
            refine steps_cons ?_ ?_
            · rintro b a w' ⟨v142, v145, v148, v151, v154, m18_, ha, Q_BK140, Q_HB, Q_HO143, Q_HO146, Q_HO149, Q_HO152, Q_HO155, Q_X18_⟩ hb_ hon hoff
              refine ⟨_, rfl, fun K hK => ?_⟩
              have e34 : a.tmps[34]? = some (.int .u64 a0_3) := by rw [ha]; exact putSel_on (e := (14, 34, .int .u64 a0_3)) 9 rfl rfl (hon 14 (by kernel_rfl)) rfl
              replace ha := Aside0.mk ha
              have BK140 := Aside0.mk Q_BK140
              have HB := Aside0.mk Q_HB
              have HO146 := Aside0.mk (Q_HO146 (hon 12 (by kernel_rfl)) (hoff 16 (by kernel_rfl)))
              refine goes_ Try.func28 (by kernel_rfl) rfl #[.int .u64 a0_3] (by rfl) rfl rfl (by first | (simp only [List.map_toArray, List.map_cons, List.map_nil, Act.eval, Array.getD_eq_getD_getElem?, Option.getD_some, e34]; done) | (simp only [List.map_toArray, List.map_cons, List.map_nil, Act.eval, Array.getD_eq_getD_getElem?, Option.getD_some, e34]; rfl)) ?_
              with_reducible refine (word_Bytes.calls kj5 a0_3 t147 _ A10.out).mono ?_
              rintro e w15 ⟨v148, rfl, ho0, hb⟩
              refine ⟨_, rfl, ?_⟩
              have n0_ := Aside0.mk (Kd.R_elder' (by (with_reducible repeat (first | apply Kd.R_alloc | apply Kd.R_drewN | apply Kd.R_drew)); exact HO146.out) (Kd.R_base ho0) hb)
              have n1_ := Aside0.mk (Kd.R_lower (Kd.R_new' ho0 (Kd.R_lt (by (with_reducible repeat (first | apply Kd.R_alloc | apply Kd.R_drewN | apply Kd.R_drew)); exact HO146.out))) (below_size (by repeat (first | (with_reducible first | exact HB.out | apply below_alloc | apply pw_below_drewN | apply below_drew1 | refine below_set ?_ GE140.out) | exact HB.out))))
              have n2_ := Aside0.mk (blk_below (g := gb140) (o := .cells #[.int .i64 a0_0, .int .u64 a0_1, .int .i64 a0_2, .int .u64 a0_3, .int .i64 a0_4, .bool a0_5, .bool a0_6, .slice A0_7 l0_7.length c0_7] 36 (0, 0)) (by (with_reducible repeat (first | refine blk_drewN ?_ _ | refine blk_drew ?_ | refine blk_alloc ?_ _)); exact BK140.out) hb)
              have n3_ := Aside0.mk (below_step (by repeat (first | (with_reducible first | exact HB.out | apply below_alloc | apply pw_below_drewN | apply below_drew1 | refine below_set ?_ GE140.out) | exact HB.out)) hb)
              have z_HO143 := fun (h0_ : b 9 = true) (h1_ : b 16 = false) => (show Kd.R (Kd.int .u8) 5 w15 w.heap.size (fun _ => True) v142 y141 from by first | exact (Kd.R_elder' (by (with_reducible repeat (first | apply Kd.R_alloc | apply Kd.R_drewN | apply Kd.R_drew)); exact (Q_HO143 h0_ h1_)) (Kd.R_base ho0) hb) | exact Kd.R_mono (Kd.R_elder' (by (with_reducible repeat (first | apply Kd.R_alloc | apply Kd.R_drewN | apply Kd.R_drew)); exact (Q_HO143 h0_ h1_)) (Kd.R_base ho0) hb) (fun _ h_ => by first | trivial | exact h_ | exact h_.1))
              clear HO146
              clear BK140
              clear HB
              have HO146 := n0_
              have HO149 := n1_
              have BK140 := n2_
              have HB := n3_
              clear n0_ n1_ n2_ n3_
              (try clear hb)
              (try clear hb2)
              (try clear hk)
              (try clear hi)
              (try clear ho0)
              refine hK.out _ _ ⟨v142, v145, v148, v151, v154, m18_, (by rw [ha.out]; exact putSel_upk 10 hb_ rfl rfl rfl), (by (with_reducible repeat (first | refine blk_drewN ?_ _ | refine blk_drew ?_ | refine blk_alloc ?_ _)); exact BK140.out), (by repeat (first | (with_reducible first | exact HB.out | apply below_alloc | apply pw_below_drewN | apply below_drew1 | refine below_set ?_ GE140.out) | exact HB.out)), z_HO143, fun _ _ => (by (with_reducible repeat (first | apply Kd.R_alloc | apply Kd.R_drewN | apply Kd.R_drew)); exact Kd.R_mono HO146.out (fun _ hk => by first | exact hk.2 | exact True.intro)), fun _ _ => (by (with_reducible repeat (first | apply Kd.R_alloc | apply Kd.R_drewN | apply Kd.R_drew)); exact Kd.R_mono HO149.out (fun _ hk => by first | exact hk.2 | exact True.intro)), fun h0_ => absurd ((hoff 16 (by kernel_rfl)).symm.trans h0_) (by decide), fun h0_ => absurd ((hoff 17 (by kernel_rfl)).symm.trans h0_) (by decide), fun h0_ => absurd ((hoff 18 (by kernel_rfl)).symm.trans h0_) (by decide)⟩
            refine steps_cons ?_ ?_
            · rintro b a w' ⟨v142, v145, v148, v151, v154, m18_, ha, Q_BK140, Q_HB, Q_HO143, Q_HO146, Q_HO149, Q_HO152, Q_HO155, Q_X18_⟩ hb_ hon hoff
              refine ⟨_, rfl, fun K hK => ?_⟩
              have e29 : a.tmps[29]? = some (v142) := by rw [ha]; exact putSel_on (e := (9, 29, v142)) 6 rfl rfl (hon 9 (by kernel_rfl)) rfl
              have e32 : a.tmps[32]? = some (v145) := by rw [ha]; exact putSel_on (e := (12, 32, v145)) 8 rfl rfl (hon 12 (by kernel_rfl)) rfl
              have e35 : a.tmps[35]? = some (v148) := by rw [ha]; exact putSel_on (e := (15, 35, v148)) 10 rfl rfl (hon 15 (by kernel_rfl)) rfl
              replace ha := Aside0.mk ha
              have BK140 := Aside0.mk Q_BK140
              have HB := Aside0.mk Q_HB
              have HO143 := Aside0.mk (Q_HO143 (hon 9 (by kernel_rfl)) hb_)
              have HO146 := Aside0.mk (Q_HO146 (hon 12 (by kernel_rfl)) hb_)
              have HO149 := Aside0.mk (Q_HO149 (hon 15 (by kernel_rfl)) hb_)
              obtain ⟨Ao18, co18, eo18⟩ := Kd.R_slice HO143.out
              (first | subst eo18 | (injection eo18 with f1_ f2_ f3_; have f4_ := f1_.symm; have f5_ := f3_.symm; clear f1_ f2_ f3_; subst f4_; subst f5_))
              obtain ⟨Ao19, co19, eo19⟩ := Kd.R_slice HO146.out
              (first | subst eo19 | (injection eo19 with f1_ f2_ f3_; have f4_ := f1_.symm; have f5_ := f3_.symm; clear f1_ f2_ f3_; subst f4_; subst f5_))
              obtain ⟨Ao20, co20, eo20⟩ := Kd.R_slice HO149.out
              (first | subst eo20 | (injection eo20 with f1_ f2_ f3_; have f4_ := f1_.symm; have f5_ := f3_.symm; clear f1_ f2_ f3_; subst f4_; subst f5_))
              refine Kd.N_lit_step (Kd.slice 5 (Kd.int .u8)) _ 23 ?hg (N' := 36) ?hd (xs := ([y141, t144, t147] : List (List Int))) (inner := [.slice Ao18 y141.length co18, .slice Ao19 t144.length co19, .slice Ao20 t147.length co20]) (ok := (fun k_ => k_ ≠ gb140)) (okp := (fun k_ => k_ ≠ gb140)) ?hr ?hp (fun _ hk => hk) ((show ∀ k_, w'.heap.size ≤ k_ → (fun k_ => k_ ≠ gb140) k_ from fun k_ hk => Kd.freshB (g := gb140) (o := .cells #[.int .i64 a0_0, .int .u64 a0_1, .int .i64 a0_2, .int .u64 a0_3, .int .i64 a0_4, .bool a0_5, .bool a0_6, .slice A0_7 l0_7.length c0_7] 36 (0, 0)) (by (with_reducible repeat (first | refine blk_drewN ?_ _ | refine blk_drew ?_ | refine blk_alloc ?_ _)); exact BK140.out) k_ hk) _ (Nat.le_refl _)) (Below.refl _ _) (Nat.le_refl _) (by simp) ?_; (case hd => rfl); (case hg => rfl); (case hr => first | (go_simp; done) | (go_simp; rfl)); (case hp => exact (Reps.one (show Kd.FK (Kd.slice 5 (Kd.int .u8)) _ _ y141 [.slice Ao18 y141.length co18] from (Kd.FK_slice_mk (Kd.R_reads' (Kd.R_mono (ok' := (fun k_ => k_ ≠ gb140)) (Kd.R_types (HO143.out) BK140.out (by decide)) (fun k_ hk => hk.2))).2.1 (Kd.R_F (Kd.R_mono (ok' := (fun k_ => k_ ≠ gb140)) (Kd.R_types (HO143.out) BK140.out (by decide)) (fun k_ hk => hk.2))))) (Reps.one (show Kd.FK (Kd.slice 5 (Kd.int .u8)) _ _ t144 [.slice Ao19 t144.length co19] from (Kd.FK_slice_mk (Kd.R_reads' (Kd.R_mono (ok' := (fun k_ => k_ ≠ gb140)) (Kd.R_types (HO146.out) BK140.out (by decide)) (fun k_ hk => hk.2))).2.1 (Kd.R_F (Kd.R_mono (ok' := (fun k_ => k_ ≠ gb140)) (Kd.R_types (HO146.out) BK140.out (by decide)) (fun k_ hk => hk.2))))) (Reps.one (show Kd.FK (Kd.slice 5 (Kd.int .u8)) _ _ t147 [.slice Ao20 t147.length co20] from (Kd.FK_slice_mk (Kd.R_reads' (Kd.R_mono (ok' := (fun k_ => k_ ≠ gb140)) (Kd.R_types (HO149.out) BK140.out (by decide)) (fun k_ hk => hk.2))).2.1 (Kd.R_F (Kd.R_mono (ok' := (fun k_ => k_ ≠ gb140)) (Kd.R_types (HO149.out) BK140.out (by decide)) (fun k_ hk => hk.2))))) (Reps.none _ _)))))
              intro v151 w21 ho22 hb hg_ hnew_
              clear hg_ hnew_
              (first | rw [← Ny150.out] at ho22 | (simp only [Int.reduceToNat] at ho22; rw [← Ny150.out] at ho22))
              have n0_ := Aside0.mk (Kd.N_lower ho22 (below_size (by repeat (first | (with_reducible first | exact HB.out | apply below_alloc | apply pw_below_drewN | apply below_drew1 | refine below_set ?_ GE140.out) | exact HB.out))))
              have n1_ := Aside0.mk (blk_below (g := gb140) (o := .cells #[.int .i64 a0_0, .int .u64 a0_1, .int .i64 a0_2, .int .u64 a0_3, .int .i64 a0_4, .bool a0_5, .bool a0_6, .slice A0_7 l0_7.length c0_7] 36 (0, 0)) (by (with_reducible repeat (first | refine blk_drewN ?_ _ | refine blk_drew ?_ | refine blk_alloc ?_ _)); exact BK140.out) hb)
              have n2_ := Aside0.mk (below_step (by repeat (first | (with_reducible first | exact HB.out | apply below_alloc | apply pw_below_drewN | apply below_drew1 | refine below_set ?_ GE140.out) | exact HB.out)) hb)
              clear BK140
              clear HB
              clear HO143
              clear HO146
              clear HO149
              have HO152 := n0_
              have BK140 := n1_
              have HB := n2_
              clear n0_ n1_ n2_
              clear hb ho22
              refine hK.out _ _ ⟨.slice Ao18 y141.length co18, .slice Ao19 t144.length co19, .slice Ao20 t147.length co20, v151, v154, m18_, (by rw [ha.out]; exact putSel_upk 11 hb_ rfl rfl rfl), (by (with_reducible repeat (first | refine blk_drewN ?_ _ | refine blk_drew ?_ | refine blk_alloc ?_ _)); exact BK140.out), (by repeat (first | (with_reducible first | exact HB.out | apply below_alloc | apply pw_below_drewN | apply below_drew1 | refine below_set ?_ GE140.out) | exact HB.out)), fun _ h1_ => absurd ((up_self b 16).symm.trans h1_) (by decide), fun _ h1_ => absurd ((up_self b 16).symm.trans h1_) (by decide), fun _ h1_ => absurd ((up_self b 16).symm.trans h1_) (by decide), fun _ => (by (with_reducible repeat (first | apply Kd.N_alloc | apply Kd.N_drewN | apply Kd.N_drew)); exact HO152.out), fun h0_ => absurd ((hoff 17 (by kernel_rfl)).symm.trans h0_) (by decide), fun h0_ => absurd ((hoff 18 (by kernel_rfl)).symm.trans h0_) (by decide)⟩
            refine steps_cons ?_ ?_
            · rintro b a w' ⟨v142, v145, v148, v151, v154, m18_, ha, Q_BK140, Q_HB, Q_HO143, Q_HO146, Q_HO149, Q_HO152, Q_HO155, Q_X18_⟩ hb_ hon hoff
              refine ⟨_, rfl, fun K hK => ?_⟩
              have e36 : a.tmps[36]? = some (v151) := by rw [ha]; exact putSel_on (e := (16, 36, v151)) 11 rfl rfl (hon 16 (by kernel_rfl)) rfl
              replace ha := Aside0.mk ha
              have BK140 := Aside0.mk Q_BK140
              have HB := Aside0.mk Q_HB
              have HO152 := Aside0.mk (Q_HO152 (hon 16 (by kernel_rfl)))
              obtain ⟨Ao23, co23, eo23⟩ := Kd.N_slice HO152.out
              (first | subst eo23 | (injection eo23 with f1_ f2_ f3_; have f4_ := f1_.symm; have f5_ := f3_.symm; clear f1_ f2_ f3_; subst f4_; subst f5_))
              refine goes_ Try.func27 (by kernel_rfl) rfl #[.slice Ao23 y150.length co23] (by rfl) rfl rfl (by first | (simp only [List.map_toArray, List.map_cons, List.map_nil, Act.eval, Array.getD_eq_getD_getElem?, Option.getD_some, e36]; done) | (simp only [List.map_toArray, List.map_cons, List.map_nil, Act.eval, Array.getD_eq_getD_getElem?, Option.getD_some, e36]; rfl)) ?_
              with_reducible refine (slices_Concat_byte_byte.calls kj5 _ _ y150 t153 _ ?side1 ?side2 A11.out).mono ?_
              (case side1 => repeat (first | exact (Kd.N_reads' HO152.out).2.2 | (with_reducible refine Kd.C_alloc ?_ _) | (with_reducible refine Kd.C_drewN ?_ _) | (with_reducible refine Kd.C_drew ?_)))
              (case side2 => exact (Kd.N_reads' HO152.out).2.1)
              rintro e w24 ⟨v154, rfl, ho0, hb⟩
              refine ⟨_, rfl, ?_⟩
              have n0_ := Aside0.mk (Kd.N_elder' (by (with_reducible repeat (first | apply Kd.N_alloc | apply Kd.N_drewN | apply Kd.N_drew)); exact HO152.out) (Kd.R_base ho0) hb)
              have n1_ := Aside0.mk (Kd.R_lower ho0 (below_size (by repeat (first | (with_reducible first | exact HB.out | apply below_alloc | apply pw_below_drewN | apply below_drew1 | refine below_set ?_ GE140.out) | exact HB.out))))
              have n2_ := Aside0.mk (blk_below (g := gb140) (o := .cells #[.int .i64 a0_0, .int .u64 a0_1, .int .i64 a0_2, .int .u64 a0_3, .int .i64 a0_4, .bool a0_5, .bool a0_6, .slice A0_7 l0_7.length c0_7] 36 (0, 0)) (by (with_reducible repeat (first | refine blk_drewN ?_ _ | refine blk_drew ?_ | refine blk_alloc ?_ _)); exact BK140.out) hb)
              have n3_ := Aside0.mk (below_step (by repeat (first | (with_reducible first | exact HB.out | apply below_alloc | apply pw_below_drewN | apply below_drew1 | refine below_set ?_ GE140.out) | exact HB.out)) hb)
              clear HO152
              clear BK140
              clear HB
              have HO152 := n0_
              have HO155 := n1_
              have BK140 := n2_
              have HB := n3_
              clear n0_ n1_ n2_ n3_
              (try clear hb)
              (try clear hb2)
              (try clear hk)
              (try clear hi)
              (try clear ho0)
              refine hK.out _ _ ⟨v142, v145, v148, .slice Ao23 y150.length co23, v154, m18_, (by rw [ha.out]; exact putSel_upk 12 hb_ rfl rfl rfl), (by (with_reducible repeat (first | refine blk_drewN ?_ _ | refine blk_drew ?_ | refine blk_alloc ?_ _)); exact BK140.out), (by repeat (first | (with_reducible first | exact HB.out | apply below_alloc | apply pw_below_drewN | apply below_drew1 | refine below_set ?_ GE140.out) | exact HB.out)), fun _ h1_ => absurd ((hon 16 (by kernel_rfl)).symm.trans h1_) (by decide), fun _ h1_ => absurd ((hon 16 (by kernel_rfl)).symm.trans h1_) (by decide), fun _ h1_ => absurd ((hon 16 (by kernel_rfl)).symm.trans h1_) (by decide), fun _ => (by (with_reducible repeat (first | apply Kd.N_alloc | apply Kd.N_drewN | apply Kd.N_drew)); exact Kd.N_mono HO152.out (fun _ hk => by first | exact ⟨hk.2, hk.1⟩ | exact hk.2 | exact hk.1 | exact hk)), fun _ => (by (with_reducible repeat (first | apply Kd.R_alloc | apply Kd.R_drewN | apply Kd.R_drew)); exact HO155.out), fun h0_ => absurd ((hoff 18 (by kernel_rfl)).symm.trans h0_) (by decide)⟩
            refine steps_cons ?_ ?_
            · rintro b a w' ⟨v142, v145, v148, v151, v154, m18_, ha, Q_BK140, Q_HB, Q_HO143, Q_HO146, Q_HO149, Q_HO152, Q_HO155, Q_X18_⟩ hb_ hon hoff
              refine ⟨_, rfl, fun K hK => ?_⟩
              have e37 : a.tmps[37]? = some (v154) := by rw [ha]; exact putSel_on (e := (17, 37, v154)) 12 rfl rfl (hon 17 (by kernel_rfl)) rfl
              replace ha := Aside0.mk ha
              have BK140 := Aside0.mk Q_BK140
              have HB := Aside0.mk Q_HB
              have HO152 := Aside0.mk (Q_HO152 (hon 16 (by kernel_rfl)))
              have HO155 := Aside0.mk (Q_HO155 (hon 17 (by kernel_rfl)))
              refine value_ (w1 := w') (v := v154) (by rfl) rfl ?_ ?_
              · go_simp
                (try simp only [i64_w])
                try rfl
              refine hK.out _ _ ⟨v142, v145, v148, v151, v154, (v154), (by rw [ha.out]; exact putSel_upk 13 hb_ rfl rfl rfl), Q_BK140, Q_HB, fun _ h1_ => absurd ((hon 16 (by kernel_rfl)).symm.trans h1_) (by decide), fun _ h1_ => absurd ((hon 16 (by kernel_rfl)).symm.trans h1_) (by decide), fun _ h1_ => absurd ((hon 16 (by kernel_rfl)).symm.trans h1_) (by decide), Q_HO152, Q_HO155, fun _ => rfl⟩
            exact steps_nil
          rintro b a w24 hall ⟨v142, v145, v148, v151, v154, m18_, ha, Q_BK140, Q_HB, Q_HO143, Q_HO146, Q_HO149, Q_HO152, Q_HO155, Q_X18_⟩
          clear BK140 HB
          have hb1_ := hall 1 (by kernel_rfl)
          have hb2_ := hall 2 (by kernel_rfl)
          have hb3_ := hall 3 (by kernel_rfl)
          have hb5_ := hall 5 (by kernel_rfl)
          have hb7_ := hall 7 (by kernel_rfl)
          have hb8_ := hall 8 (by kernel_rfl)
          have hb9_ := hall 9 (by kernel_rfl)
          have hb11_ := hall 11 (by kernel_rfl)
          have hb12_ := hall 12 (by kernel_rfl)
          have hb14_ := hall 14 (by kernel_rfl)
          have hb15_ := hall 15 (by kernel_rfl)
          have hb16_ := hall 16 (by kernel_rfl)
          have hb17_ := hall 17 (by kernel_rfl)
          have hb18_ := hall 18 (by kernel_rfl)
          subst ha
          obtain rfl := Q_X18_ hb18_
          simp only [putSel, hb1_, hb2_, hb3_, hb5_, hb7_, hb8_, hb9_, hb11_, hb12_, hb14_, hb15_, hb16_, hb17_, hb18_, if_true, Act.put, List.setIfInBounds_toArray, List.set_cons_zero, List.set_cons_succ]
          have BK140 := Aside0.mk Q_BK140
          clear Q_BK140
          have HB := Aside0.mk Q_HB
          clear Q_HB
          clear Q_HO143
          clear Q_HO146
          clear Q_HO149
          have HO152 := Aside0.mk (Q_HO152 hb16_)
          clear Q_HO152
          have HO155 := Aside0.mk (Q_HO155 hb17_)
          clear Q_HO155
          clear hall hb1_ hb2_ hb3_ hb5_ hb7_ hb8_ hb9_ hb11_ hb12_ hb14_ hb15_ hb16_ hb17_ hb18_
          have hcz25_0 : w24.cell? ⟨gb140, 0, none⟩ = some (.int .i64 a0_0) := (blk_cell BK140.out 0).trans rfl
          have hcz25_1 : w24.cell? ⟨gb140, 1, none⟩ = some (.int .u64 a0_1) := (blk_cell BK140.out 1).trans rfl
          have hcz25_2 : w24.cell? ⟨gb140, 2, none⟩ = some (.int .i64 a0_2) := (blk_cell BK140.out 2).trans rfl
          have hcz25_3 : w24.cell? ⟨gb140, 3, none⟩ = some (.int .u64 a0_3) := (blk_cell BK140.out 3).trans rfl
          have hcz25_4 : w24.cell? ⟨gb140, 4, none⟩ = some (.int .i64 a0_4) := (blk_cell BK140.out 4).trans rfl
          have hcz25_5 : w24.cell? ⟨gb140, 5, none⟩ = some (.bool a0_5) := (blk_cell BK140.out 5).trans rfl
          have hcz25_6 : w24.cell? ⟨gb140, 6, none⟩ = some (.bool a0_6) := (blk_cell BK140.out 6).trans rfl
          have hcz25_7 : w24.cell? ⟨gb140, 7, none⟩ = some (.slice A0_7 l0_7.length c0_7) := (blk_cell BK140.out 7).trans rfl
          have hfz25_0 := blk_frozen BK140.out 0
          have hfz25_1 := blk_frozen BK140.out 1
          have hfz25_2 := blk_frozen BK140.out 2
          have hfz25_3 := blk_frozen BK140.out 3
          have hfz25_4 := blk_frozen BK140.out 4
          have hfz25_5 := blk_frozen BK140.out 5
          have hfz25_6 := blk_frozen BK140.out 6
          have hfz25_7 := blk_frozen BK140.out 7
          try go_wp2
          go_loopg [4, 41] kj5 (fun kq v4 v41 w' => ∃ (x4_3 : List Int) (x41_3 : Int), v41 = .int .i64 x41_3 ∧ Aside0 (script_record.l0 kq x4_3 l0_7 (l0_7.length : Int) x41_3 = some r) ∧ Aside0 (kq ≤ kj5) ∧ Aside0 (Kd.R (Kd.int .u8) 5 w' w.heap.size (fun _ => True) v4 x4_3) ∧ Aside0 (w'.heap[gb140]? = some (.cells #[.int .i64 a0_0, .int .u64 a0_1, .int .i64 a0_2, .int .u64 a0_3, .int .i64 a0_4, .bool a0_5, .bool a0_6, (.slice A0_7 l0_7.length c0_7)] 36 (0, 0))) ∧ Aside0 (Below w.heap.size w w'))
          case atStart => exact ⟨(t153), (0), (by first | rfl | (simp; done) | (simp [*]; done)), H', ⟨Nat.le_refl _⟩, ⟨by (with_reducible repeat (first | apply Kd.R_alloc | apply Kd.R_drewN | apply Kd.R_drew)); exact HO155.out⟩, ⟨by (with_reducible repeat (first | refine blk_drewN ?_ _ | refine blk_drew ?_ | refine blk_alloc ?_ _)); exact BK140.out⟩, ⟨by repeat (first | (with_reducible first | exact HB.out | apply below_alloc | apply pw_below_drewN | apply below_drew1 | refine below_set ?_ GE140.out) | exact HB.out)⟩⟩
          case round =>
            clear H'
            try clear c1
            try clear c2
            try clear p2
            try clear c3
            try clear c4
            try clear c5
            try clear c6
            try clear p6
            try clear c7
            try clear c8
            try clear c21
            try clear hcz25_0
            try clear hcz25_1
            try clear hcz25_2
            try clear hcz25_3
            try clear hcz25_4
            try clear hcz25_5
            try clear hcz25_6
            try clear hcz25_7
            try clear hcz4_0
            try clear hcz4_1
            try clear hcz4_2
            try clear hcz4_3
            try clear hcz4_4
            try clear hcz4_5
            try clear hcz4_6
            try clear hcz4_7
            try clear hcz7_0
            try clear hcz7_1
            try clear hcz7_2
            try clear hcz7_3
            try clear hcz7_4
            try clear hcz7_5
            try clear hcz7_6
            try clear hcz7_7
            try clear hfz25_0
            try clear hfz25_1
            try clear hfz25_2
            try clear hfz25_3
            try clear hfz25_4
            try clear hfz25_5
            try clear hfz25_6
            try clear hfz25_7
            try clear hfz4_0
            try clear hfz4_1
            try clear hfz4_2
            try clear hfz4_3
            try clear hfz4_4
            try clear hfz4_5
            try clear hfz4_6
            try clear hfz4_7
            try clear hfz7_0
            try clear hfz7_1
            try clear hfz7_2
            try clear hfz7_3
            try clear hfz7_4
            try clear hfz7_5
            try clear hfz7_6
            try clear hfz7_7
            try clear p2
            obtain ⟨x4_3, x41_3, rfl, HA, HK3, HO_4, BK140, HB⟩ := hrel
            cases gk with
            | zero => exact absurd HA.out (by simp [script_record.l0])
            | succ k3 =>
              have H := HA.out
              clear HA
              simp only [script_record.l0] at H
              by_cases c26 : x41_3 < (l0_7.length : Int)
              · rw [if_pos c26] at H
                have c26b0 : decide (x41_3 < (l0_7.length : Int)) = true := decide_eq_true c26
                clear c26
                by_cases c27 : 0 ≤ x41_3
                · rw [if_pos c27] at H
                  have c27b0 : decide (0 ≤ x41_3) = true := decide_eq_true c27
                  clear c27
                  by_cases c28 : x41_3 < (l0_7.length : Int)
                  · rw [if_pos c28] at H
                    have c28b0 : decide (x41_3 < (l0_7.length : Int)) = true := decide_eq_true c28
                    clear c28
                    by_cases c29 : x4_3.length < 140737488355328
                    · rw [if_pos c29] at H
                      have LMc29 := Aside0.mk c29
                      clear c29
                      obtain ⟨y157, hy157⟩ : ∃ y_ : List Int, y_ = (x4_3 ++ [(rd l0_7 x41_3) % 256]) := ⟨_, rfl⟩
                      replace H : (script_record.l0 k3 y157 l0_7 (l0_7.length : Int) (wrap64 (x41_3 + 1))) = some r := by first | (rw [hy157]; with_reducible exact H) | (have H2_ := (Option.bind_some _ _).symm.trans H; rw [hy157]; with_reducible exact H2_) | (have H2_ := (Option.bind_some _ _).symm.trans H; with_reducible exact H2_) | with_reducible exact H | (rw [hy157]; exact H) | exact H
                      have Ny157 := Aside0.mk hy157
                      clear hy157
                      have H' := Aside0.mk H
                      clear H
                      have p156 : 0 ≤ (x41_3 : Int) := of_decide_eq_true (by first | (with_reducible assumption) | assumption)
                      have q156 : x41_3 < (l0_7.length : Int) := of_decide_eq_true (by first | (with_reducible assumption) | assumption)
                      obtain ⟨ad156, e156, hx156_0⟩ := Kd.at_int HR0_7.out x41_3 p156 q156
                      cases e156
                      replace hx156_0 := (HB.out.cell (World.block_lt_of_cell? w _ hx156_0)).trans hx156_0
                      replace p156 := eq_true p156
                      replace q156 := eq_true q156
                      go_wp2_with (first | ((with_reducible refine gate_builtin (b := .append) (xs := #[.tmp 45, .tmp 48]) rfl ?_); at_builtin; refine Kd.R_append (Kd.int .u8) (w0 := w) w.heap.size rfl (.tmp 45) (.tmp 48) 23 5 (.int .u8 0) 1 rfl Try.underlying23 info5 rfl (by decide) (by omega) u4 x4_3 ((rd l0_7 x41_3) % 256) [.int .u8 ((rd l0_7 x41_3) % 256)] (fun _ => True) (fun _ => False) rfl rfl ?aP (fun _ hk => hk.elim) ?aF ?aO ?aB ?aS ?aL ?_; (case aP => exact rfl); (case aB => exact (by repeat (first | (with_reducible first | exact HB.out | apply below_alloc | apply pw_below_drewN | apply below_drew1 | refine below_set ?_ GE140.out) | exact HB.out))); (case aF => exact (fun _ _ => trivial)); (case aO => exact (by (with_reducible repeat (first | apply Kd.R_alloc | apply Kd.R_drewN | apply Kd.R_drew)); exact HO_4.out)); (case aS => exact (below_size (by repeat (first | (with_reducible first | exact HB.out | apply below_alloc | apply pw_below_drewN | apply below_drew1 | refine below_set ?_ GE140.out) | exact HB.out)))); (case aL => have := LMc29.out; omega); intro v158 w30 ho hb hg hat; rw [← Ny157.out] at ho; have n0_ := Aside0.mk (blk_grown (g := gb140) (o := .cells #[.int .i64 a0_0, .int .u64 a0_1, .int .i64 a0_2, .int .u64 a0_3, .int .i64 a0_4, .bool a0_5, .bool a0_6, .slice (some ad156) l0_7.length c0_7] 36 (0, 0)) (by (with_reducible repeat (first | refine blk_drewN ?_ _ | refine blk_drew ?_ | refine blk_alloc ?_ _)); exact BK140.out) hg (Kd.R_ne HO_4.out BK140.out (by decide))); have n1_ := Aside0.mk (hb); have n2_ := Aside0.mk (ho); clear BK140; clear HB; clear HO_4; have BK140 := n0_; have HB := n1_; have HO159 := n2_; clear n0_ n1_ n2_; clear ho hb hg hat))
                      go_roundg k3
                      case measure => have := HJ1.out; have := HJ5.out; have := HK3.out; omega
                      case rel => exact ⟨(y157), (wrap64 (x41_3 + 1)), (by first | rfl | (simp; done) | (simp [*]; done)), H', ⟨by have := HJ1.out; have := HJ5.out; have := HK3.out; omega⟩, ⟨by (with_reducible repeat (first | apply Kd.R_alloc | apply Kd.R_drewN | apply Kd.R_drew)); exact HO159.out⟩, ⟨by (with_reducible repeat (first | refine blk_drewN ?_ _ | refine blk_drew ?_ | refine blk_alloc ?_ _)); exact BK140.out⟩, ⟨by repeat (first | (with_reducible first | exact HB.out | apply below_alloc | apply pw_below_drewN | apply below_drew1 | refine below_set ?_ GE140.out) | exact HB.out)⟩⟩
                    · rw [if_neg c29] at H
                      exact absurd H (by simp)
                  · rw [if_neg c28] at H
                    exact absurd H (by simp)
                · rw [if_neg c27] at H
                  exact absurd H (by simp)
              · rw [if_neg c26] at H
                have c26b0 : decide (x41_3 < (l0_7.length : Int)) = false := decide_eq_false c26
                clear c26
                obtain rfl := Option.some.inj H
                go_wp2
                go_ret
                exact ⟨_, by first | rfl | (simp [errW_none, errW_some] <;> rfl) | (simp [*, errW_none, errW_some] <;> rfl), by (with_reducible repeat (first | apply Kd.R_alloc | apply Kd.R_drewN | apply Kd.R_drew)); exact HO_4.out, by repeat (first | (with_reducible first | exact HB.out | apply below_alloc | apply pw_below_drewN | apply below_drew1 | refine below_set ?_ GE140.out) | exact HB.out)⟩

end Go.Proofs.Ytlccjklljlddhaa.Fn
