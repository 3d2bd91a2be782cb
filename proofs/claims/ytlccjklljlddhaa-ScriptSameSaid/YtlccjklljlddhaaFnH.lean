/- By hand: contracts of script.in (a closure handed to slices.ContainsFunc) and of slices.Grow. Conditions: those each contract names. -/
import Derived.Test.YtlccjklljlddhaaFnx0
import Derived.Lib.Hide
namespace Go.Proofs.Ytlccjklljlddhaa.Fn
open Go.RowKit Go.Proofs.YtlccjklljlddhaaW.PrintWords Go.Proofs.YtlccjklljlddhaaW.PrintLast Go.Proofs.YtlccjklljlddhaaW.PrintMore
attribute [local go_sem] max2_int min2_int max_two min_two max_three min_three max_four min_four
set_option linter.unusedVariables false
set_option linter.unusedSimpArgs false
def script_in.l0 : Nat → Int → List Int → Int → Int → Option (Bool)
  | 0, _, _, _, _ => none
  | k + 1, x0, x1, x12, x13 => if x13 < x12 then (if 0 ≤ x13 then (if x13 < (x1.length : Int) then (if (rd x1 x13) < 0 then (some false) else (if (rd x1 x13) ≥ x0 then (some false) else (script_in.l0 k x0 x1 x12 (wrap64 (x13 + 1))))) else (none)) else (none)) else (some true)
def script_in.f (k : Nat) (a0 : Int) (l1 : List Int) : Option (Bool) := script_in.l0 k a0 l1 (l1.length : Int) 0
theorem script_in.mono_l : ∀ k, (∀ y0 y1 y2 y3, LeO (script_in.l0 k y0 y1 y2 y3) (script_in.l0 (k + 1) y0 y1 y2 y3))
  | 0 => fun _ _ _ _ r h => by simp [script_in.l0] at h
  | k + 1 => by
    have ih0 := script_in.mono_l k
    · intro y0 y1 y2 y3
      unfold script_in.l0
      repeat' first
      | (with_reducible exact ih0 _ _ _ _)
      | (with_reducible exact LeO.refl _)
      | (with_reducible exact LeO.none _)
      | (with_reducible refine LeO.ite ?_ ?_)
      | (with_reducible refine LeO.bind ?_ (fun _ => ?_))
      | exact ih0 _ _ _ _
      | exact LeO.none _
      | refine LeO.ite ?_ ?_
      | refine LeO.bind ?_ (fun _ => ?_)
theorem script_in.mono : ∀ a0 a1 k, LeO (script_in.f k a0 a1) (script_in.f (k + 1) a0 a1) := by
  intro a0 a1 k
  have ih0 := script_in.mono_l k
  unfold script_in.f
  repeat' first
      | (with_reducible exact ih0 _ _ _ _)
      | (with_reducible exact LeO.refl _)
      | (with_reducible exact LeO.none _)
      | (with_reducible refine LeO.ite ?_ ?_)
      | (with_reducible refine LeO.bind ?_ (fun _ => ?_))
      | exact ih0 _ _ _ _
      | exact LeO.none _
      | refine LeO.ite ?_ ?_
      | refine LeO.bind ?_ (fun _ => ?_)

/-- Is a number none of 0 to below e? -/
def outB (e x : Int) : Bool := decide (x < 0) || decide (e ≤ x)
theorem in1_any (x e : Int) (b : Nat) (w : World) (hc : w.cell? ⟨b, 0, none⟩ = some (.int .i64 e)) : Calls Try.prog 31 #[.int .i64 x, .pointer (some ⟨b, 0, none⟩)] w fun en w' => en = .returned (.bool (outB e x)) ∧ w = w' := by
  unfold outB
  by_cases h0 : x < 0
  · go_enter Try.func31, Try.ntmps31
    go_wp2_with fail
    go_ret
    exact ⟨by simp [h0], rfl⟩
  · go_enter Try.func31, Try.ntmps31
    go_wp2_with fail
    go_ret
    exact ⟨by rw [decide_eq_false (show ¬ x < 0 by omega)]; rfl, rfl⟩
/-- A post: whether there is one that is out. -/
def Hit (e : Int) (l : List Int) (w : World) (en : Ending) (w' : World) : Prop := ∃ r : Int, en = .returned (.int .i64 r) ∧ decide (0 ≤ r) = l.any (outB e) ∧ w = w'
theorem rd_nat (l : List Int) (i : Nat) : rd l (i : Int) = l.getD i 0 := by unfold rd; simp
set_option maxHeartbeats 400000 in
theorem index_any (A : Option Addr) (c : Nat) (l : List Int) (e : Int) (b : Nat) (w : World) (hC : Kd.C (Kd.int .i64) w A l.length l) (hl : l.length ≤ 9223372036854775807) (hc : w.cell? ⟨b, 0, none⟩ = some (.int .i64 e)) :
    Calls Try.prog 36 #[.slice A l.length c, .func (.func 31) #[] #[.pointer (some ⟨b, 0, none⟩)]] w (Hit e l w) := by
  replace hC := Lib.hid hC
  replace hc := Lib.hid hc
  go_enter Try.func36, Try.ntmps36
  go_wp2_with fail
  go_loop [8] (fun y => ∃ i : Nat, y = .int .i64 (i : Int) ∧ i ≤ l.length ∧ Hid (∀ j, j < i → outB e (l.getD j 0) = false)) (fun y => l.length - (intOf y).toNat)
  case atStart => exact ⟨0, rfl, by omega, Lib.hid (fun j hj => by omega)⟩
  case round =>
    obtain ⟨i, rfl, hi, hno⟩ := hrel
    by_cases hlt : i < l.length
    · have hlt2 : (i : Int) < (l.length : Int) := by omega
      obtain ⟨ad, rfl, hx⟩ := Kd.at_int hC.out (i : Int) (by omega) hlt2
      rw [rd_nat, Int.toNat_natCast] at hx
      have T := Lib.hid (in1_any (l.getD i 0) e b w hc.out)
      by_cases ho : outB e (l.getD i 0) = true
      · have hany : Hid (l.any (outB e) = true) := Lib.hid (by
          rw [List.any_eq_true]
          refine ⟨l.getD i 0, ?_, ho⟩
          rw [List.getD_eq_getElem?_getD, List.getElem?_eq_getElem hlt]
          exact List.getElem_mem hlt)
        generalize hz : l.getD i 0 = z at *
        generalize hq : outB e z = q at *
        subst ho
        clear hz hq
        go_wp2_with (go_at_call 31; with_reducible refine T.out.mono ?_; rintro en w' ⟨rfl, rfl⟩)
        go_ret
        exact ⟨_, rfl, by rw [hany.out]; exact decide_eq_true (by omega), rfl⟩
      · have hno2 : Hid (∀ j, j < i + 1 → outB e (l.getD j 0) = false) := Lib.hid (fun j hj => by
          rcases Nat.lt_or_eq_of_le (Nat.lt_succ_iff.1 hj) with h | h
          · exact hno.out j h
          · subst h; simpa using ho)
        have ho2 : outB e (l.getD i 0) = false := by simpa using ho
        clear ho hno
        generalize hz : l.getD i 0 = z at *
        generalize hq : outB e z = q at *
        subst ho2
        clear hz hq
        go_wp2_with (go_at_call 31; with_reducible refine T.out.mono ?_; rintro en w' ⟨rfl, rfl⟩)
        go_round
        case rel => exact ⟨i + 1, by go_num, by omega, hno2⟩
        case measure => simp [intOf]; omega
    · have hlt2 : ¬ (i : Int) < (l.length : Int) := by omega
      have hany : Hid (l.any (outB e) = false) := Lib.hid (by
        rw [List.any_eq_false]
        intro x hx
        obtain ⟨j, hj, rfl⟩ := List.getElem_of_mem hx
        have := hno.out j (by omega)
        rw [List.getD_eq_getElem?_getD, List.getElem?_eq_getElem hj] at this
        simpa using this)
      go_wp2_with fail
      go_ret
      exact ⟨_, rfl, by rw [hany.out]; rfl, rfl⟩
theorem contains_any (A : Option Addr) (c : Nat) (l : List Int) (e : Int) (b : Nat) (w : World) (hC : Kd.C (Kd.int .i64) w A l.length l) (hl : l.length ≤ 9223372036854775807) (hc : w.cell? ⟨b, 0, none⟩ = some (.int .i64 e)) :
    Calls Try.prog 30 #[.slice A l.length c, .func (.func 31) #[] #[.pointer (some ⟨b, 0, none⟩)]] w fun en w' => en = .returned (.bool (l.any (outB e))) ∧ w = w' := by
  have T := Lib.hid (index_any A c l e b w hC hl hc)
  clear hC hc
  go_enter Try.func30, Try.ntmps30
  go_wp2_with fail
  refine T.out.mono ?_
  rintro en w1 ⟨r, rfl, hr, rfl⟩
  replace hr := Lib.hid hr
  by_cases h0 : 0 ≤ r
  · go_wp2_with fail
    go_ret
    exact ⟨by rw [← hr.out, decide_eq_true h0]; rfl, rfl⟩
  · go_wp2_with fail
    go_ret
    exact ⟨by rw [← hr.out]; first | rfl | (rw [decide_eq_false h0]; rfl), rfl⟩
theorem in_any (A : Option Addr) (c : Nat) (l : List Int) (e : Int) (w : World) (hC : Kd.C (Kd.int .i64) w A l.length l) (hl : l.length ≤ 9223372036854775807) :
    Calls Try.prog 23 #[.int .i64 e, .slice A l.length c] w fun en w' => en = .returned (.bool (!l.any (outB e))) ∧ Below w.heap.size w w' := by
  have hb := Lib.hid (below_alloc (Below.refl w.heap.size w) (.cells #[.int .i64 e] 3))
  have hcell : (w.alloc (.cells #[.int .i64 e] 3)).cell? ⟨w.heap.size, 0, none⟩ = some (.int .i64 e) := (blk_cell (blk_new w _) 0).trans rfl
  have T := Lib.hid (contains_any A c l e w.heap.size (w.alloc (.cells #[.int .i64 e] 3)) (Kd.C_below hC hb.out) hl hcell)
  clear hC hcell
  generalize l.any (outB e) = q at *
  have hmf : ∀ (fn : Fn) (first cap : Array Value) (w : World), (Instr.makeFunc fn first cap).run Try.prog w = .ok (.func fn first cap) w := fun _ _ _ _ => rfl
  go_enter Try.func23, Try.ntmps23
  go_wp2_with (go_at_call 30; with_reducible refine T.out.mono ?_; rintro en w' ⟨rfl, rfl⟩)
  go_ret
  exact ⟨rfl, hb.out⟩
theorem in_val (e : Int) (l : List Int) (r : Bool) (hl : l.length ≤ 9223372036854775807) : ∀ (k i : Nat), i ≤ l.length → script_in.l0 k e l (l.length : Int) (i : Int) = some r → r = !(l.drop i).any (outB e)
  | 0, i, hi, h => by simp [script_in.l0] at h
  | k + 1, i, hi, h => by
    simp only [script_in.l0] at h
    by_cases hlt : (i : Int) < (l.length : Int)
    · rw [if_pos hlt, if_pos (by omega), if_pos hlt] at h
      have hn : i < l.length := by omega
      have hd : l.drop i = rd l (i : Int) :: l.drop (i + 1) := by
        rw [List.drop_eq_getElem_cons hn, rd_nat, List.getD_eq_getElem?_getD, List.getElem?_eq_getElem hn]
        rfl
      rw [hd, List.any_cons]
      by_cases h1 : rd l (i : Int) < 0
      · rw [if_pos h1] at h
        injection h with h
        rw [← h, outB, decide_eq_true h1]
        rfl
      · rw [if_neg h1] at h
        by_cases h2 : rd l (i : Int) ≥ e
        · rw [if_pos h2] at h
          injection h with h
          rw [← h, outB, decide_eq_true (show e ≤ rd l (i : Int) from h2), Bool.or_true]
          rfl
        · rw [if_neg h2, show wrap64 ((i : Int) + 1) = ((i + 1 : Nat) : Int) by unfold wrap64; omega] at h
          rw [in_val e l r hl k (i + 1) (by omega) h, outB, decide_eq_false h1, decide_eq_false (show ¬ e ≤ rd l (i : Int) from h2)]
          rfl
    · rw [if_neg hlt] at h
      injection h with h
      have : i = l.length := by omega
      subst this
      rw [← h, List.drop_length]
      rfl
theorem script_in.calls (k : Nat) (a0 : Int) (A1 : Option Addr) (c1 : Nat) (l1 : List Int) (r : Bool) (w : World) (hr1 : Kd.C (Kd.int .i64) w A1 l1.length l1) (hc1 : l1.length ≤ c1) (h : script_in.f k a0 l1 = some r) :
    Calls Try.prog 23 #[.int .i64 a0, .slice A1 l1.length c1] w fun e w' => e = .returned (.bool r) ∧ Below w.heap.size w w' := by
  have hv := in_val a0 l1 r hr1.2.1 k 0 (by omega) h
  rw [List.drop_zero] at hv
  rw [hv]
  exact in_any A1 c1 l1 a0 w hr1 hr1.2.1
/-- slices.Grow of the nil slice. -/
def slices_Grow_byte_byte.f (l0 : List Int) (a1 : Int) : Option (List Int) := if 0 ≤ a1 then (if a1 ≤ 140737488355328 then some [] else none) else none
set_option maxHeartbeats 400000 in
theorem grow_any (a1 : Int) (w : World) (h0 : 0 ≤ a1) (h1 : a1 ≤ 140737488355328) :
    Calls Try.prog 33 #[.slice none 0 0, .int .i64 a1] w fun e w' => ∃ v0_ : Value, e = .returned (v0_) ∧ Kd.R (Kd.int .u8) 5 w' w.heap.size (fun _ => True) v0_ [] ∧ Below w.heap.size w w' := by
  by_cases hp : 0 < a1
  · go_enter Try.func33, Try.ntmps33
    go_wp2_with (first | ((with_reducible refine gate_builtin (b := .append) (xs := #[.tmp 20, .tmp 21]) rfl ?_); refine Kd.R_append_zeros (Kd.int .u8) (w0 := w) w.heap.size rfl (.tmp 20) (.tmp 21) 23 3 5 (.int .u8 0) 1 rfl Try.underlying23 Try.underlying3 info5 rfl (by decide) (by decide) (.slice none 0 0) [] 0 a1 (fun _ => True) rfl rfl ?hzero (fun _ _ => trivial) (Kd.R_nil _ _ _ _ _) h0 (Below.refl _ _) (Nat.le_refl _) ?hlen ?_; (case hzero => rfl); (case hlen => simp; omega); intro v5 w5 hR5 hB5 hg5 hn5; replace hR5 := Lib.hid hR5; replace hB5 := Aside0.mk hB5; clear hg5 hn5; obtain ⟨A5, c5, e5⟩ := Kd.R_slice hR5.out; subst e5))
    go_ret
    exact ⟨_, rfl, Kd.R_take (m := 0) hR5.out (by omega), hB5.out⟩
  · have h2 : a1 = 0 := by omega
    subst h2
    go_enter Try.func33, Try.ntmps33
    go_wp2_with fail
    go_ret
    exact ⟨_, rfl, Kd.R_nil _ _ _ _ _, Below.refl _ _⟩
theorem slices_Grow_byte_byte.calls (l0 : List Int) (a1 : Int) (r : List Int) (w : World) (h : slices_Grow_byte_byte.f l0 a1 = some r) :
    Calls Try.prog 33 #[.slice none 0 0, .int .i64 a1] w fun e w' => ∃ v0_ : Value, e = .returned (v0_) ∧ Kd.R (Kd.int .u8) 5 w' w.heap.size (fun _ => True) v0_ r ∧ Below w.heap.size w w' := by
  unfold slices_Grow_byte_byte.f at h
  split at h
  · split at h
    · injection h with h
      subst h
      exact grow_any a1 w (by assumption) (by assumption)
    · cases h
  · cases h
end Go.Proofs.Ytlccjklljlddhaa.Fn
