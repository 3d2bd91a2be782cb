/- By hand: what a store of a whole struct leaves, what a load of one gives; contracts of both Quiet. Conditions: those each contract names. -/
import Derived.Test.YtlccjklljlddhaaFnx0
import Derived.Lib.Hide
import Derived.Deep.MidRow
namespace Go.Proofs.Ytlccjklljlddhaa.Fn
open Go.RowKit Go.Proofs.YtlccjklljlddhaaW.PrintWords Go.Proofs.YtlccjklljlddhaaW.PrintLast Go.Proofs.YtlccjklljlddhaaW.PrintMore
set_option linter.unusedVariables false
set_option linter.unusedSimpArgs false
section
variable {P : Program} {ops : Array Oper} {rest : List Oper} {o : Oper} {a : Act} {Q : Exit → Act → World → Prop} {w : World}
theorem ev_store (hgd : o.guard = none) (ty : TypeId) (x y : Operand) (ho : o.op = .store ty x y) (g : Nat) (cells : Array Value) (hx : a.eval x = .pointer (some ⟨g, 0, none⟩)) (hy : a.eval y = .agg cells)
    (t : TypeId) (old : Array Value) (hg : w.heap[g]? = some (.cells old t (0, 0))) (hi : (P.info? ty).map (·.size) = some cells.size) (hold : old.size = cells.size) (h1 : cells.all (·.oneCell') = true)
    (K : ∀ w1, w1.heap[g]? = some (.cells cells t (0, 0)) → w.grownBy w1 (some g) → wpList P ops Q rest (a.put o.dst undef) w1) : wpList P ops Q (o :: rest) a w :=
  wpList_store_row hgd ty x y ho g cells hx hy t old hg hi hold h1 (K _ (setRow_heap w g old cells t (0, 0) hg) ⟨rfl, rfl, rfl, by simp, fun k _ hk => setRow_other w g k cells (fun e => hk (by rw [e]))⟩)
theorem ev_load (hgd : o.guard = none) (ty : TypeId) (x : Operand) (ho : o.op = .load ty x) (g : Nat) (cells : Array Value) (hx : a.eval x = .pointer (some ⟨g, 0, none⟩)) {t : TypeId} (hg : w.heap[g]? = some (.cells cells t (0, 0)))
    (d : TypeDesc) (hu : P.underlying ty = some d) (hd : d.isRow = true) (hi : (P.info? ty).map (·.size) = some cells.size)
    (K : wpList P ops Q rest (a.put o.dst (.agg cells)) w) : wpList P ops Q (o :: rest) a w :=
  wpList_load_mid hgd ty x ho g 0 hx cells.toList d (fun j v hj => by rw [Nat.zero_add, blk_cell hg j]; simpa using hj) hu hd (by simpa using hi) (by simpa using K)
end
theorem size36 : (Try.prog.info? 36).map (·.size) = some 8 := by kernel_rfl
theorem one36 (f0 f1 f2 f3 f4 : Int) (f5 f6 : Bool) (A : Option Addr) (n c : Nat) : (#[.int .i64 f0, .int .u64 f1, .int .i64 f2, .int .u64 f3, .int .i64 f4, .bool f5, .bool f6, .slice A n c] : Array Value).all (·.oneCell') = true := by simp [Value.oneCell']
/-- Is an op kept without what picks; and as what? -/
def qk (o : S36) : Bool := !(decide (o.f0 = 6) || decide (o.f0 = 7))
def clr (o : S36) : S36 := ⟨o.f0, o.f1, o.f2, o.f3, o.f4, []⟩
def quietN (l : List S36) : List S36 := (l.filter qk).map clr
theorem quietN_yes {l : List S36} {o : S36} (h6 : ¬ o.f0 = 6) (h7 : ¬ o.f0 = 7) : quietN (l ++ [o]) = quietN l ++ [clr o] := by
  unfold quietN
  rw [List.filter_append, List.map_append]
  simp [qk, h6, h7]
theorem quietN_no {l : List S36} {o : S36} (h : o.f0 = 6 ∨ o.f0 = 7) : quietN (l ++ [o]) = quietN l := by
  unfold quietN
  rw [List.filter_append, List.map_append]
  rcases h with h | h <;> simp [qk, h]
theorem quietN_le (l : List S36) (i : Nat) : (quietN (l.take i)).length ≤ (quietN l).length := by
  conv => rhs; rw [← List.take_append_drop i l]
  unfold quietN
  rw [List.filter_append, List.map_append, List.length_append]
  omega
theorem take_snoc {α : Type} {l : List α} {i : Nat} {d : α} (h : l[i]? = some d) : l.take (i + 1) = l.take i ++ [d] := by
  rw [List.take_add_one, h]
  rfl
theorem getD_some (l : List S36) (i : Nat) (h : i < l.length) : l[i]? = some (rd_T36 l (i : Int)) := by
  unfold rd_T36
  rw [Int.toNat_natCast, List.getD_eq_getElem?_getD, List.getElem?_eq_getElem h]
  rfl
/-- A post: new ops. -/
def NewOps (w : World) (l : List S36) (e : Ending) (w' : World) : Prop := ∃ v : Value, e = .returned v ∧ Kd.S k36 36 w' w.heap.size (fun _ => True) v l ∧ Below w.heap.size w w'
set_option maxHeartbeats 2000000 in
set_option maxRecDepth 100000 in
theorem rquiet_any (A0 : Option Addr) (c0 : Nat) (l0 : List S36) (w : World) (hr0 : Kd.C k36 w A0 l0.length l0) (hq : (quietN l0).length ≤ 1954687338268) : Calls Try.prog 20 #[.slice A0 l0.length c0] w (NewOps w (quietN l0)) := by
  have hlen := hr0.2.1
  replace hr0 := Lib.hid hr0
  replace hq := Lib.hid hq
  go_enter Try.func20, Try.ntmps20
  go_wp2_with fail
  go_loopw [3, 4] (fun y3 y4 wr => ∃ i : Nat, y4 = .int .i64 (i : Int) ∧ i ≤ l0.length ∧ Hid (Kd.S k36 36 wr w.heap.size (fun _ => True) y3 (quietN (l0.take i))) ∧ Hid (Below w.heap.size w wr)) (fun _ y4 _ => l0.length - (intOf y4).toNat)
  case atStart => exact ⟨0, rfl, by omega, Lib.hid (Kd.S_nil _ _ _ _ _), Lib.hid (Below.refl _ _)⟩
  case round =>
    obtain ⟨i, rfl, hi, HS, HB⟩ := hrel
    by_cases hlt : i < l0.length
    · have hlt2 : (i : Int) < (l0.length : Int) := by omega
      obtain ⟨ad, A7, c7, rfl, h0, h1, h2, h3, h4, h5, h6, h7, hl7, hC7⟩ := at_T36 hr0.out (i : Int) (by omega) hlt2
      have hsn := getD_some l0 i hlt
      rw [Int.toNat_natCast] at h0 h1 h2 h3 h4 h5 h6 h7
      generalize rd_T36 l0 (i : Int) = op at *
      replace hsn := Lib.hid (take_snoc hsn)
      have mv : ∀ {p : Addr} {v : Value}, w.cell? p = some v → wr.cell? p = some v := fun {p v} h => (HB.out.cell (World.block_lt_of_cell? w p h)).trans h
      replace h0 := mv h0
      replace h1 := mv h1
      replace h2 := mv h2
      replace h3 := mv h3
      replace h4 := mv h4
      replace h5 := mv h5
      replace h6 := mv h6
      replace h7 := mv h7
      clear mv hl7 hC7
      obtain ⟨f0, f1, f2, f3, ⟨f4, f5, f6⟩, p⟩ := op
      simp only at h0 h1 h2 h3 h4 h5 h6 h7
      by_cases k6 : f0 = 6
      · subst k6
        go_wp2_with fail
        go_roundw
        case rel => exact ⟨i + 1, by go_num, by omega, Lib.hid (by rw [hsn.out, quietN_no (.inl rfl)]; exact HS.out), HB⟩
        case measure => simp [intOf] <;> omega
      · by_cases k7 : f0 = 7
        · subst k7
          go_wp2_with fail
          go_roundw
          case rel => exact ⟨i + 1, by go_num, by omega, Lib.hid (by rw [hsn.out, quietN_no (.inr rfl)]; exact HS.out), HB⟩
          case measure => simp [intOf] <;> omega
        · have hbig : (quietN (l0.take i)).length < 1954687338268 := by
            have h1 := quietN_le l0 (i + 1)
            rw [hsn.out, quietN_yes k6 k7, List.length_append, List.length_singleton] at h1
            have h2 := hq.out
            omega
          replace hbig := Lib.hid hbig
          have k6b : (f0 == 6) = false := beq_eq_false_iff_ne.mpr k6
          have k7b : (f0 == 7) = false := beq_eq_false_iff_ne.mpr k7
          have k6c : (f0 != 6) = true := bne_iff_ne.mpr k6
          have k7c : (f0 != 7) = true := bne_iff_ne.mpr k7
          go_wp2_with (first | ((with_reducible refine gate_dst (N := 5) rfl ?_); refine box_event ?hg (N := 5) ?hd (cs := #[.int .i64 0, .int .u64 0, .int .i64 0, .int .u64 0, .int .i64 0, .bool false, .bool false, .slice none 0 0]) (t := 36) ?hr ?_; (case hd => rfl); (case hg => rfl); (case hr => first | (go_simp; done) | (go_simp; rfl)); intro gb hgb w7 hbox hb; have HS7 := Lib.hid (Kd.S_below (Kd.S_elderB HS.out gb (Nat.le_of_eq hgb.symm)) hb); have HB7 := Lib.hid (below_step HB.out hb); have hge : w.heap.size ≤ gb := (by rw [hgb]; exact HB.out.size); clear hb hgb) | (refine (ev_store rfl 36 (.tmp 5) (.tmp 29) rfl gb #[.int .i64 f0, .int .u64 f1, .int .i64 f2, .int .u64 f3, .int .i64 f4, .bool f5, .bool f6, .slice A7 p.length c7] rfl rfl 36 _ hbox size36 rfl (one36 ..) ?_); intro w8 hbox8 hg8; have HS8 := Lib.hid (Kd.S_grown HS7.out hg8 (fun k hk e => hk.2 (Option.some.inj e))); have HB8 := Lib.hid (HB7.out.grown hg8 (Nat.le_trans HB7.out.size (Nat.le_refl _)) (fun k hk => by cases hk; exact hge)); have hc8 : w8.cell? ⟨gb, 7, none⟩ = some (.slice A7 p.length c7) := (blk_cell hbox8 7).trans rfl; have hf8 := blk_frozen hbox8 7; have hc0 : w8.cell? ⟨gb, 0, none⟩ = some (.int .i64 f0) := (blk_cell hbox8 0).trans rfl; replace hbox8 := Lib.hid hbox8; clear hg8 HS7 HB7 hbox) | (refine ev_load rfl 36 (.tmp 5) rfl gb #[.int .i64 f0, .int .u64 f1, .int .i64 f2, .int .u64 f3, .int .i64 f4, .bool f5, .bool f6, .slice none 0 0] rfl (blk_put hbox8.out 7 _ rfl) _ Try.underlying36 rfl size36 ?_) | ((with_reducible refine gate_builtin (b := .append) (xs := #[.tmp 31, .tmp 33]) rfl ?_); at_builtin; (refine Kd.S_append k36 (w0 := w) w.heap.size rfl (.tmp 31) (.tmp 33) 22 36 (.agg #[(.int .i64 0), (.int .u64 0), (.int .i64 0), (.int .u64 0), (.int .i64 0), (.bool false), (.bool false), (.slice none 0 0)]) 72 rfl Try.underlying22 info36 rfl (by decide) (by omega) u3 (quietN (l0.take i)) (clr ⟨f0, f1, f2, f3, ⟨f4, f5, f6⟩, p⟩) [.int .i64 f0, .int .u64 f1, .int .i64 f2, .int .u64 f3, .int .i64 f4, .bool f5, .bool f6, .slice none 0 0] (fun k_ => k_ ≠ gb) (fun _ => False) rfl (by first | (go_simp; done) | (go_simp; rfl)) ?aP (fun k_ hk_ => hk_.elim) ?aF ?aO ?aB ?aS ?aL ?_); (case aP => exact k36_mkM _ _ _ _ (Kd.R_nil _ _ _ _ _)); (case aF => intro k hk e; have := blk_lt hbox8.out; simp at hk; omega); (case aO => exact Kd.S_mono (Kd.S_far HS8.out (fun k hk => hk.2) _) (fun k hk => ⟨hk.2, fun h => h⟩)); (case aB => exact HB8.out.setCell hge _); (case aS => have := HB8.out.size; simp; omega); (case aL => have := hbig.out; omega); intro v9 w9 hS9 hB9 hg9 hn9; have HS9 := Lib.hid hS9; have HB9 := Lib.hid hB9; clear hS9 hB9 hg9 hn9))
          have hn : quietN (l0.take (i + 1)) = quietN (l0.take i) ++ [clr ⟨f0, f1, f2, f3, ⟨f4, f5, f6⟩, p⟩] := by rw [hsn.out, quietN_yes k6 k7]
          try go_wp2_with fail
          go_roundw
          case rel => exact ⟨i + 1, by go_num, by omega, Lib.hid (by rw [hn]; exact Kd.S_mono HS9.out (fun _ _ => trivial)), HB9⟩
          case measure => simp [intOf] <;> omega
    · have hlt2 : ¬ (i : Int) < (l0.length : Int) := by omega
      go_wp2_with fail
      go_ret
      refine ⟨_, rfl, ?_, HB.out⟩
      have e : l0.take i = l0 := List.take_of_length_le (by omega)
      rw [e] at HS
      exact HS.out
set_option maxHeartbeats 2000000 in
set_option maxRecDepth 100000 in
theorem quiet_any (A0 : Option Addr) (c0 : Nat) (l0 : List S36) (w : World) (hr0 : Kd.C k36 w A0 l0.length l0) (hq : (quietN l0).length ≤ 1954687338268) : Calls Try.prog 19 #[.slice A0 l0.length c0] w (NewOps w (quietN l0)) := by
  have hlen := hr0.2.1
  replace hr0 := Lib.hid hr0
  replace hq := Lib.hid hq
  go_enter Try.func19, Try.ntmps19
  go_wp2_with fail
  go_loopw [3, 8] (fun y3 y4 wr => ∃ i : Nat, y4 = .int .i64 (i : Int) ∧ i ≤ l0.length ∧ Hid (Kd.S k36 36 wr w.heap.size (fun _ => True) y3 (quietN (l0.take i))) ∧ Hid (Below w.heap.size w wr)) (fun _ y4 _ => l0.length - (intOf y4).toNat)
  case atStart => exact ⟨0, rfl, by omega, Lib.hid (Kd.S_nil _ _ _ _ _), Lib.hid (Below.refl _ _)⟩
  case round =>
    obtain ⟨i, rfl, hi, HS, HB⟩ := hrel
    by_cases hlt : i < l0.length
    · have hlt2 : (i : Int) < (l0.length : Int) := by omega
      obtain ⟨ad, A7, c7, rfl, h0, h1, h2, h3, h4, h5, h6, h7, hl7, hC7⟩ := at_T36 hr0.out (i : Int) (by omega) hlt2
      have hsn := getD_some l0 i hlt
      rw [Int.toNat_natCast] at h0 h1 h2 h3 h4 h5 h6 h7
      generalize rd_T36 l0 (i : Int) = op at *
      replace hsn := Lib.hid (take_snoc hsn)
      have mv : ∀ {p : Addr} {v : Value}, w.cell? p = some v → wr.cell? p = some v := fun {p v} h => (HB.out.cell (World.block_lt_of_cell? w p h)).trans h
      replace h0 := mv h0
      replace h1 := mv h1
      replace h2 := mv h2
      replace h3 := mv h3
      replace h4 := mv h4
      replace h5 := mv h5
      replace h6 := mv h6
      replace h7 := mv h7
      clear mv hl7 hC7
      obtain ⟨f0, f1, f2, f3, ⟨f4, f5, f6⟩, p⟩ := op
      simp only at h0 h1 h2 h3 h4 h5 h6 h7
      by_cases k6 : f0 = 6
      · subst k6
        go_wp2_with (first | ((with_reducible refine gate_dst (N := 5) rfl ?_); refine box_event ?hg (N := 5) ?hd (cs := #[.int .i64 0, .int .u64 0, .int .i64 0, .int .u64 0, .int .i64 0, .bool false, .bool false, .slice none 0 0]) (t := 36) ?hr ?_; (case hd => rfl); (case hg => rfl); (case hr => first | (go_simp; done) | (go_simp; rfl)); intro gb hgb w7 hbox hb; have HS7 := Lib.hid (Kd.S_below (Kd.S_elderB HS.out gb (Nat.le_of_eq hgb.symm)) hb); have HB7 := Lib.hid (below_step HB.out hb); have hge : w.heap.size ≤ gb := (by rw [hgb]; exact HB.out.size); clear hb hgb) | (refine (ev_store rfl 36 (.tmp 5) (.tmp 11) rfl gb #[.int .i64 6, .int .u64 f1, .int .i64 f2, .int .u64 f3, .int .i64 f4, .bool f5, .bool f6, .slice A7 p.length c7] rfl rfl 36 _ hbox size36 rfl (one36 ..) ?_); intro w8 hbox8 hg8; have HS8 := Lib.hid (Kd.S_grown HS7.out hg8 (fun k hk e => hk.2 (Option.some.inj e))); have HB8 := Lib.hid (HB7.out.grown hg8 (Nat.le_trans HB7.out.size (Nat.le_refl _)) (fun k hk => by cases hk; exact hge)); have hc8 : w8.cell? ⟨gb, 7, none⟩ = some (.slice A7 p.length c7) := (blk_cell hbox8 7).trans rfl; have hf8 := blk_frozen hbox8 7; have hc0 : w8.cell? ⟨gb, 0, none⟩ = some (.int .i64 6) := (blk_cell hbox8 0).trans rfl; replace hbox8 := Lib.hid hbox8; clear hg8 HS7 HB7 hbox))
        go_roundw
        case rel => exact ⟨i + 1, by go_num, by omega, Lib.hid (by rw [hsn.out, quietN_no (.inl rfl)]; exact Kd.S_mono HS8.out (fun _ _ => trivial)), HB8⟩
        case measure => simp [intOf] <;> omega
      · by_cases k7 : f0 = 7
        · subst k7
          go_wp2_with (first | ((with_reducible refine gate_dst (N := 5) rfl ?_); refine box_event ?hg (N := 5) ?hd (cs := #[.int .i64 0, .int .u64 0, .int .i64 0, .int .u64 0, .int .i64 0, .bool false, .bool false, .slice none 0 0]) (t := 36) ?hr ?_; (case hd => rfl); (case hg => rfl); (case hr => first | (go_simp; done) | (go_simp; rfl)); intro gb hgb w7 hbox hb; have HS7 := Lib.hid (Kd.S_below (Kd.S_elderB HS.out gb (Nat.le_of_eq hgb.symm)) hb); have HB7 := Lib.hid (below_step HB.out hb); have hge : w.heap.size ≤ gb := (by rw [hgb]; exact HB.out.size); clear hb hgb) | (refine (ev_store rfl 36 (.tmp 5) (.tmp 11) rfl gb #[.int .i64 7, .int .u64 f1, .int .i64 f2, .int .u64 f3, .int .i64 f4, .bool f5, .bool f6, .slice A7 p.length c7] rfl rfl 36 _ hbox size36 rfl (one36 ..) ?_); intro w8 hbox8 hg8; have HS8 := Lib.hid (Kd.S_grown HS7.out hg8 (fun k hk e => hk.2 (Option.some.inj e))); have HB8 := Lib.hid (HB7.out.grown hg8 (Nat.le_trans HB7.out.size (Nat.le_refl _)) (fun k hk => by cases hk; exact hge)); have hc8 : w8.cell? ⟨gb, 7, none⟩ = some (.slice A7 p.length c7) := (blk_cell hbox8 7).trans rfl; have hf8 := blk_frozen hbox8 7; have hc0 : w8.cell? ⟨gb, 0, none⟩ = some (.int .i64 7) := (blk_cell hbox8 0).trans rfl; replace hbox8 := Lib.hid hbox8; clear hg8 HS7 HB7 hbox))
          go_roundw
          case rel => exact ⟨i + 1, by go_num, by omega, Lib.hid (by rw [hsn.out, quietN_no (.inr rfl)]; exact Kd.S_mono HS8.out (fun _ _ => trivial)), HB8⟩
          case measure => simp [intOf] <;> omega
        · have hbig : (quietN (l0.take i)).length < 1954687338268 := by
            have h1 := quietN_le l0 (i + 1)
            rw [hsn.out, quietN_yes k6 k7, List.length_append, List.length_singleton] at h1
            have h2 := hq.out
            omega
          replace hbig := Lib.hid hbig
          have k6b : (f0 == 6) = false := beq_eq_false_iff_ne.mpr k6
          have k7b : (f0 == 7) = false := beq_eq_false_iff_ne.mpr k7
          have k6c : (f0 != 6) = true := bne_iff_ne.mpr k6
          have k7c : (f0 != 7) = true := bne_iff_ne.mpr k7
          go_wp2_with (first | ((with_reducible refine gate_dst (N := 5) rfl ?_); refine box_event ?hg (N := 5) ?hd (cs := #[.int .i64 0, .int .u64 0, .int .i64 0, .int .u64 0, .int .i64 0, .bool false, .bool false, .slice none 0 0]) (t := 36) ?hr ?_; (case hd => rfl); (case hg => rfl); (case hr => first | (go_simp; done) | (go_simp; rfl)); intro gb hgb w7 hbox hb; have HS7 := Lib.hid (Kd.S_below (Kd.S_elderB HS.out gb (Nat.le_of_eq hgb.symm)) hb); have HB7 := Lib.hid (below_step HB.out hb); have hge : w.heap.size ≤ gb := (by rw [hgb]; exact HB.out.size); clear hb hgb) | (refine (ev_store rfl 36 (.tmp 5) (.tmp 11) rfl gb #[.int .i64 f0, .int .u64 f1, .int .i64 f2, .int .u64 f3, .int .i64 f4, .bool f5, .bool f6, .slice A7 p.length c7] rfl rfl 36 _ hbox size36 rfl (one36 ..) ?_); intro w8 hbox8 hg8; have HS8 := Lib.hid (Kd.S_grown HS7.out hg8 (fun k hk e => hk.2 (Option.some.inj e))); have HB8 := Lib.hid (HB7.out.grown hg8 (Nat.le_trans HB7.out.size (Nat.le_refl _)) (fun k hk => by cases hk; exact hge)); have hc8 : w8.cell? ⟨gb, 7, none⟩ = some (.slice A7 p.length c7) := (blk_cell hbox8 7).trans rfl; have hf8 := blk_frozen hbox8 7; have hc0 : w8.cell? ⟨gb, 0, none⟩ = some (.int .i64 f0) := (blk_cell hbox8 0).trans rfl; replace hbox8 := Lib.hid hbox8; clear hg8 HS7 HB7 hbox) | (refine ev_load rfl 36 (.tmp 5) rfl gb #[.int .i64 f0, .int .u64 f1, .int .i64 f2, .int .u64 f3, .int .i64 f4, .bool f5, .bool f6, .slice none 0 0] rfl (blk_put hbox8.out 7 _ rfl) _ Try.underlying36 rfl size36 ?_) | ((with_reducible refine gate_builtin (b := .append) (xs := #[.tmp 21, .tmp 23]) rfl ?_); at_builtin; (refine Kd.S_append k36 (w0 := w) w.heap.size rfl (.tmp 21) (.tmp 23) 22 36 (.agg #[(.int .i64 0), (.int .u64 0), (.int .i64 0), (.int .u64 0), (.int .i64 0), (.bool false), (.bool false), (.slice none 0 0)]) 72 rfl Try.underlying22 info36 rfl (by decide) (by omega) u3 (quietN (l0.take i)) (clr ⟨f0, f1, f2, f3, ⟨f4, f5, f6⟩, p⟩) [.int .i64 f0, .int .u64 f1, .int .i64 f2, .int .u64 f3, .int .i64 f4, .bool f5, .bool f6, .slice none 0 0] (fun k_ => k_ ≠ gb) (fun _ => False) rfl (by first | (go_simp; done) | (go_simp; rfl)) ?aP (fun k_ hk_ => hk_.elim) ?aF ?aO ?aB ?aS ?aL ?_); (case aP => exact k36_mkM _ _ _ _ (Kd.R_nil _ _ _ _ _)); (case aF => intro k hk e; have := blk_lt hbox8.out; simp at hk; omega); (case aO => exact Kd.S_mono (Kd.S_far HS8.out (fun k hk => hk.2) _) (fun k hk => ⟨hk.2, fun h => h⟩)); (case aB => exact HB8.out.setCell hge _); (case aS => have := HB8.out.size; simp; omega); (case aL => have := hbig.out; omega); intro v9 w9 hS9 hB9 hg9 hn9; have HS9 := Lib.hid hS9; have HB9 := Lib.hid hB9; clear hS9 hB9 hg9 hn9))
          have hn : quietN (l0.take (i + 1)) = quietN (l0.take i) ++ [clr ⟨f0, f1, f2, f3, ⟨f4, f5, f6⟩, p⟩] := by rw [hsn.out, quietN_yes k6 k7]
          try go_wp2_with fail
          go_roundw
          case rel => exact ⟨i + 1, by go_num, by omega, Lib.hid (by rw [hn]; exact Kd.S_mono HS9.out (fun _ _ => trivial)), HB9⟩
          case measure => simp [intOf] <;> omega
    · have hlt2 : ¬ (i : Int) < (l0.length : Int) := by omega
      go_wp2_with fail
      go_ret
      refine ⟨_, rfl, ?_, HB.out⟩
      have e : l0.take i = l0 := List.take_of_length_le (by omega)
      rw [e] at HS
      exact HS.out
end Go.Proofs.Ytlccjklljlddhaa.Fn
