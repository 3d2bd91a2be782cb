/- The contract of the law's want: what a deed gives, and leaves of the reference's memory. Conditions: those it names. -/
import Derived.Test.YtpkffpcdmglleaaR1
import Derived.Test.YtpkffpcdmglleaaMq
import Derived.Deep.MidRow
set_option linter.unusedVariables false
set_option linter.unusedSimpArgs false
namespace Go.Proofs.Ytpkffpcdmglleaa.RM
open Go.RowKit Go.Proofs.Ytpkffpcdmglleaa.Fn Go.Proofs.YtpkffpcdmglleaaW.PrintWords Go.Proofs.YtpkffpcdmglleaaW.PrintMore
section
variable {P : Program} {ops : Array Oper} {rest : List Oper} {o : Oper} {a : Act} {Q : Exit → Act → World → Prop} {w : World}
theorem ev_store (hgd : o.guard = none) (ty : TypeId) (x y : Operand) (ho : o.op = .store ty x y) (g : Nat) (cells : Array Value) (hx : a.eval x = .pointer (some ⟨g, 0, none⟩)) (hy : a.eval y = .agg cells)
    (t : TypeId) (old : Array Value) (hg : w.heap[g]? = some (.cells old t (0, 0))) (hi : (P.info? ty).map (·.size) = some cells.size) (hold : old.size = cells.size) (h1 : cells.all (·.oneCell') = true)
    (K : ∀ w1, w1.heap[g]? = some (.cells cells t (0, 0)) → w.grownBy w1 (some g) → wpList P ops Q rest (a.put o.dst undef) w1) : wpList P ops Q (o :: rest) a w :=
  wpList_store_row hgd ty x y ho g cells hx hy t old hg hi hold h1 (K _ (setRow_heap w g old cells t (0, 0) hg) ⟨rfl, rfl, rfl, by simp, fun k _ hk => setRow_other w g k cells (fun e => hk (by rw [e]))⟩)
theorem ev_load (hgd : o.guard = none) (ty : TypeId) (x : Operand) (ho : o.op = .load ty x) (g : Nat) (cells : Array Value) (hx : a.eval x = .pointer (some ⟨g, 0, none⟩)) {t : TypeId} (hg : w.heap[g]? = some (.cells cells t (0, 0)))
    (d : TypeDesc) (hu : P.underlying ty = some d) (hd : d.isRow = true) (hi : (P.info? ty).map (·.size) = some cells.size)
    (K : wpList P ops Q rest (a.put o.dst (.agg cells)) w) : wpList P ops Q (o :: rest) a w :=
  wpList_load_mid hgd ty x ho g 0 hx cells.toList d (fun j v hj => by rw [Nat.zero_add, blk_cell hg j]; simpa using hj) hu hd (by simpa using hi) (by simpa using K)
end
theorem size29 : (Try.prog.info? 29).map (·.size) = some 3 := by kernel_rfl
theorem one29 (n : Int) (A1 A2 : Option Addr) (l1 c1 l2 c2 : Nat) : (#[.int .i64 n, .slice A1 l1 c1, .slice A2 l2 c2] : Array Value).all (·.oneCell') = true := by simp [Value.oneCell']
/-- A reference's memory. -/
structure Rm where
  sl : Sl
  tr : List Int
structure Rgot where
  y : Nat
  er : Int
  m : Rm
/-- What deed k at q of x gives, and leaves. -/
def wantN (n : Nat) (m : Rm) (k : Int) (q x : Nat) : Rgot :=
  if k = 1 then (if q < 2 ^ n then ⟨NL.gN (wN m.sl (q / 8 * 8)) (8 * (q % 8)) 8, 0, m⟩ else ⟨0, 2, m⟩)
  else if k = 2 then (if q < 2 ^ n then ⟨0, 0, ⟨sN' m.sl (q / 8 * 8) (NL.sN (wN m.sl (q / 8 * 8)) (8 * (q % 8)) 8 (x % 256)) false, m.tr⟩⟩ else ⟨0, 2, m⟩)
  else if k = 3 then (if q < 2 ^ n then (if q % 8 = 0 then ⟨wN m.sl q, 0, ⟨m.sl, m.tr ++ [(q : Int)]⟩⟩ else ⟨0, 3, m⟩) else ⟨0, 2, m⟩)
  else if k = 4 then (if q < 2 ^ n then (if q % 8 = 0 then ⟨wN m.sl q, 0, m⟩ else ⟨0, 3, m⟩) else ⟨0, 2, m⟩)
  else if k = 5 then (if q < 2 ^ n then (if q % 8 = 0 then ⟨0, 0, ⟨sN' m.sl q x false, m.tr⟩⟩ else ⟨0, 3, m⟩) else ⟨0, 2, m⟩)
  else ⟨0, 0, ⟨m.sl, []⟩⟩
/-- The rows of a reference's memory. -/
def RmAt (w : World) (base : Nat) (P : Nat → Prop) (u1 u2 : Value) (m : Rm) : Prop := Kd.R k85 85 w base P u1 (enc m.sl) ∧ Kd.R (Kd.int .u64) 30 w base P u2 m.tr
/-- A post: a deed's answer, and a new memory. -/
def Wanted (w0 w : World) (n : Nat) (P : Nat → Prop) (o : Rgot) (e : Ending) (w' : World) : Prop :=
  ∃ v1 v2, e = .returned (.tuple #[.agg #[.int .i64 (n : Int), v1, v2], .int .u64 (o.y : Int), .int .i64 o.er]) ∧ RmAt w' w0.heap.size (fun k => P k ∨ w.heap.size ≤ k) v1 v2 o.m ∧ Below w0.heap.size w0 w' ∧ Kept w w' P
set_option maxHeartbeats 2000000 in
theorem want1 {P : Nat → Prop} {u1 u2 : Value} {m : Rm} {n : Nat} (w0 w : World) (hB : Below w0.heap.size w0 w) (h : RmAt w w0.heap.size P u1 u2 m) (q x : Nat) (y : Nat) (er : Int) (hy : y < 256) (hv : dormerref04_Get.f 3000 (n : Int) (enc m.sl) m.tr (q : Int) = some ((y : Int), er)) : Calls Try.prog 12 #[.agg #[.int .i64 (n : Int), u1, u2], .agg #[.int .i64 1, .int .u64 (q : Int), .int .u64 (x : Int)]] w (Wanted w0 w n P ⟨y, er, m⟩) := by
  obtain ⟨A1, c1, rfl, hl1, hC1⟩ := Kd.R_reads h.1
  obtain ⟨A2, c2, rfl, hl2, hC2⟩ := Kd.R_reads h.2
  have hR1 := Lib.hid (Kd.R_mono (ok' := fun k => P k ∧ k < w.heap.size) (Kd.R_bound h.1) (fun k hk => ⟨hk.1, hk.2.2.1⟩))
  have hR2 := Lib.hid (Kd.R_mono (ok' := fun k => P k ∧ k < w.heap.size) (Kd.R_bound h.2) (fun k hk => ⟨hk.1, hk.2.2.1⟩))
  replace hC1 := Lib.hid hC1
  replace hC2 := Lib.hid hC2
  replace hB := Lib.hid hB
  replace hv := Lib.hid hv
  clear h
  go_enter Try.func12, Try.ntmps12
  go_wp2_with (first | ((with_reducible refine gate_dst (N := 2) rfl ?_); refine box_event ?hg (N := 2) ?hd (cs := #[.int .i64 (n : Int), .slice A1 (enc m.sl).length c1, .slice A2 m.tr.length c2]) (t := 29) ?hr ?_; (case hd => rfl); (case hg => rfl); (case hr => first | (go_simp; done) | (go_simp; rfl)); intro g2 hg2 w2 hb2 hB2; replace hg2 := Lib.hid hg2; have X2 := Lib.hid hb2; have L2 := Lib.hid hB2; have s2 := hB2.size; clear hb2 hB2) | ((with_reducible refine gate_dst (N := 3) rfl ?_); refine box_event ?hg (N := 3) ?hd (cs := #[.int .i64 1, .int .u64 (q : Int), .int .u64 (x : Int)]) (t := 34) ?hr ?_; (case hd => rfl); (case hg => rfl); (case hr => first | (go_simp; done) | (go_simp; rfl)); intro g3 hg3 w3 hb3 hB3; replace hg3 := Lib.hid hg3; have X3 := Lib.hid (blk_below X2.out hB3); have D3 := Lib.hid hb3; have L3 := Lib.hid (L2.out.trans (hB3.mono s2)); have s3 := hB3.size; have l3 := blk_lt D3.out; clear hb3 hB3) | ((with_reducible refine gate_dst (N := 4) rfl ?_); refine box_event ?hg (N := 4) ?hd (cs := #[.int .i64 0, .slice none 0 0, .slice none 0 0]) (t := 29) ?hr ?_; (case hd => rfl); (case hg => rfl); (case hr => first | (go_simp; done) | (go_simp; rfl)); intro g4 hg4 w4 hb4 hB4; replace hg4 := Lib.hid hg4; have X4 := Lib.hid (blk_below X3.out hB4); have D4 := Lib.hid (blk_below D3.out hB4); have R4 := Lib.hid hb4; have L4 := Lib.hid (L3.out.trans (hB4.mono (Nat.le_trans s2 s3))); have s4 := hB4.size; have l4 := blk_lt hb4; have e40 : w4.cell? ⟨g3, 0, none⟩ = some (.int .i64 1) := (blk_cell D4.out 0).trans rfl; have e41 : w4.cell? ⟨g3, 1, none⟩ = some (.int .u64 (q : Int)) := (blk_cell D4.out 1).trans rfl; have e42 : w4.cell? ⟨g3, 2, none⟩ = some (.int .u64 (x : Int)) := (blk_cell D4.out 2).trans rfl; clear hb4 hB4) | (refine ev_load rfl 29 (.tmp 2) rfl g2 #[.int .i64 (n : Int), .slice A1 (enc m.sl).length c1, .slice A2 m.tr.length c2] rfl X4.out _ Try.underlying29 rfl size29 ?_))
  have T := Lib.hid (dormerref04_Get.calls 3000 (n : Int) A1 c1 (enc m.sl) A2 c2 m.tr (q : Int) (y : Int) er w4 (Kd.C_below hC1.out L4.out) hl1 (Kd.C_below hC2.out L4.out) hl2 hv.out)
  refine T.out.mono ?_
  rintro e w5 ⟨rfl, hb5⟩
  have X5 := Lib.hid (blk_below X4.out hb5)
  have R5 := Lib.hid (blk_below R4.out hb5)
  have L5 := Lib.hid (L4.out.trans (hb5.mono (Nat.le_trans s2 (Nat.le_trans s3 s4))))
  clear T hb5 X4 R4 D4 e40 e41 e42 X3 X2 D3
  go_wp2_with (first | (refine ev_load rfl 29 (.tmp 2) rfl g2 #[.int .i64 (n : Int), .slice A1 (enc m.sl).length c1, .slice A2 m.tr.length c2] rfl X5.out _ Try.underlying29 rfl size29 ?_) | (refine ev_store rfl 29 (.tmp 4) (.tmp 26) rfl g4 #[.int .i64 (n : Int), .slice A1 (enc m.sl).length c1, .slice A2 m.tr.length c2] rfl rfl 29 _ R5.out size29 rfl (one29 ..) ?_; intro w6 hb6 hg6; have R6 := Lib.hid hb6; have G6 := Lib.hid hg6; clear hb6 hg6))
  refine bodyPost_ret (results_ctt rfl _ _ g4 29 #[.int .i64 (n : Int), .slice A1 (enc m.sl).length c1, .slice A2 m.tr.length c2] (0, 0) _ rfl R6.out Try.underlying29 rfl size29) rfl ?_
  have h4 : w.heap.size ≤ g4 := by have e4 := hg4.out; omega
  refine ⟨_, _, rfl, ⟨Kd.R_mono (Kd.R_grown (Kd.R_below hR1.out L5.out) G6.out (fun k hk e => by have := Option.some.inj e; omega)) (fun k hk => .inl hk.1), Kd.R_mono (Kd.R_grown (Kd.R_below hR2.out L5.out) G6.out (fun k hk e => by have := Option.some.inj e; omega)) (fun k hk => .inl hk.1)⟩, ?_, Kept.of_grown G6.out (Kept.of_below L5.out P) (fun k hk => .inr (by cases hk; exact h4))⟩
  exact (below_step hB.out L5.out).grown G6.out (by have := (below_step hB.out L5.out).size; exact this) (fun k hk => by cases hk; have := hB.out.size; omega)
set_option maxHeartbeats 2000000 in
theorem want4 {P : Nat → Prop} {u1 u2 : Value} {m : Rm} {n : Nat} (w0 w : World) (hB : Below w0.heap.size w0 w) (h : RmAt w w0.heap.size P u1 u2 m) (q x : Nat) (y : Nat) (er : Int) (hy : y < 18446744073709551616) (hv : dormerref04_Peek.f 3000 (n : Int) (enc m.sl) m.tr (q : Int) = some ((y : Int), er)) : Calls Try.prog 12 #[.agg #[.int .i64 (n : Int), u1, u2], .agg #[.int .i64 4, .int .u64 (q : Int), .int .u64 (x : Int)]] w (Wanted w0 w n P ⟨y, er, m⟩) := by
  obtain ⟨A1, c1, rfl, hl1, hC1⟩ := Kd.R_reads h.1
  obtain ⟨A2, c2, rfl, hl2, hC2⟩ := Kd.R_reads h.2
  have hR1 := Lib.hid (Kd.R_mono (ok' := fun k => P k ∧ k < w.heap.size) (Kd.R_bound h.1) (fun k hk => ⟨hk.1, hk.2.2.1⟩))
  have hR2 := Lib.hid (Kd.R_mono (ok' := fun k => P k ∧ k < w.heap.size) (Kd.R_bound h.2) (fun k hk => ⟨hk.1, hk.2.2.1⟩))
  replace hC1 := Lib.hid hC1
  replace hC2 := Lib.hid hC2
  replace hB := Lib.hid hB
  replace hv := Lib.hid hv
  clear h
  go_enter Try.func12, Try.ntmps12
  go_wp2_with (first | ((with_reducible refine gate_dst (N := 2) rfl ?_); refine box_event ?hg (N := 2) ?hd (cs := #[.int .i64 (n : Int), .slice A1 (enc m.sl).length c1, .slice A2 m.tr.length c2]) (t := 29) ?hr ?_; (case hd => rfl); (case hg => rfl); (case hr => first | (go_simp; done) | (go_simp; rfl)); intro g2 hg2 w2 hb2 hB2; replace hg2 := Lib.hid hg2; have X2 := Lib.hid hb2; have L2 := Lib.hid hB2; have s2 := hB2.size; clear hb2 hB2) | ((with_reducible refine gate_dst (N := 3) rfl ?_); refine box_event ?hg (N := 3) ?hd (cs := #[.int .i64 4, .int .u64 (q : Int), .int .u64 (x : Int)]) (t := 34) ?hr ?_; (case hd => rfl); (case hg => rfl); (case hr => first | (go_simp; done) | (go_simp; rfl)); intro g3 hg3 w3 hb3 hB3; replace hg3 := Lib.hid hg3; have X3 := Lib.hid (blk_below X2.out hB3); have D3 := Lib.hid hb3; have L3 := Lib.hid (L2.out.trans (hB3.mono s2)); have s3 := hB3.size; have l3 := blk_lt D3.out; clear hb3 hB3) | ((with_reducible refine gate_dst (N := 4) rfl ?_); refine box_event ?hg (N := 4) ?hd (cs := #[.int .i64 0, .slice none 0 0, .slice none 0 0]) (t := 29) ?hr ?_; (case hd => rfl); (case hg => rfl); (case hr => first | (go_simp; done) | (go_simp; rfl)); intro g4 hg4 w4 hb4 hB4; replace hg4 := Lib.hid hg4; have X4 := Lib.hid (blk_below X3.out hB4); have D4 := Lib.hid (blk_below D3.out hB4); have R4 := Lib.hid hb4; have L4 := Lib.hid (L3.out.trans (hB4.mono (Nat.le_trans s2 s3))); have s4 := hB4.size; have l4 := blk_lt hb4; have e40 : w4.cell? ⟨g3, 0, none⟩ = some (.int .i64 4) := (blk_cell D4.out 0).trans rfl; have e41 : w4.cell? ⟨g3, 1, none⟩ = some (.int .u64 (q : Int)) := (blk_cell D4.out 1).trans rfl; have e42 : w4.cell? ⟨g3, 2, none⟩ = some (.int .u64 (x : Int)) := (blk_cell D4.out 2).trans rfl; clear hb4 hB4) | (refine ev_load rfl 29 (.tmp 2) rfl g2 #[.int .i64 (n : Int), .slice A1 (enc m.sl).length c1, .slice A2 m.tr.length c2] rfl X4.out _ Try.underlying29 rfl size29 ?_))
  have T := Lib.hid (dormerref04_Peek.calls 3000 (n : Int) A1 c1 (enc m.sl) A2 c2 m.tr (q : Int) (y : Int) er w4 (Kd.C_below hC1.out L4.out) hl1 (Kd.C_below hC2.out L4.out) hl2 hv.out)
  refine T.out.mono ?_
  rintro e w5 ⟨rfl, hb5⟩
  have X5 := Lib.hid (blk_below X4.out hb5)
  have R5 := Lib.hid (blk_below R4.out hb5)
  have L5 := Lib.hid (L4.out.trans (hb5.mono (Nat.le_trans s2 (Nat.le_trans s3 s4))))
  clear T hb5 X4 R4 D4 e40 e41 e42 X3 X2 D3
  go_wp2_with (first | (refine ev_load rfl 29 (.tmp 2) rfl g2 #[.int .i64 (n : Int), .slice A1 (enc m.sl).length c1, .slice A2 m.tr.length c2] rfl X5.out _ Try.underlying29 rfl size29 ?_) | (refine ev_store rfl 29 (.tmp 4) (.tmp 63) rfl g4 #[.int .i64 (n : Int), .slice A1 (enc m.sl).length c1, .slice A2 m.tr.length c2] rfl rfl 29 _ R5.out size29 rfl (one29 ..) ?_; intro w6 hb6 hg6; have R6 := Lib.hid hb6; have G6 := Lib.hid hg6; clear hb6 hg6))
  refine bodyPost_ret (results_ctt rfl _ _ g4 29 #[.int .i64 (n : Int), .slice A1 (enc m.sl).length c1, .slice A2 m.tr.length c2] (0, 0) _ rfl R6.out Try.underlying29 rfl size29) rfl ?_
  have h4 : w.heap.size ≤ g4 := by have e4 := hg4.out; omega
  refine ⟨_, _, rfl, ⟨Kd.R_mono (Kd.R_grown (Kd.R_below hR1.out L5.out) G6.out (fun k hk e => by have := Option.some.inj e; omega)) (fun k hk => .inl hk.1), Kd.R_mono (Kd.R_grown (Kd.R_below hR2.out L5.out) G6.out (fun k hk e => by have := Option.some.inj e; omega)) (fun k hk => .inl hk.1)⟩, ?_, Kept.of_grown G6.out (Kept.of_below L5.out P) (fun k hk => .inr (by cases hk; exact h4))⟩
  exact (below_step hB.out L5.out).grown G6.out (by have := (below_step hB.out L5.out).size; exact this) (fun k hk => by cases hk; have := hB.out.size; omega)
set_option maxHeartbeats 2000000 in
theorem want2 {P : Nat → Prop} {u1 u2 : Value} {m : Rm} {n : Nat} (w0 w : World) (hB : Below w0.heap.size w0 w) (h : RmAt w w0.heap.size P u1 u2 m) (q x : Nat) (s' : Sl) (t' : List Int) (y : Nat) (er : Int) (hx : x < 18446744073709551616) (hv : dormerref04_Put.f 3000 (n : Int) (enc m.sl) m.tr (q : Int) ((x % 256 : Nat) : Int) = some ((n : Int), enc s', t', er)) : Calls Try.prog 12 #[.agg #[.int .i64 (n : Int), u1, u2], .agg #[.int .i64 2, .int .u64 (q : Int), .int .u64 (x : Int)]] w (Wanted w0 w n P ⟨0, er, ⟨s', t'⟩⟩) := by
  obtain ⟨A1, c1, rfl, hl1, hC1⟩ := Kd.R_reads h.1
  obtain ⟨A2, c2, rfl, hl2, hC2⟩ := Kd.R_reads h.2
  have hR1 := Lib.hid (Kd.R_mono (ok' := fun k => P k ∧ k < w.heap.size) (Kd.R_bound h.1) (fun k hk => ⟨hk.1, hk.2.2.1⟩))
  have hR2 := Lib.hid (Kd.R_mono (ok' := fun k => P k ∧ k < w.heap.size) (Kd.R_bound h.2) (fun k hk => ⟨hk.1, hk.2.2.1⟩))
  replace hC1 := Lib.hid hC1
  replace hC2 := Lib.hid hC2
  replace hB := Lib.hid hB
  replace hv := Lib.hid hv
  clear h
  go_enter Try.func12, Try.ntmps12
  go_wp2_with (first | ((with_reducible refine gate_dst (N := 2) rfl ?_); refine box_event ?hg (N := 2) ?hd (cs := #[.int .i64 (n : Int), .slice A1 (enc m.sl).length c1, .slice A2 m.tr.length c2]) (t := 29) ?hr ?_; (case hd => rfl); (case hg => rfl); (case hr => first | (go_simp; done) | (go_simp; rfl)); intro g2 hg2 w2 hb2 hB2; replace hg2 := Lib.hid hg2; have X2 := Lib.hid hb2; have L2 := Lib.hid hB2; have s2 := hB2.size; clear hb2 hB2) | ((with_reducible refine gate_dst (N := 3) rfl ?_); refine box_event ?hg (N := 3) ?hd (cs := #[.int .i64 2, .int .u64 (q : Int), .int .u64 (x : Int)]) (t := 34) ?hr ?_; (case hd => rfl); (case hg => rfl); (case hr => first | (go_simp; done) | (go_simp; rfl)); intro g3 hg3 w3 hb3 hB3; replace hg3 := Lib.hid hg3; have X3 := Lib.hid (blk_below X2.out hB3); have D3 := Lib.hid hb3; have L3 := Lib.hid (L2.out.trans (hB3.mono s2)); have s3 := hB3.size; have l3 := blk_lt D3.out; clear hb3 hB3) | ((with_reducible refine gate_dst (N := 4) rfl ?_); refine box_event ?hg (N := 4) ?hd (cs := #[.int .i64 0, .slice none 0 0, .slice none 0 0]) (t := 29) ?hr ?_; (case hd => rfl); (case hg => rfl); (case hr => first | (go_simp; done) | (go_simp; rfl)); intro g4 hg4 w4 hb4 hB4; replace hg4 := Lib.hid hg4; have X4 := Lib.hid (blk_below X3.out hB4); have D4 := Lib.hid (blk_below D3.out hB4); have R4 := Lib.hid hb4; have L4 := Lib.hid (L3.out.trans (hB4.mono (Nat.le_trans s2 s3))); have s4 := hB4.size; have l4 := blk_lt hb4; have e40 : w4.cell? ⟨g3, 0, none⟩ = some (.int .i64 2) := (blk_cell D4.out 0).trans rfl; have e41 : w4.cell? ⟨g3, 1, none⟩ = some (.int .u64 (q : Int)) := (blk_cell D4.out 1).trans rfl; have e42 : w4.cell? ⟨g3, 2, none⟩ = some (.int .u64 (x : Int)) := (blk_cell D4.out 2).trans rfl; clear hb4 hB4) | (refine ev_load rfl 29 (.tmp 2) rfl g2 #[.int .i64 (n : Int), .slice A1 (enc m.sl).length c1, .slice A2 m.tr.length c2] rfl X4.out _ Try.underlying29 rfl size29 ?_))
  have T := Lib.hid (dormerref04_Put.calls 3000 (n : Int) (fun k => P k ∧ k < w.heap.size) (.slice A1 (enc m.sl).length c1) (enc m.sl) (fun k => P k ∧ k < w.heap.size) (.slice A2 m.tr.length c2) m.tr (q : Int) ((x % 256 : Nat) : Int) (n : Int) (enc s') t' er w0 w4 (below_step hB.out L4.out) (Kd.R_below hR1.out L4.out) (Kd.R_below hR2.out L4.out) hv.out)
  have q4 : w.heap.size ≤ g4 := by have e4 := hg4.out; omega
  refine T.out.mono ?_
  rintro e w5 ⟨v1, v2, rfl, hr1, hr2, hb5, kp5⟩
  obtain ⟨B1, d1, rfl⟩ := Kd.R_slice hr1
  obtain ⟨B2, d2, rfl⟩ := Kd.R_slice hr2
  have s5 := kp5.1
  have R5 := Lib.hid ((kp5.2 g4 l4 (by rintro (h | h) <;> omega)).trans R4.out)
  replace hr1 := Lib.hid hr1
  replace hr2 := Lib.hid hr2
  replace hb5 := Lib.hid hb5
  replace kp5 := Lib.hid kp5
  clear T X4 R4 D4 e40 e41 e42 X3 X2 D3
  go_wp2_with (first | ((with_reducible refine gate_dst (N := 9) rfl ?_); refine box_event ?hg (N := 9) ?hd (cs := #[.int .i64 0, .slice none 0 0, .slice none 0 0]) (t := 29) ?hr ?_; (case hd => rfl); (case hg => rfl); (case hr => first | (go_simp; done) | (go_simp; rfl)); intro g9 hg9 w6 hb6 hB6; have q9 : g4 < g9 := (by omega); have z9 : w5.heap.size ≤ g9 := (by omega); replace hg9 := Lib.hid hg9; have N6 := Lib.hid hb6; have R6 := Lib.hid (blk_below R5.out hB6); have B6 := Lib.hid hB6; have s6 := hB6.size; clear hb6 hB6) | (refine ev_store rfl 29 (.tmp 9) (.tmp 41) rfl g9 #[.int .i64 (n : Int), .slice B1 (enc s').length d1, .slice B2 t'.length d2] rfl rfl 29 _ N6.out size29 rfl (one29 ..) ?_; intro w7 hb7 hg7; have N7 := Lib.hid hb7; have R7 := Lib.hid (blk_grown R6.out hg7 (by first | (simp; omega) | simp)); have G7 := Lib.hid hg7; have s7 := hg7.size; clear hb7 hg7) | (refine ev_load rfl 29 (.tmp 9) rfl g9 #[.int .i64 (n : Int), .slice B1 (enc s').length d1, .slice B2 t'.length d2] rfl N7.out _ Try.underlying29 rfl size29 ?_) | (refine ev_store rfl 29 (.tmp 4) (.tmp 43) rfl g4 #[.int .i64 (n : Int), .slice B1 (enc s').length d1, .slice B2 t'.length d2] rfl rfl 29 _ R7.out size29 rfl (one29 ..) ?_; intro w8 hb8 hg8; have R8 := Lib.hid hb8; have G8 := Lib.hid hg8; clear hb8 hg8))
  refine bodyPost_ret (results_ctt rfl _ _ g4 29 #[.int .i64 (n : Int), .slice B1 (enc s').length d1, .slice B2 t'.length d2] (0, 0) _ rfl R8.out Try.underlying29 rfl size29) rfl ?_
  refine ⟨_, _, rfl, ⟨Kd.R_mono (Kd.R_grown (Kd.R_grown (Kd.R_below (Kd.R_bound hr1.out) B6.out) G7.out (fun k hk e => by have := Option.some.inj e; have := hk.2.2.1; omega)) G8.out (fun k hk e => by have := Option.some.inj e; rcases hk.1 with (h | h) | h <;> omega)) (fun k hk => by rcases hk.1 with (h | h) | h; exact .inl h.1; exact .inl h.1; exact .inr (by omega)), Kd.R_mono (Kd.R_grown (Kd.R_grown (Kd.R_below (Kd.R_bound hr2.out) B6.out) G7.out (fun k hk e => by have := Option.some.inj e; have := hk.2.2.1; omega)) G8.out (fun k hk e => by have := Option.some.inj e; rcases hk.1 with (h | h) | h <;> omega)) (fun k hk => by rcases hk.1 with (h | h) | h; exact .inl h.1; exact .inl h.1; exact .inr (by omega))⟩, ?_, Kept.of_grown G8.out (Kept.of_grown G7.out ((Kept.of_below L4.out P).then_ (kp5.out.below B6.out) (fun k hk => .inl (hk.elim (fun h => h.1) (fun h => h.1)))) (fun k hk => .inr (by cases hk; omega))) (fun k hk => .inr (by cases hk; omega))⟩
  exact ((below_step hb5.out B6.out).grown G7.out (by have := (below_step hb5.out B6.out).size; exact this) (fun k hk => by cases hk; have := hb5.out.size; omega)).grown G8.out (by have := hb5.out.size; omega) (fun k hk => by cases hk; have := hB.out.size; omega)
set_option maxHeartbeats 2000000 in
theorem want3 {P : Nat → Prop} {u1 u2 : Value} {m : Rm} {n : Nat} (w0 w : World) (hB : Below w0.heap.size w0 w) (h : RmAt w w0.heap.size P u1 u2 m) (q x : Nat) (s' : Sl) (t' : List Int) (y : Nat) (er : Int) (hx : x < 18446744073709551616) (hv : dormerref04_Load.f 3000 (n : Int) (enc m.sl) m.tr (q : Int) = some ((n : Int), enc s', t', (y : Int), er)) : Calls Try.prog 12 #[.agg #[.int .i64 (n : Int), u1, u2], .agg #[.int .i64 3, .int .u64 (q : Int), .int .u64 (x : Int)]] w (Wanted w0 w n P ⟨y, er, ⟨s', t'⟩⟩) := by
  obtain ⟨A1, c1, rfl, hl1, hC1⟩ := Kd.R_reads h.1
  obtain ⟨A2, c2, rfl, hl2, hC2⟩ := Kd.R_reads h.2
  have hR1 := Lib.hid (Kd.R_mono (ok' := fun k => P k ∧ k < w.heap.size) (Kd.R_bound h.1) (fun k hk => ⟨hk.1, hk.2.2.1⟩))
  have hR2 := Lib.hid (Kd.R_mono (ok' := fun k => P k ∧ k < w.heap.size) (Kd.R_bound h.2) (fun k hk => ⟨hk.1, hk.2.2.1⟩))
  replace hC1 := Lib.hid hC1
  replace hC2 := Lib.hid hC2
  replace hB := Lib.hid hB
  replace hv := Lib.hid hv
  clear h
  go_enter Try.func12, Try.ntmps12
  go_wp2_with (first | ((with_reducible refine gate_dst (N := 2) rfl ?_); refine box_event ?hg (N := 2) ?hd (cs := #[.int .i64 (n : Int), .slice A1 (enc m.sl).length c1, .slice A2 m.tr.length c2]) (t := 29) ?hr ?_; (case hd => rfl); (case hg => rfl); (case hr => first | (go_simp; done) | (go_simp; rfl)); intro g2 hg2 w2 hb2 hB2; replace hg2 := Lib.hid hg2; have X2 := Lib.hid hb2; have L2 := Lib.hid hB2; have s2 := hB2.size; clear hb2 hB2) | ((with_reducible refine gate_dst (N := 3) rfl ?_); refine box_event ?hg (N := 3) ?hd (cs := #[.int .i64 3, .int .u64 (q : Int), .int .u64 (x : Int)]) (t := 34) ?hr ?_; (case hd => rfl); (case hg => rfl); (case hr => first | (go_simp; done) | (go_simp; rfl)); intro g3 hg3 w3 hb3 hB3; replace hg3 := Lib.hid hg3; have X3 := Lib.hid (blk_below X2.out hB3); have D3 := Lib.hid hb3; have L3 := Lib.hid (L2.out.trans (hB3.mono s2)); have s3 := hB3.size; have l3 := blk_lt D3.out; clear hb3 hB3) | ((with_reducible refine gate_dst (N := 4) rfl ?_); refine box_event ?hg (N := 4) ?hd (cs := #[.int .i64 0, .slice none 0 0, .slice none 0 0]) (t := 29) ?hr ?_; (case hd => rfl); (case hg => rfl); (case hr => first | (go_simp; done) | (go_simp; rfl)); intro g4 hg4 w4 hb4 hB4; replace hg4 := Lib.hid hg4; have X4 := Lib.hid (blk_below X3.out hB4); have D4 := Lib.hid (blk_below D3.out hB4); have R4 := Lib.hid hb4; have L4 := Lib.hid (L3.out.trans (hB4.mono (Nat.le_trans s2 s3))); have s4 := hB4.size; have l4 := blk_lt hb4; have e40 : w4.cell? ⟨g3, 0, none⟩ = some (.int .i64 3) := (blk_cell D4.out 0).trans rfl; have e41 : w4.cell? ⟨g3, 1, none⟩ = some (.int .u64 (q : Int)) := (blk_cell D4.out 1).trans rfl; have e42 : w4.cell? ⟨g3, 2, none⟩ = some (.int .u64 (x : Int)) := (blk_cell D4.out 2).trans rfl; clear hb4 hB4) | (refine ev_load rfl 29 (.tmp 2) rfl g2 #[.int .i64 (n : Int), .slice A1 (enc m.sl).length c1, .slice A2 m.tr.length c2] rfl X4.out _ Try.underlying29 rfl size29 ?_))
  have T := Lib.hid (dormerref04_Load.calls 3000 (n : Int) (fun k => P k ∧ k < w.heap.size) (.slice A1 (enc m.sl).length c1) (enc m.sl) (fun k => P k ∧ k < w.heap.size) (.slice A2 m.tr.length c2) m.tr (q : Int) (n : Int) (enc s') t' (y : Int) er w0 w4 (below_step hB.out L4.out) (Kd.R_below hR1.out L4.out) (Kd.R_below hR2.out L4.out) hv.out)
  have q4 : w.heap.size ≤ g4 := by have e4 := hg4.out; omega
  refine T.out.mono ?_
  rintro e w5 ⟨v1, v2, rfl, hr1, hr2, hb5, kp5⟩
  obtain ⟨B1, d1, rfl⟩ := Kd.R_slice hr1
  obtain ⟨B2, d2, rfl⟩ := Kd.R_slice hr2
  have s5 := kp5.1
  have R5 := Lib.hid ((kp5.2 g4 l4 (by rintro (h | h) <;> omega)).trans R4.out)
  replace hr1 := Lib.hid hr1
  replace hr2 := Lib.hid hr2
  replace hb5 := Lib.hid hb5
  replace kp5 := Lib.hid kp5
  clear T X4 R4 D4 e40 e41 e42 X3 X2 D3
  go_wp2_with (first | (refine ev_store rfl 29 (.tmp 4) (.tmp 51) rfl g4 #[.int .i64 (n : Int), .slice B1 (enc s').length d1, .slice B2 t'.length d2] rfl rfl 29 _ R5.out size29 rfl (one29 ..) ?_; intro w8 hb8 hg8; have R8 := Lib.hid hb8; have G8 := Lib.hid hg8; clear hb8 hg8))
  refine bodyPost_ret (results_ctt rfl _ _ g4 29 #[.int .i64 (n : Int), .slice B1 (enc s').length d1, .slice B2 t'.length d2] (0, 0) _ rfl R8.out Try.underlying29 rfl size29) rfl ?_
  refine ⟨_, _, rfl, ⟨Kd.R_mono (Kd.R_grown hr1.out G8.out (fun k hk e => by have := Option.some.inj e; rcases hk with (h | h) | h <;> omega)) (fun k hk => by rcases hk with (h | h) | h; exact .inl h.1; exact .inl h.1; exact .inr (by omega)), Kd.R_mono (Kd.R_grown hr2.out G8.out (fun k hk e => by have := Option.some.inj e; rcases hk with (h | h) | h <;> omega)) (fun k hk => by rcases hk with (h | h) | h; exact .inl h.1; exact .inl h.1; exact .inr (by omega))⟩, ?_, Kept.of_grown G8.out ((Kept.of_below L4.out P).then_ kp5.out (fun k hk => .inl (hk.elim (fun h => h.1) (fun h => h.1)))) (fun k hk => .inr (by cases hk; omega))⟩
  exact hb5.out.grown G8.out (by have := hb5.out.size; exact this) (fun k hk => by cases hk; have := hB.out.size; omega)
set_option maxHeartbeats 2000000 in
theorem want5 {P : Nat → Prop} {u1 u2 : Value} {m : Rm} {n : Nat} (w0 w : World) (hB : Below w0.heap.size w0 w) (h : RmAt w w0.heap.size P u1 u2 m) (q x : Nat) (s' : Sl) (t' : List Int) (y : Nat) (er : Int) (hx : x < 18446744073709551616) (hv : dormerref04_Store.f 3000 (n : Int) (enc m.sl) m.tr (q : Int) (x : Int) = some ((n : Int), enc s', t', er)) : Calls Try.prog 12 #[.agg #[.int .i64 (n : Int), u1, u2], .agg #[.int .i64 5, .int .u64 (q : Int), .int .u64 (x : Int)]] w (Wanted w0 w n P ⟨0, er, ⟨s', t'⟩⟩) := by
  obtain ⟨A1, c1, rfl, hl1, hC1⟩ := Kd.R_reads h.1
  obtain ⟨A2, c2, rfl, hl2, hC2⟩ := Kd.R_reads h.2
  have hR1 := Lib.hid (Kd.R_mono (ok' := fun k => P k ∧ k < w.heap.size) (Kd.R_bound h.1) (fun k hk => ⟨hk.1, hk.2.2.1⟩))
  have hR2 := Lib.hid (Kd.R_mono (ok' := fun k => P k ∧ k < w.heap.size) (Kd.R_bound h.2) (fun k hk => ⟨hk.1, hk.2.2.1⟩))
  replace hC1 := Lib.hid hC1
  replace hC2 := Lib.hid hC2
  replace hB := Lib.hid hB
  replace hv := Lib.hid hv
  clear h
  go_enter Try.func12, Try.ntmps12
  go_wp2_with (first | ((with_reducible refine gate_dst (N := 2) rfl ?_); refine box_event ?hg (N := 2) ?hd (cs := #[.int .i64 (n : Int), .slice A1 (enc m.sl).length c1, .slice A2 m.tr.length c2]) (t := 29) ?hr ?_; (case hd => rfl); (case hg => rfl); (case hr => first | (go_simp; done) | (go_simp; rfl)); intro g2 hg2 w2 hb2 hB2; replace hg2 := Lib.hid hg2; have X2 := Lib.hid hb2; have L2 := Lib.hid hB2; have s2 := hB2.size; clear hb2 hB2) | ((with_reducible refine gate_dst (N := 3) rfl ?_); refine box_event ?hg (N := 3) ?hd (cs := #[.int .i64 5, .int .u64 (q : Int), .int .u64 (x : Int)]) (t := 34) ?hr ?_; (case hd => rfl); (case hg => rfl); (case hr => first | (go_simp; done) | (go_simp; rfl)); intro g3 hg3 w3 hb3 hB3; replace hg3 := Lib.hid hg3; have X3 := Lib.hid (blk_below X2.out hB3); have D3 := Lib.hid hb3; have L3 := Lib.hid (L2.out.trans (hB3.mono s2)); have s3 := hB3.size; have l3 := blk_lt D3.out; clear hb3 hB3) | ((with_reducible refine gate_dst (N := 4) rfl ?_); refine box_event ?hg (N := 4) ?hd (cs := #[.int .i64 0, .slice none 0 0, .slice none 0 0]) (t := 29) ?hr ?_; (case hd => rfl); (case hg => rfl); (case hr => first | (go_simp; done) | (go_simp; rfl)); intro g4 hg4 w4 hb4 hB4; replace hg4 := Lib.hid hg4; have X4 := Lib.hid (blk_below X3.out hB4); have D4 := Lib.hid (blk_below D3.out hB4); have R4 := Lib.hid hb4; have L4 := Lib.hid (L3.out.trans (hB4.mono (Nat.le_trans s2 s3))); have s4 := hB4.size; have l4 := blk_lt hb4; have e40 : w4.cell? ⟨g3, 0, none⟩ = some (.int .i64 5) := (blk_cell D4.out 0).trans rfl; have e41 : w4.cell? ⟨g3, 1, none⟩ = some (.int .u64 (q : Int)) := (blk_cell D4.out 1).trans rfl; have e42 : w4.cell? ⟨g3, 2, none⟩ = some (.int .u64 (x : Int)) := (blk_cell D4.out 2).trans rfl; clear hb4 hB4) | (refine ev_load rfl 29 (.tmp 2) rfl g2 #[.int .i64 (n : Int), .slice A1 (enc m.sl).length c1, .slice A2 m.tr.length c2] rfl X4.out _ Try.underlying29 rfl size29 ?_))
  have T := Lib.hid (dormerref04_Store.calls 3000 (n : Int) (fun k => P k ∧ k < w.heap.size) (.slice A1 (enc m.sl).length c1) (enc m.sl) (fun k => P k ∧ k < w.heap.size) (.slice A2 m.tr.length c2) m.tr (q : Int) (x : Int) (n : Int) (enc s') t' er w0 w4 (below_step hB.out L4.out) (Kd.R_below hR1.out L4.out) (Kd.R_below hR2.out L4.out) hv.out)
  have q4 : w.heap.size ≤ g4 := by have e4 := hg4.out; omega
  refine T.out.mono ?_
  rintro e w5 ⟨v1, v2, rfl, hr1, hr2, hb5, kp5⟩
  obtain ⟨B1, d1, rfl⟩ := Kd.R_slice hr1
  obtain ⟨B2, d2, rfl⟩ := Kd.R_slice hr2
  have s5 := kp5.1
  have R5 := Lib.hid ((kp5.2 g4 l4 (by rintro (h | h) <;> omega)).trans R4.out)
  replace hr1 := Lib.hid hr1
  replace hr2 := Lib.hid hr2
  replace hb5 := Lib.hid hb5
  replace kp5 := Lib.hid kp5
  clear T X4 R4 D4 e40 e41 e42 X3 X2 D3
  go_wp2_with (first | ((with_reducible refine gate_dst (N := 13) rfl ?_); refine box_event ?hg (N := 13) ?hd (cs := #[.int .i64 0, .slice none 0 0, .slice none 0 0]) (t := 29) ?hr ?_; (case hd => rfl); (case hg => rfl); (case hr => first | (go_simp; done) | (go_simp; rfl)); intro g9 hg9 w6 hb6 hB6; have q9 : g4 < g9 := (by omega); have z9 : w5.heap.size ≤ g9 := (by omega); replace hg9 := Lib.hid hg9; have N6 := Lib.hid hb6; have R6 := Lib.hid (blk_below R5.out hB6); have B6 := Lib.hid hB6; have s6 := hB6.size; clear hb6 hB6) | (refine ev_store rfl 29 (.tmp 13) (.tmp 75) rfl g9 #[.int .i64 (n : Int), .slice B1 (enc s').length d1, .slice B2 t'.length d2] rfl rfl 29 _ N6.out size29 rfl (one29 ..) ?_; intro w7 hb7 hg7; have N7 := Lib.hid hb7; have R7 := Lib.hid (blk_grown R6.out hg7 (by first | (simp; omega) | simp)); have G7 := Lib.hid hg7; have s7 := hg7.size; clear hb7 hg7) | (refine ev_load rfl 29 (.tmp 13) rfl g9 #[.int .i64 (n : Int), .slice B1 (enc s').length d1, .slice B2 t'.length d2] rfl N7.out _ Try.underlying29 rfl size29 ?_) | (refine ev_store rfl 29 (.tmp 4) (.tmp 77) rfl g4 #[.int .i64 (n : Int), .slice B1 (enc s').length d1, .slice B2 t'.length d2] rfl rfl 29 _ R7.out size29 rfl (one29 ..) ?_; intro w8 hb8 hg8; have R8 := Lib.hid hb8; have G8 := Lib.hid hg8; clear hb8 hg8))
  refine bodyPost_ret (results_ctt rfl _ _ g4 29 #[.int .i64 (n : Int), .slice B1 (enc s').length d1, .slice B2 t'.length d2] (0, 0) _ rfl R8.out Try.underlying29 rfl size29) rfl ?_
  refine ⟨_, _, rfl, ⟨Kd.R_mono (Kd.R_grown (Kd.R_grown (Kd.R_below (Kd.R_bound hr1.out) B6.out) G7.out (fun k hk e => by have := Option.some.inj e; have := hk.2.2.1; omega)) G8.out (fun k hk e => by have := Option.some.inj e; rcases hk.1 with (h | h) | h <;> omega)) (fun k hk => by rcases hk.1 with (h | h) | h; exact .inl h.1; exact .inl h.1; exact .inr (by omega)), Kd.R_mono (Kd.R_grown (Kd.R_grown (Kd.R_below (Kd.R_bound hr2.out) B6.out) G7.out (fun k hk e => by have := Option.some.inj e; have := hk.2.2.1; omega)) G8.out (fun k hk e => by have := Option.some.inj e; rcases hk.1 with (h | h) | h <;> omega)) (fun k hk => by rcases hk.1 with (h | h) | h; exact .inl h.1; exact .inl h.1; exact .inr (by omega))⟩, ?_, Kept.of_grown G8.out (Kept.of_grown G7.out ((Kept.of_below L4.out P).then_ (kp5.out.below B6.out) (fun k hk => .inl (hk.elim (fun h => h.1) (fun h => h.1)))) (fun k hk => .inr (by cases hk; omega))) (fun k hk => .inr (by cases hk; omega))⟩
  exact ((below_step hb5.out B6.out).grown G7.out (by have := (below_step hb5.out B6.out).size; exact this) (fun k hk => by cases hk; have := hb5.out.size; omega)).grown G8.out (by have := hb5.out.size; omega) (fun k hk => by cases hk; have := hB.out.size; omega)
set_option maxHeartbeats 2000000 in
theorem want0 {P : Nat → Prop} {u1 u2 : Value} {m : Rm} {n : Nat} (w0 w : World) (hB : Below w0.heap.size w0 w) (h : RmAt w w0.heap.size P u1 u2 m) (K : Int) (q x : Nat) (k1 : ¬ K = 1) (k2 : ¬ K = 2) (k3 : ¬ K = 3) (k4 : ¬ K = 4) (k5 : ¬ K = 5) : Calls Try.prog 12 #[.agg #[.int .i64 (n : Int), u1, u2], .agg #[.int .i64 K, .int .u64 (q : Int), .int .u64 (x : Int)]] w (Wanted w0 w n P ⟨0, 0, ⟨m.sl, []⟩⟩) := by
  obtain ⟨A1, c1, rfl, hl1, hC1⟩ := Kd.R_reads h.1
  obtain ⟨A2, c2, rfl, hl2, hC2⟩ := Kd.R_reads h.2
  have hR1 := Lib.hid (Kd.R_mono (ok' := fun k => P k ∧ k < w.heap.size) (Kd.R_bound h.1) (fun k hk => ⟨hk.1, hk.2.2.1⟩))
  have hR2 := Lib.hid (Kd.R_mono (ok' := fun k => P k ∧ k < w.heap.size) (Kd.R_bound h.2) (fun k hk => ⟨hk.1, hk.2.2.1⟩))
  replace hC1 := Lib.hid hC1
  replace hC2 := Lib.hid hC2
  replace hB := Lib.hid hB
  clear h
  go_enter Try.func12, Try.ntmps12
  go_wp2_with (first | ((with_reducible refine gate_dst (N := 2) rfl ?_); refine box_event ?hg (N := 2) ?hd (cs := #[.int .i64 (n : Int), .slice A1 (enc m.sl).length c1, .slice A2 m.tr.length c2]) (t := 29) ?hr ?_; (case hd => rfl); (case hg => rfl); (case hr => first | (go_simp; done) | (go_simp; rfl)); intro g2 hg2 w2 hb2 hB2; replace hg2 := Lib.hid hg2; have X2 := Lib.hid hb2; have L2 := Lib.hid hB2; have s2 := hB2.size; clear hb2 hB2) | ((with_reducible refine gate_dst (N := 3) rfl ?_); refine box_event ?hg (N := 3) ?hd (cs := #[.int .i64 K, .int .u64 (q : Int), .int .u64 (x : Int)]) (t := 34) ?hr ?_; (case hd => rfl); (case hg => rfl); (case hr => first | (go_simp; done) | (go_simp; rfl)); intro g3 hg3 w3 hb3 hB3; replace hg3 := Lib.hid hg3; have X3 := Lib.hid (blk_below X2.out hB3); have D3 := Lib.hid hb3; have L3 := Lib.hid (L2.out.trans (hB3.mono s2)); have s3 := hB3.size; have l3 := blk_lt D3.out; clear hb3 hB3) | ((with_reducible refine gate_dst (N := 4) rfl ?_); refine box_event ?hg (N := 4) ?hd (cs := #[.int .i64 0, .slice none 0 0, .slice none 0 0]) (t := 29) ?hr ?_; (case hd => rfl); (case hg => rfl); (case hr => first | (go_simp; done) | (go_simp; rfl)); intro g4 hg4 w4 hb4 hB4; replace hg4 := Lib.hid hg4; have X4 := Lib.hid (blk_below X3.out hB4); have D4 := Lib.hid (blk_below D3.out hB4); have R4 := Lib.hid hb4; have L4 := Lib.hid (L3.out.trans (hB4.mono (Nat.le_trans s2 s3))); have s4 := hB4.size; have l4 := blk_lt hb4; have e40 : w4.cell? ⟨g3, 0, none⟩ = some (.int .i64 K) := (blk_cell D4.out 0).trans rfl; have e41 : w4.cell? ⟨g3, 1, none⟩ = some (.int .u64 (q : Int)) := (blk_cell D4.out 1).trans rfl; have e42 : w4.cell? ⟨g3, 2, none⟩ = some (.int .u64 (x : Int)) := (blk_cell D4.out 2).trans rfl; have c42 : w4.cell? ⟨g2, 2, none⟩ = some (.slice A2 m.tr.length c2) := (blk_cell X4.out 2).trans rfl; have f42 := blk_frozen X4.out 2; clear hb4 hB4) | (refine ev_load rfl 29 (.tmp 2) rfl g2 #[.int .i64 (n : Int), .slice A1 (enc m.sl).length c1, .slice none 0 0] rfl (blk_put X4.out 2 _ rfl) _ Try.underlying29 rfl size29 ?_) | (have h42 : g4 ≠ g2 := (by have e2 := hg2.out; have e3 := hg3.out; have e4 := hg4.out; omega); refine ev_store rfl 29 (.tmp 4) (.tmp 80) rfl g4 #[.int .i64 (n : Int), .slice A1 (enc m.sl).length c1, .slice none 0 0] rfl rfl 29 _ ((Below.heap_setCell w4 ⟨g2, 2, none⟩ _ g4 h42).trans R4.out) size29 rfl (one29 ..) ?_; intro w8 hb8 hg8; have R8 := Lib.hid hb8; have G8 := Lib.hid hg8; clear hb8 hg8))
  refine bodyPost_ret (results_ctt rfl _ _ g4 29 #[.int .i64 (n : Int), .slice A1 (enc m.sl).length c1, .slice none 0 0] (0, 0) _ rfl R8.out Try.underlying29 rfl size29) rfl ?_
  have e2 := hg2.out
  have e3 := hg3.out
  have e4 := hg4.out
  have sB := hB.out.size
  refine ⟨_, _, rfl, ⟨Kd.R_mono (Kd.R_grown (Kd.R_far (Kd.R_below hR1.out L4.out) (fun k hk => by have := hk.2; show k ≠ g2; omega) _) G8.out (fun k hk e => by have := Option.some.inj e; have := hk.2; omega)) (fun k hk => .inl hk.1), Kd.R_nil _ _ _ _ _⟩, ?_, Kept.of_grown G8.out ((Kept.of_below L4.out P).setCell (.inr (show w.heap.size ≤ g2 by omega)) _) (fun k hk => .inr (by cases hk; omega))⟩
  have sL := (below_step hB.out L4.out).size
  exact ((below_step hB.out L4.out).setCell (show w0.heap.size ≤ g2 by omega) _).grown G8.out (by simpa using sL) (fun k hk => by cases hk; omega)
theorem want_any {P : Nat → Prop} {u1 u2 : Value} {m : Rm} {n : Nat} (w0 w : World) (hB : Below w0.heap.size w0 w) (h : RmAt w w0.heap.size P u1 u2 m) (hn : n ≤ 22) (ho : Ok m.sl) (hs : m.sl.length ≤ 1000) (ht : m.tr.length ≤ 1000) (K : Int) (q x : Nat) (hq : q < 18446744073709551616) (hx : x < 18446744073709551616) : Calls Try.prog 12 #[.agg #[.int .i64 (n : Int), u1, u2], .agg #[.int .i64 K, .int .u64 (q : Int), .int .u64 (x : Int)]] w (Wanted w0 w n P (wantN n m K q x)) := by
  unfold wantN
  by_cases k1 : K = 1
  · subst k1
    rw [if_pos rfl]
    have hv := get_f (k := 3000) m.sl n m.tr q ho hn hq hs (by omega)
    by_cases hb : q < 2 ^ n
    · rw [if_pos hb] at hv ⊢
      exact want1 w0 w hB h q x _ 0 (NL.gN_lt _ _ 8) hv
    · rw [if_neg hb] at hv ⊢
      exact want1 w0 w hB h q x 0 2 (by omega) hv
  rw [if_neg k1]
  by_cases k2 : K = 2
  · subst k2
    rw [if_pos rfl]
    have hv := put_f (k := 3000) m.sl n m.tr q (x % 256) ho hn hq (by omega) hs (by omega)
    by_cases hb : q < 2 ^ n
    · rw [if_pos hb] at hv ⊢
      exact want2 w0 w hB h q x _ m.tr 0 0 hx hv
    · rw [if_neg hb] at hv ⊢
      exact want2 w0 w hB h q x m.sl m.tr 0 2 hx hv
  rw [if_neg k2]
  by_cases k3 : K = 3
  · subst k3
    rw [if_pos rfl]
    have hv := load_f (k := 3000) m.sl n m.tr q hn hs ht (by omega)
    by_cases hb : q < 2 ^ n
    · rw [if_pos hb] at hv ⊢
      by_cases h8 : q % 8 = 0
      · rw [if_pos h8] at hv ⊢
        exact want3 w0 w hB h q x m.sl _ _ 0 hx hv
      · rw [if_neg h8] at hv ⊢
        exact want3 w0 w hB h q x m.sl m.tr 0 3 hx hv
    · rw [if_neg hb] at hv ⊢
      exact want3 w0 w hB h q x m.sl m.tr 0 2 hx hv
  rw [if_neg k3]
  by_cases k4 : K = 4
  · subst k4
    rw [if_pos rfl]
    have hv := peek_f (k := 3000) m.sl n m.tr q hn hs (by omega)
    by_cases hb : q < 2 ^ n
    · rw [if_pos hb] at hv ⊢
      by_cases h8 : q % 8 = 0
      · rw [if_pos h8] at hv ⊢
        exact want4 w0 w hB h q x _ 0 (wN_lt ho _) hv
      · rw [if_neg h8] at hv ⊢
        exact want4 w0 w hB h q x 0 3 (by omega) hv
    · rw [if_neg hb] at hv ⊢
      exact want4 w0 w hB h q x 0 2 (by omega) hv
  rw [if_neg k4]
  by_cases k5 : K = 5
  · subst k5
    rw [if_pos rfl]
    have hv := store_f (k := 3000) m.sl n m.tr q x hn hs (by omega)
    by_cases hb : q < 2 ^ n
    · rw [if_pos hb] at hv ⊢
      by_cases h8 : q % 8 = 0
      · rw [if_pos h8] at hv ⊢
        exact want5 w0 w hB h q x _ m.tr 0 0 hx hv
      · rw [if_neg h8] at hv ⊢
        exact want5 w0 w hB h q x m.sl m.tr 0 3 hx hv
    · rw [if_neg hb] at hv ⊢
      exact want5 w0 w hB h q x m.sl m.tr 0 2 hx hv
  rw [if_neg k5]
  exact want0 w0 w hB h K q x k1 k2 k3 k4 k5
end Go.Proofs.Ytpkffpcdmglleaa.RM
