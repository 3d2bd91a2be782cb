/- By hand: contracts of script.said and script.Decode. Conditions: those each contract names. -/
import Derived.Test.YtlccjklljlddhaaFnE
import Derived.Test.YtlccjklljlddhaaNF
import Derived.Deep.MidRow
namespace Go.Proofs.Ytlccjklljlddhaa.Fn
open Go.RowKit Go.Proofs.Ytlccjklljlddhaa.NL Go.Proofs.YtlccjklljlddhaaW.PrintWords Go.Proofs.YtlccjklljlddhaaW.PrintLast Go.Proofs.YtlccjklljlddhaaW.PrintMore
set_option linter.unusedVariables false
set_option linter.unusedSimpArgs false
section
variable {P : Program} {ops : Array Oper} {rest : List Oper} {o : Oper} {a : Act} {Q : Exit → Act → World → Prop} {w : World}
theorem run_store_op (ty : TypeId) (x y : Operand) (ho : o.op = .store ty x y) (g i : Nat) (u : Value) (seg : List Value) (hx : a.eval x = .pointer (some ⟨g, i, none⟩)) (hy : a.eval y = u) (hu : u.cells.toList = seg)
    (t : TypeId) (old : Array Value) (hg : w.heap[g]? = some (.cells old t (0, 0))) (hi : (P.info? ty).map (·.size) = some seg.length) (hfit : i + seg.length ≤ old.size) (h1 : ∀ q ∈ seg, q.oneCell' = true) :
    (execOp a.eval o).run P w = .ok .skip (w.setCells g i seg) := by
  unfold execOp
  simp only [ho, hx, hy, Sem.run_bind, run_store_run ty u seg hg hu hi hfit h1, Result.andThen_ok]
  rfl
theorem grown_cells (w : World) (g i : Nat) (seg : List Value) : w.grownBy (w.setCells g i seg) (some g) := by
  induction seg generalizing w i with
  | nil => exact ⟨rfl, rfl, rfl, Nat.le_refl _, fun _ _ _ => rfl⟩
  | cons v r ih =>
    have h1 := ih (w.setCell ⟨g, i, none⟩ v) (i + 1)
    have h0 : w.grownBy (w.setCell ⟨g, i, none⟩ v) (some g) := ⟨rfl, rfl, rfl, by simp [World.setCell], fun k _ hk => Below.heap_setCell w ⟨g, i, none⟩ v k (fun e => hk (by rw [e]))⟩
    exact ⟨h1.1.trans h0.1, h1.2.trans h0.2, h1.3.trans h0.3, Nat.le_trans h0.4 h1.4, fun k hk hne => (h1.5 k (Nat.lt_of_lt_of_le hk h0.4) hne).trans (h0.5 k hk hne)⟩
theorem ev_put (hgd : o.guard = none) (ty : TypeId) (x y : Operand) (ho : o.op = .store ty x y) (g i : Nat) (v : Value) (hx : a.eval x = .pointer (some ⟨g, i, none⟩)) (hy : a.eval y = v) (hv : v.cells.toList = [v]) (hv1 : v.oneCell' = true)
    (t : TypeId) (old : Array Value) (hg : w.heap[g]? = some (.cells old t (0, 0))) (hi : (P.info? ty).map (·.size) = some 1) (hfit : i + 1 ≤ old.size)
    (K : ∀ w1, w1.heap[g]? = some (.cells (old.setIfInBounds i v) t (0, 0)) → w.grownBy w1 (some g) → wpList P ops Q rest (a.put o.dst undef) w1) : wpList P ops Q (o :: rest) a w := by
  refine wpList_plain hgd fun K' hK' => ?_
  unfold Oper.wp
  rw [run_store_op ty x y ho g i v [v] hx hy hv t old hg hi (by simpa using hfit) (by simpa using hv1)]
  exact hK' _ _ (K _ (blk_put hg i v rfl) (grown_cells w g i [v]))
end
theorem size31 : (Try.prog.info? 31).map (·.size) = some 1 := by kernel_rfl
theorem size34 : (Try.prog.info? 34).map (·.size) = some 1 := by kernel_rfl
theorem and64_d : ∀ a : Fin 256, (Go.bits .and .i64 ((a.val : Nat) : Int) 64 != 0) = decide (a.val / 64 % 2 = 1) := by decide +kernel
theorem and128_d : ∀ a : Fin 256, (Go.bits .and .i64 ((a.val : Nat) : Int) 128 != 0) = decide (128 ≤ a.val) := by decide +kernel
theorem tm8 {b : Nat} (h : b < 256) : wrap64 (Int.tmod (wrap64 (b : Int)) 8 + 1) = (b : Int) % 8 + 1 := by
  rw [show wrap64 (b : Int) = b by unfold wrap64; omega, show Int.tmod (b : Int) 8 = (b : Int) % 8 from Int.tmod_eq_emod_of_nonneg (by omega)]
  unfold wrap64
  omega
/-- What 23 bytes say. -/
def saidN (bs : List Nat) : S36 := ⟨((bs.getD 0 0 : Nat) : Int) % 8 + 1, ((valN ((bs.take 11).drop 3) : Nat) : Int), ((bs.getD 2 0 : Nat) : Int), ((valN ((bs.take 19).drop 11) : Nat) : Int),
  ⟨((bs.getD 1 0 : Nat) : Int) % 64, decide (bs.getD 1 0 / 64 % 2 = 1), decide (128 ≤ bs.getD 1 0)⟩, ints (bs.drop 19)⟩
theorem ints_take (bs : List Nat) (i : Nat) : ints (bs.take i) = (ints bs).take i := by simp [ints, List.map_take]
theorem ints_drop (bs : List Nat) (i : Nat) : ints (bs.drop i) = (ints bs).drop i := by simp [ints, List.map_drop]
theorem rd_ints (bs : List Nat) (i : Nat) : rd (ints bs) (i : Int) = ((bs.getD i 0 : Nat) : Int) := by
  unfold rd
  rw [Int.toNat_natCast, ints_getD]
theorem cell_of_C {w : World} {ad : Addr} {n : Nat} {bs : List Nat} (h : Kd.C (Kd.int .u8) w (some ad) n (ints bs)) (i : Nat) (hi : i < n) : w.cell? (ad.add i) = some (.int .u8 ((bs.getD i 0 : Nat) : Int)) := by
  obtain ⟨ad', e, hx⟩ := Kd.at_int h (i : Int) (by omega) (by omega)
  cases e
  rw [rd_ints, Int.toNat_natCast] at hx
  exact hx
theorem cut_C {w : World} {A : Option Addr} {c : Nat} {bs : List Nat} (l h : Nat) (hl : l ≤ h) (hh : h ≤ bs.length) (hc : bs.length ≤ c) (hC : Kd.C (Kd.int .u8) w A (ints bs).length (ints bs)) :
    ∃ A' : Option Addr, (∀ W : World, (Instr.slice 23 (.slice A (ints bs).length c) (some (.int .i64 (l : Int))) (some (.int .i64 (h : Int))) none).run Try.prog W = .ok (.slice A' (h - l) (c - l)) W) ∧
      Kd.C (Kd.int .u8) w A' (ints ((bs.take h).drop l)).length (ints ((bs.take h).drop l)) ∧ (ints ((bs.take h).drop l)).length = h - l := by
  obtain ⟨i0, hi0, _, hsz0, _⟩ := info_parts info5
  obtain ⟨A', h1, h2, h3⟩ := print_mid_of (P := Try.prog) (Value.int .u8) 0 23 5 .i64 .i64 Try.underlying23 hi0 hsz0 A c (ints bs) (l : Int) (h : Int) (by omega) (by omega) (by rw [ints_length]; omega) (by rw [ints_length]; exact hc)
  have e : ((ints bs).take h).drop l = ints ((bs.take h).drop l) := by rw [ints_drop, ints_take]
  have el : (ints ((bs.take h).drop l)).length = h - l := by rw [ints_length, List.length_drop, List.length_take]; omega
  simp only [Int.toNat_natCast] at h1 h2
  rw [e] at h2
  refine ⟨A', fun W => ?_, Kd.C_of_reads (h1 := fun _ => rfl) (h2 w (Kd.reads_of_C hC)), el⟩
  rw [h1 W, e, el]

/-- A post: an op out of bytes. -/
def NewOp (w : World) (o : S36) (e : Ending) (w' : World) : Prop := ∃ A c, e = .returned (.agg #[.int .i64 o.f0, .int .u64 o.f1, .int .i64 o.f2, .int .u64 o.f3, .int .i64 o.f4.f0, .bool o.f4.f1, .bool o.f4.f2, .slice A o.f5.length c]) ∧ Kd.R (Kd.int .i64) 3 w' w.heap.size (fun _ => True) (.slice A o.f5.length c) o.f5 ∧ Below w.heap.size w w'
set_option maxHeartbeats 4000000 in
set_option maxRecDepth 100000 in
theorem said_any (bs : List Nat) (hl : bs.length = 23) (hb : ∀ b ∈ bs, b < 256) (A : Option Addr) (c : Nat) (hc : 23 ≤ c) (w : World) (hC : Kd.C (Kd.int .u8) w A (ints bs).length (ints bs)) : Calls Try.prog 25 #[.slice A 23 c] w (NewOp w (saidN bs)) := by
  have h23 : (ints bs).length = 23 := by rw [ints_length, hl]
  obtain ⟨A3, cut3, C3, l3⟩ := cut_C (bs := bs) (A := A) (c := c) 3 11 (by omega) (by omega) (by omega) hC
  obtain ⟨A11, cut11, C11, l11⟩ := cut_C (bs := bs) (A := A) (c := c) 11 19 (by omega) (by omega) (by omega) hC
  obtain ⟨A19, cut19, C19, l19⟩ := cut_C (bs := bs) (A := A) (c := c) 19 23 (by omega) (by omega) (by omega) hC
  rw [h23] at cut3 cut11 cut19
  have eD : ints ((bs.take 23).drop 19) = ints (bs.drop 19) := by rw [List.take_of_length_le (by omega)]
  rw [eD] at C19 l19
  have F3 := NF.from_ (k := 9) (bs := (bs.take 11).drop 3) (by omega) (by rw [List.length_drop, List.length_take]; omega) (fun b h => hb b (List.mem_of_mem_take (List.mem_of_mem_drop h)))
  have F11 := NF.from_ (k := 9) (bs := (bs.take 19).drop 11) (by omega) (by rw [List.length_drop, List.length_take]; omega) (fun b h => hb b (List.mem_of_mem_take (List.mem_of_mem_drop h)))
  have hpos : 0 < (ints bs).length := by omega
  obtain ⟨ad, rfl, _⟩ := hC.2.2 hpos
  have c0w : w.cell? ad = some (.int .u8 ((bs.getD 0 0 : Nat) : Int)) := cell_of_C hC 0 (by omega)
  have c1w : w.cell? ⟨ad.block, ad.off + 1, none⟩ = some (.int .u8 ((bs.getD 1 0 : Nat) : Int)) := cell_of_C hC 1 (by omega)
  have c2w : w.cell? ⟨ad.block, ad.off + 2, none⟩ = some (.int .u8 ((bs.getD 2 0 : Nat) : Int)) := cell_of_C hC 2 (by omega)
  have k0 := getD_lt hb 0
  have k1 := getD_lt hb 1
  have k2 := getD_lt hb 2
  have e64 := and64_d ⟨bs.getD 1 0, k1⟩
  have e128 := and128_d ⟨bs.getD 1 0, k1⟩
  have hS : saidN bs = ⟨((bs.getD 0 0 : Nat) : Int) % 8 + 1, ((valN ((bs.take 11).drop 3) : Nat) : Int), ((bs.getD 2 0 : Nat) : Int), ((valN ((bs.take 19).drop 11) : Nat) : Int), ⟨((bs.getD 1 0 : Nat) : Int) % 64, Go.bits .and .i64 ((bs.getD 1 0 : Nat) : Int) 64 != 0, Go.bits .and .i64 ((bs.getD 1 0 : Nat) : Int) 128 != 0⟩, ints (bs.drop 19)⟩ := by
    rw [e64, e128]
    rfl
  rw [hS]
  have h4 : (ints (bs.drop 19)).length = 4 := by rw [ints_length, List.length_drop]; omega
  generalize valN ((bs.take 11).drop 3) = v1 at *
  generalize valN ((bs.take 19).drop 11) = v2 at *
  generalize bs.getD 0 0 = b0 at *
  generalize bs.getD 1 0 = b1 at *
  generalize bs.getD 2 0 = b2 at *
  have hP : ∀ j, j < 4 → (bs.drop 19).getD j 0 < 256 ∧ w.cell? ((⟨ad.block, ad.off + 19, none⟩ : Addr).add j) = some (.int .u8 (((bs.drop 19).getD j 0 : Nat) : Int)) := by
    intro j hj
    refine ⟨getD_lt (fun b h => hb b (List.mem_of_mem_drop h)) j, ?_⟩
    have hx := cell_of_C hC (19 + j) (by omega)
    have ea : ad.add (19 + j) = (⟨ad.block, ad.off + 19, none⟩ : Addr).add j := by
      rw [Addr.add_mid]
      unfold Addr.add
      rw [if_neg (by omega)]
      simp [Nat.add_assoc]
    have eg : (bs.drop 19).getD j 0 = bs.getD (19 + j) 0 := by
      rw [List.getD_eq_getElem?_getD, List.getElem?_drop, List.getD_eq_getElem?_getD]
    rw [← ea, eg]
    exact hx
  have hsn : ∀ j, j < 4 → ints ((bs.drop 19).take (j + 1)) = ints ((bs.drop 19).take j) ++ [(((bs.drop 19).getD j 0 : Nat) : Int)] := fun j hj => by rw [take_snocN _ j (by rw [List.length_drop]; omega), ints_snoc]
  have hp4 : (bs.drop 19).length = 4 := by rw [List.length_drop]; omega
  generalize bs.drop 19 = ps at *
  clear e64 e128 hS eD hpos
  have HC := Lib.hid hC
  replace C3 := Lib.hid C3
  replace C11 := Lib.hid C11
  replace C19 := Lib.hid C19
  replace F3 := Lib.hid F3
  replace F11 := Lib.hid F11
  replace hP := Lib.hid hP
  replace hsn := Lib.hid hsn
  replace hp4 := Lib.hid hp4
  replace h4 := Lib.hid h4
  replace l3 := Lib.hid l3
  replace l11 := Lib.hid l11
  replace l19 := Lib.hid l19
  clear hC hl hb h23
  go_enter Try.func25, Try.ntmps25
  go_upto_region 2 with (first | ((with_reducible refine gate_dst (N := 2) rfl ?_); refine box_event ?hg (N := 2) ?hd (cs := #[.int .i64 0, .int .u64 0, .int .i64 0, .int .u64 0, .int .i64 0, .bool false, .bool false, .slice none 0 0]) (t := 36) ?hr ?_; (case hd => rfl); (case hg => rfl); (case hr => first | (go_simp; done) | (go_simp; rfl)); intro g2 hg2 w2 hbox2 hb2; subst hg2; have HX2 := Lib.hid hbox2; have HB2 := Lib.hid hb2; replace c0w := (hb2.cell (World.block_lt_of_cell? _ _ c0w)).trans c0w; replace c1w := (hb2.cell (World.block_lt_of_cell? _ _ c1w)).trans c1w; replace c2w := (hb2.cell (World.block_lt_of_cell? _ _ c2w)).trans c2w; clear hbox2 hb2))
  go_cut [4] (fun s4 wx => ∃ gb : Nat, s4 = .pointer (some ⟨gb, 0, none⟩) ∧ Hid (wx.heap[gb]? = some (.cells #[.int .i64 ((b0 : Int) % 8 + 1), .int .u64 0, .int .i64 (b2 : Int), .int .u64 0, .int .i64 ((b1 : Int) % 64), .bool (Go.bits .and .i64 (b1 : Int) 64 != 0), .bool (Go.bits .and .i64 (b1 : Int) 128 != 0), .slice none 0 0] 36 (0, 0))) ∧ Hid (wx.heap[w.heap.size]? = some (.cells #[.int .i64 0, .int .u64 0, .int .i64 0, .int .u64 0, .int .i64 0, .bool false, .bool false, .slice none 0 0] 36 (0, 0))) ∧ w.heap.size ≠ gb ∧ w.heap.size ≤ gb ∧ Hid (Below w.heap.size w wx))
  case first =>
    refine start_ (n := 22) (S := (fun w' => w'.cell? ad = some (.int .u8 (b0 : Int)) ∧ w'.cell? ⟨ad.block, ad.off + 2, none⟩ = some (.int .u8 (b2 : Int)))) (ds := []) #[false, false, false, false, false, false, false, false, false, false, false, false, false, false, false, false, false, false, false, false, false, false] (by kernel_rfl) rfl rfl ⟨c0w, c2w⟩ (fun hHeld => ?_)
    have HX3 : Hid (w2.drew.heap[w.heap.size]? = _) := Lib.hid HX2.out
    have HB3 := Lib.hid (below_drew HB2.out)
    have c0d := hHeld.1
    have c2d := hHeld.2
    clear c0w c1w c2w HX2 HB2
    generalize w2.drew = w3 at *
    refine pure_ (i := 0) (N := some 11) (v := ?_) (a' := ?_) #[true, false, false, false, false, false, false, false, false, false, false, false, false, false, false, false, false, false, false, false, false, false] rfl rfl (by kernel_rfl) (fun _ _ _ h => h) (Or.inl ⟨by rfl, ?_⟩) ?_ ?_
    rotate_left
    · intro w'
      first | (go_simp; done) | (go_simp; with_reducible rfl) | (go_simp; rfl)
    rotate_left
    · simp only [Act.put, List.setIfInBounds_toArray, List.set_cons_zero, List.set_cons_succ, i64_w, i32_w]
      rfl
    refine pure_ (i := 1) (N := some 12) (v := ?_) (a' := ?_) #[true, true, false, false, false, false, false, false, false, false, false, false, false, false, false, false, false, false, false, false, false, false] rfl rfl (by kernel_rfl) (fun _ _ _ h => h) (Or.inl ⟨by rfl, ?_⟩) ?_ ?_
    rotate_left
    · intro w'
      first | (go_simp; done) | (go_simp; with_reducible rfl) | (go_simp; rfl)
    rotate_left
    · simp only [Act.put, List.setIfInBounds_toArray, List.set_cons_zero, List.set_cons_succ, i64_w, i32_w]
      rfl
    refine pure_ (i := 6) (N := some 17) (v := ?_) (a' := ?_) #[true, true, false, false, false, false, true, false, false, false, false, false, false, false, false, false, false, false, false, false, false, false] rfl rfl (by kernel_rfl) (fun _ _ _ h => h) (Or.inl ⟨by rfl, ?_⟩) ?_ ?_
    rotate_left
    · intro w'
      first | (go_simp; done) | (go_simp; with_reducible rfl) | (go_simp; rfl)
    rotate_left
    · simp only [Act.put, List.setIfInBounds_toArray, List.set_cons_zero, List.set_cons_succ, i64_w, i32_w]
      rfl
    refine pure_ (i := 7) (N := some 18) (v := ?_) (a' := ?_) #[true, true, false, false, false, false, true, true, false, false, false, false, false, false, false, false, false, false, false, false, false, false] rfl rfl (by kernel_rfl) (fun _ _ _ h => h) (Or.inl ⟨by rfl, ?_⟩) ?_ ?_
    rotate_left
    · intro w'
      first | (go_simp; done) | (go_simp; with_reducible rfl) | (go_simp; rfl)
    rotate_left
    · simp only [Act.put, List.setIfInBounds_toArray, List.set_cons_zero, List.set_cons_succ, i64_w, i32_w]
      rfl
    refine pure_ (i := 10) (N := some 21) (v := ?_) (a' := ?_) #[true, true, false, false, false, false, true, true, false, false, true, false, false, false, false, false, false, false, false, false, false, false] rfl rfl (by kernel_rfl) (fun _ _ _ h => h) (Or.inl ⟨by rfl, ?_⟩) ?_ ?_
    rotate_left
    · intro w'
      first | (go_simp; done) | (go_simp; with_reducible rfl) | (go_simp; rfl)
    rotate_left
    · simp only [Act.put, List.setIfInBounds_toArray, List.set_cons_zero, List.set_cons_succ, i64_w, i32_w]
      rfl
    refine pure_ (i := 11) (N := some 22) (v := ?_) (a' := ?_) #[true, true, false, false, false, false, true, true, false, false, true, true, false, false, false, false, false, false, false, false, false, false] rfl rfl (by kernel_rfl) (fun _ _ _ h => h) (Or.inl ⟨by rfl, ?_⟩) ?_ ?_
    rotate_left
    · intro w'
      first | (go_simp; done) | (go_simp; with_reducible rfl) | (go_simp; rfl)
    rotate_left
    · simp only [Act.put, List.setIfInBounds_toArray, List.set_cons_zero, List.set_cons_succ, i64_w, i32_w]
      rfl
    refine pure_ (i := 12) (N := some 23) (v := ?_) (a' := ?_) #[true, true, false, false, false, false, true, true, false, false, true, true, true, false, false, false, false, false, false, false, false, false] rfl rfl (by kernel_rfl) (fun _ _ _ h => h) (Or.inl ⟨by rfl, ?_⟩) ?_ ?_
    rotate_left
    · intro w'
      first | (go_simp; done) | (go_simp; with_reducible rfl) | (go_simp; rfl)
    rotate_left
    · simp only [Act.put, List.setIfInBounds_toArray, List.set_cons_zero, List.set_cons_succ, i64_w, i32_w]
      rfl
    refine pure_ (i := 13) (N := some 24) (v := ?_) (a' := ?_) #[true, true, false, false, false, false, true, true, false, false, true, true, true, true, false, false, false, false, false, false, false, false] rfl rfl (by kernel_rfl) (fun _ _ _ h => h) (Or.inl ⟨by rfl, ?_⟩) ?_ ?_
    rotate_left
    · intro w'
      first | (go_simp; done) | (go_simp; with_reducible rfl) | (go_simp; rfl)
    rotate_left
    · simp only [Act.put, List.setIfInBounds_toArray, List.set_cons_zero, List.set_cons_succ, i64_w, i32_w]
      rfl
    refine pure_ (i := 14) (N := some 25) (v := ?_) (a' := ?_) #[true, true, false, false, false, false, true, true, false, false, true, true, true, true, true, false, false, false, false, false, false, false] rfl rfl (by kernel_rfl) (fun _ _ _ h => h) (Or.inl ⟨by rfl, ?_⟩) ?_ ?_
    rotate_left
    · intro w'
      first | (go_simp; done) | (go_simp; with_reducible rfl) | (go_simp; rfl)
    rotate_left
    · simp only [Act.put, List.setIfInBounds_toArray, List.set_cons_zero, List.set_cons_succ, i64_w, i32_w]
      rfl
    refine pure_ (i := 15) (N := some 26) (v := ?_) (a' := ?_) #[true, true, false, false, false, false, true, true, false, false, true, true, true, true, true, true, false, false, false, false, false, false] rfl rfl (by kernel_rfl) (fun _ _ _ h => h) (Or.inl ⟨by rfl, ?_⟩) ?_ ?_
    rotate_left
    · intro w'
      first | (go_simp; done) | (go_simp; with_reducible rfl) | (go_simp; rfl)
    rotate_left
    · simp only [Act.put, List.setIfInBounds_toArray, List.set_cons_zero, List.set_cons_succ, i64_w, i32_w]
      rfl
    refine pure_ (i := 16) (N := some 27) (v := ?_) (a' := ?_) #[true, true, false, false, false, false, true, true, false, false, true, true, true, true, true, true, true, false, false, false, false, false] rfl rfl (by kernel_rfl) (fun _ _ _ h => h) (Or.inl ⟨by rfl, ?_⟩) ?_ ?_
    rotate_left
    · intro w'
      first | (go_simp; done) | (go_simp; with_reducible rfl) | (go_simp; rfl)
    rotate_left
    · simp only [Act.put, List.setIfInBounds_toArray, List.set_cons_zero, List.set_cons_succ, i64_w, i32_w]
      rfl
    refine pure_ (i := 17) (N := some 28) (v := ?_) (a' := ?_) #[true, true, false, false, false, false, true, true, false, false, true, true, true, true, true, true, true, true, false, false, false, false] rfl rfl (by kernel_rfl) (fun _ _ _ h => h) (Or.inl ⟨by rfl, ?_⟩) ?_ ?_
    rotate_left
    · intro w'
      first | (go_simp; done) | (go_simp; with_reducible rfl) | (go_simp; rfl)
    rotate_left
    · simp only [Act.put, List.setIfInBounds_toArray, List.set_cons_zero, List.set_cons_succ, i64_w, i32_w]
      rfl
    refine pure_ (i := 18) (N := some 29) (v := ?_) (a' := ?_) #[true, true, false, false, false, false, true, true, false, false, true, true, true, true, true, true, true, true, true, false, false, false] rfl rfl (by kernel_rfl) (fun _ _ _ h => h) (Or.inl ⟨by rfl, ?_⟩) ?_ ?_
    rotate_left
    · intro w'
      first | (go_simp; done) | (go_simp; with_reducible rfl) | (go_simp; rfl)
    rotate_left
    · simp only [Act.put, List.setIfInBounds_toArray, List.set_cons_zero, List.set_cons_succ, i64_w, i32_w]
      rfl
    refine take_ (i := 2) (N := some 13) (v := ?_) (a' := ?_) #[true, true, true, false, false, false, true, true, false, false, true, true, true, true, true, true, true, true, true, false, false, false] rfl rfl (by kernel_rfl) (fun _ _ _ h => h) (Or.inl ⟨by rfl, ?_⟩) hHeld ?_ ?_
    rotate_left
    · intro w' hSw
      (try dsimp only at hSw)
      obtain ⟨s0, s1⟩ := hSw
      first | (go_simp; done) | (go_simp; with_reducible rfl)
    rotate_left
    · simp only [Act.put, List.setIfInBounds_toArray, List.set_cons_zero, List.set_cons_succ, i64_w, i32_w]
      rfl
    refine pure_ (i := 3) (N := some 14) (v := ?_) (a' := ?_) #[true, true, true, true, false, false, true, true, false, false, true, true, true, true, true, true, true, true, true, false, false, false] rfl rfl (by kernel_rfl) (fun _ _ _ h => h) (Or.inl ⟨by rfl, ?_⟩) ?_ ?_
    rotate_left
    · intro w'
      first | (go_simp; done) | (go_simp; with_reducible rfl)
    rotate_left
    · simp only [Act.put, List.setIfInBounds_toArray, List.set_cons_zero, List.set_cons_succ, i64_w, i32_w]
      rfl
    refine pure_ (i := 4) (N := some 15) (v := ?_) (a' := ?_) #[true, true, true, true, true, false, true, true, false, false, true, true, true, true, true, true, true, true, true, false, false, false] rfl rfl (by kernel_rfl) (fun _ _ _ h => h) (Or.inl ⟨by rfl, ?_⟩) ?_ ?_
    rotate_left
    · intro w'
      first | (go_simp; done) | (go_simp; with_reducible rfl)
    rotate_left
    · simp only [Act.put, List.setIfInBounds_toArray, List.set_cons_zero, List.set_cons_succ, i64_w, i32_w]
      rfl
    refine pure_ (i := 5) (N := some 16) (v := ?_) (a' := ?_) #[true, true, true, true, true, true, true, true, false, false, true, true, true, true, true, true, true, true, true, false, false, false] rfl rfl (by kernel_rfl) (fun _ _ _ h => h) (Or.inl ⟨by rfl, ?_⟩) ?_ ?_
    rotate_left
    · intro w'
      first | (go_simp; done) | (go_simp; with_reducible rfl)
    rotate_left
    · simp only [Act.put, List.setIfInBounds_toArray, List.set_cons_zero, List.set_cons_succ, i64_w, i32_w]
      rfl
    refine take_ (i := 8) (N := some 19) (v := ?_) (a' := ?_) #[true, true, true, true, true, true, true, true, true, false, true, true, true, true, true, true, true, true, true, false, false, false] rfl rfl (by kernel_rfl) (fun _ _ _ h => h) (Or.inl ⟨by rfl, ?_⟩) hHeld ?_ ?_
    rotate_left
    · intro w' hSw
      (try dsimp only at hSw)
      obtain ⟨s0, s1⟩ := hSw
      first | (go_simp; done) | (go_simp; with_reducible rfl)
    rotate_left
    · simp only [Act.put, List.setIfInBounds_toArray, List.set_cons_zero, List.set_cons_succ, i64_w, i32_w]
      rfl
    refine pure_ (i := 9) (N := some 20) (v := ?_) (a' := ?_) #[true, true, true, true, true, true, true, true, true, true, true, true, true, true, true, true, true, true, true, false, false, false] rfl rfl (by kernel_rfl) (fun _ _ _ h => h) (Or.inl ⟨by rfl, ?_⟩) ?_ ?_
    rotate_left
    · intro w'
      first | (go_simp; done) | (go_simp; with_reducible rfl)
    rotate_left
    · simp only [Act.put, List.setIfInBounds_toArray, List.set_cons_zero, List.set_cons_succ, i64_w, i32_w]
      rfl
    refine pure_ (i := 19) (N := some 30) (v := ?_) (a' := ?_) #[true, true, true, true, true, true, true, true, true, true, true, true, true, true, true, true, true, true, true, true, false, false] rfl rfl (by kernel_rfl) (fun _ _ _ h => h) (Or.inl ⟨by rfl, ?_⟩) ?_ ?_
    rotate_left
    · intro w'
      first | (go_simp; done) | (go_simp; with_reducible rfl)
    rotate_left
    · simp only [Act.put, List.setIfInBounds_toArray, List.set_cons_zero, List.set_cons_succ, i64_w, i32_w]
      rfl
    refine one_ (i := 20) (N := some 4) #[true, true, true, true, true, true, true, true, true, true, true, true, true, true, true, true, true, true, true, true, true, false] rfl rfl (by kernel_rfl) (by decide) (fun K hK => ?_)
    refine box_step ?hg (N := 4) ?hd (cs := #[.int .i64 0, .int .u64 0, .int .i64 0, .int .u64 0, .int .i64 0, .bool false, .bool false, .slice none 0 0]) (t := 36) ?hr ?_
    (case hd => rfl)
    (case hg => rfl)
    (case hr => first | (go_simp; done) | (go_simp; rfl))
    intro gb hgb w4 hbox hb4
    have c0v := (hb4.cell (World.block_lt_of_cell? _ _ c0d)).trans c0d
    have c2v := (hb4.cell (World.block_lt_of_cell? _ _ c2d)).trans c2d
    refine hK.out _ _ ⟨c0v, c2v⟩ (fun hHeld => ?_)
    clear hK K
    refine norm_ (a' := ?_) ?_ ?_
    rotate_left
    · show Act.put _ (some 4) _ = _
      simp only [Act.put, List.setIfInBounds_toArray, List.set_cons_zero, List.set_cons_succ, i64_w, i32_w]
      rfl
    refine one_ (i := 21) (N := none) #[true, true, true, true, true, true, true, true, true, true, true, true, true, true, true, true, true, true, true, true, true, true] rfl rfl (by kernel_rfl) (by decide) (fun K hK => ?_)
    refine skip_ (w1 := w4.setCells gb 0 [.int .i64 (wrap64 (Int.tmod (wrap64 (b0 : Int)) 8 + 1)), .int .u64 0, .int .i64 (wrap64 (b2 : Int)), .int .u64 0, .int .i64 (Int.tmod (b1 : Int) 64), .bool (Go.bits .and .i64 (b1 : Int) 64 != 0), .bool (Go.bits .and .i64 (b1 : Int) 128 != 0), .slice none 0 0]) (by rfl) rfl ?_ ?_
    · exact run_store_op 36 (.tmp 4) (.tmp 30) rfl gb 0 (.agg #[.int .i64 (wrap64 (Int.tmod (wrap64 (b0 : Int)) 8 + 1)), .int .u64 0, .int .i64 (wrap64 (b2 : Int)), .int .u64 0, .int .i64 (Int.tmod (b1 : Int) 64), .bool (Go.bits .and .i64 (b1 : Int) 64 != 0), .bool (Go.bits .and .i64 (b1 : Int) 128 != 0), .slice none 0 0]) [.int .i64 (wrap64 (Int.tmod (wrap64 (b0 : Int)) 8 + 1)), .int .u64 0, .int .i64 (wrap64 (b2 : Int)), .int .u64 0, .int .i64 (Int.tmod (b1 : Int) 64), .bool (Go.bits .and .i64 (b1 : Int) 64 != 0), .bool (Go.bits .and .i64 (b1 : Int) 128 != 0), .slice none 0 0] rfl rfl rfl 36 _ hbox size36 (by simp) (by simp [Value.oneCell'])
    have hg5 := grown_cells w4 gb 0 [.int .i64 (wrap64 (Int.tmod (wrap64 (b0 : Int)) 8 + 1)), .int .u64 0, .int .i64 (wrap64 (b2 : Int)), .int .u64 0, .int .i64 (Int.tmod (b1 : Int) 64), .bool (Go.bits .and .i64 (b1 : Int) 64 != 0), .bool (Go.bits .and .i64 (b1 : Int) 128 != 0), .slice none 0 0]
    have hbox5 : (w4.setCells gb 0 [.int .i64 (wrap64 (Int.tmod (wrap64 (b0 : Int)) 8 + 1)), .int .u64 0, .int .i64 (wrap64 (b2 : Int)), .int .u64 0, .int .i64 (Int.tmod (b1 : Int) 64), .bool (Go.bits .and .i64 (b1 : Int) 64 != 0), .bool (Go.bits .and .i64 (b1 : Int) 128 != 0), .slice none 0 0]).heap[gb]? = some (.cells #[.int .i64 (wrap64 (Int.tmod (wrap64 (b0 : Int)) 8 + 1)), .int .u64 0, .int .i64 (wrap64 (b2 : Int)), .int .u64 0, .int .i64 (Int.tmod (b1 : Int) 64), .bool (Go.bits .and .i64 (b1 : Int) 64 != 0), .bool (Go.bits .and .i64 (b1 : Int) 128 != 0), .slice none 0 0] 36 (0, 0)) := blk_put (blk_put (blk_put (blk_put (blk_put (blk_put (blk_put (blk_put hbox 0 _ rfl) 1 _ rfl) 2 _ rfl) 3 _ rfl) 4 _ rfl) 5 _ rfl) 6 _ rfl) 7 _ rfl
    have hltb : ∀ k, k < w3.heap.size → k ≠ gb := fun k hk e => by omega
    generalize w4.setCells gb 0 [.int .i64 (wrap64 (Int.tmod (wrap64 (b0 : Int)) 8 + 1)), .int .u64 0, .int .i64 (wrap64 (b2 : Int)), .int .u64 0, .int .i64 (Int.tmod (b1 : Int) 64), .bool (Go.bits .and .i64 (b1 : Int) 64 != 0), .bool (Go.bits .and .i64 (b1 : Int) 128 != 0), .slice none 0 0] = w5 at hg5 hbox5 ⊢
    rw [tm8 k0, show wrap64 (b2 : Int) = (b2 : Int) by unfold wrap64; omega, show Int.tmod (b1 : Int) 64 = (b1 : Int) % 64 from Int.tmod_eq_emod_of_nonneg (by omega)] at hbox5
    have kp : ∀ k, k < w3.heap.size → w5.heap[k]? = w3.heap[k]? := fun k hk => (hg5.block k (Nat.lt_of_lt_of_le hk hb4.size) (fun e => hltb k hk (Option.some.inj e))).trans (hb4.block k hk)
    refine hK.out _ _ ⟨(World.cell?_of_block (w := w3) (kp _ (World.block_lt_of_cell? _ _ c0d))).trans c0d, (World.cell?_of_block (w := w3) (kp _ (World.block_lt_of_cell? _ _ c2d))).trans c2d⟩ (fun hHeld => ?_)
    clear hK K
    refine done_ (by kernel_rfl) ?_
    have HX5 := Lib.hid ((kp _ (blk_lt HX3.out)).trans HX3.out)
    have hne := hltb w.heap.size (blk_lt HX3.out)
    have hgeb : w.heap.size ≤ gb := by
      have := HB3.out.size
      omega
    have HB5 := Lib.hid ((below_step HB3.out hb4).grown hg5 (Nat.le_trans (below_step HB3.out hb4).size (Nat.le_refl _)) (fun k hk => by cases hk; exact hgeb))
    try go_wp2_with fail
    go_meet
    exact ⟨gb, rfl, Lib.hid hbox5, HX5, hne, hgeb, HB5⟩

  case rest =>
    obtain ⟨gb, rfl, hbx, HX5, hne, hgeb, HB5⟩ := hcut
    clear HX2 HB2 c0w c1w c2w
    have T3 := word_From.calls 9 A3 (c - 3) _ _ _ wc (Kd.C_below C3.out HB5.out) (by rw [l3.out]; omega) F3.out
    rw [l3.out] at T3
    have cut3' : ∀ W : World, (Instr.slice 23 (.slice (some ad) 23 c) (some (.int .i64 3)) (some (.int .i64 11)) none).run Try.prog W = .ok (.slice A3 8 (c - 3)) W := cut3
    have cut11' : ∀ W : World, (Instr.slice 23 (.slice (some ad) 23 c) (some (.int .i64 11)) (some (.int .i64 19)) none).run Try.prog W = .ok (.slice A11 8 (c - 11)) W := cut11
    replace T3 := Lib.hid T3
    clear cut3 cut11 cut19
    go_wp2_with fail
    refine T3.out.mono ?_
    rintro e w6 ⟨rfl, ⟨nd6, rfl⟩⟩
    clear T3
    go_wp2_with (first | (refine ev_put rfl 31 (.tmp 37) (.tmp 35) rfl gb 1 (.int .u64 (v1 : Int)) rfl rfl rfl rfl 36 _ (blk_drewN hbx.out _) size31 (by simp) ?_; intro w7 hbox7 hg7; have HX7 := Lib.hid ((blk_grown (blk_drewN HX5.out _) hg7 (by simpa using hne))); have HB7 := Lib.hid ((pw_below_drewN HB5.out nd6).grown hg7 (by have := (pw_below_drewN HB5.out nd6).size; exact this) (fun k hk => by cases hk; exact hgeb)); replace hbox7 := Lib.hid hbox7; clear hg7))
    have T4 := word_From.calls 9 A11 (c - 11) _ _ _ w7 (Kd.C_below C11.out HB7.out) (by rw [l11.out]; omega) F11.out
    rw [l11.out] at T4
    replace T4 := Lib.hid T4
    refine T4.out.mono ?_
    rintro e w8 ⟨rfl, ⟨nd8, rfl⟩⟩
    clear T4 hbx HX5 HB5
    go_wp2_with (first | (refine ev_put rfl 31 (.tmp 44) (.tmp 42) rfl gb 3 (.int .u64 (v2 : Int)) rfl rfl rfl rfl 36 _ (blk_drewN hbox7.out _) size31 (by simp) ?_; intro w9 hbox9 hg9; have HX9 := Lib.hid ((blk_grown (blk_drewN HX7.out _) hg9 (by simpa using hne))); have HB9 := Lib.hid ((pw_below_drewN HB7.out nd8).grown hg9 (by have := (pw_below_drewN HB7.out nd8).size; exact this) (fun k hk => by cases hk; exact hgeb)); replace hbox9 := Lib.hid hbox9; clear hg9))
    have hst : Hid (w9.heap[gb]? = some (.cells #[.int .i64 ((b0 : Int) % 8 + 1), .int .u64 (v1 : Int), .int .i64 (b2 : Int), .int .u64 (v2 : Int), .int .i64 ((b1 : Int) % 64), .bool (Go.bits .and .i64 (b1 : Int) 64 != 0), .bool (Go.bits .and .i64 (b1 : Int) 128 != 0), .slice none 0 0] 36 (0, 0))) := Lib.hid hbox9.out
    go_loopw [48] (fun y wr => ∃ (j : Nat) (V : Value), y = .int .i64 (j : Int) ∧ j ≤ 4 ∧ Hid (wr.heap[gb]? = some (.cells #[.int .i64 ((b0 : Int) % 8 + 1), .int .u64 (v1 : Int), .int .i64 (b2 : Int), .int .u64 (v2 : Int), .int .i64 ((b1 : Int) % 64), .bool (Go.bits .and .i64 (b1 : Int) 64 != 0), .bool (Go.bits .and .i64 (b1 : Int) 128 != 0), V] 36 (0, 0))) ∧ Hid (Kd.R (Kd.int .i64) 3 wr w.heap.size (fun k => k ≠ gb ∧ k ≠ w.heap.size) V (ints (ps.take j))) ∧ Hid (wr.heap[w.heap.size]? = some (.cells #[.int .i64 0, .int .u64 0, .int .i64 0, .int .u64 0, .int .i64 0, .bool false, .bool false, .slice none 0 0] 36 (0, 0))) ∧ Hid (Below w.heap.size w wr)) (fun y _ => 4 - (intOf y).toNat)
    case atStart => exact ⟨0, .slice none 0 0, rfl, by omega, hst, Lib.hid (Kd.R_nil _ _ _ _ _), HX9, HB9⟩
    case round =>
      clear hst HX9 HB9 hbox9 HX7 HB7 hbox7
      obtain ⟨j, V, rfl, hj, HX, HR, HZ, HB⟩ := hrel
      obtain ⟨Aj, cj, rfl⟩ := Kd.R_slice HR.out
      by_cases hj4 : j < 4
      · have hj42 : (j : Int) < 4 := by omega
        obtain ⟨hp1, hp2⟩ := hP.out j hj4
        have hsnj := Lib.hid (hsn.out j hj4)
        replace hp2 := (HB.out.cell (World.block_lt_of_cell? _ _ hp2)).trans hp2
        rw [Addr.add_mid] at hp2
        generalize ps.getD j 0 = p at *
        have hc7 : wr.cell? ⟨gb, 7, none⟩ = some (.slice Aj (ints (ps.take j)).length cj) := (blk_cell HX.out 7).trans rfl
        have hf7 := blk_frozen HX.out 7
        go_wp2_with (first | ((with_reducible refine gate_builtin (b := .append) (xs := #[.tmp 53, .tmp 56]) rfl ?_); at_builtin; refine Kd.R_append (Kd.int .i64) (w0 := w) w.heap.size rfl (.tmp 53) (.tmp 56) 34 3 (.int .i64 0) 8 rfl Try.underlying34 info3 rfl (by decide) (by omega) (.slice Aj (ints (ps.take j)).length cj) (ints (ps.take j)) (p : Int) [.int .i64 (p : Int)] (fun k => k ≠ gb ∧ k ≠ w.heap.size) (fun _ => False) rfl rfl rfl (fun _ hk => hk.elim) ?aF HR.out HB.out HB.out.size ?aL ?_; (case aF => intro k hk; have h1 := blk_lt HX.out; have h2 := blk_lt HZ.out; exact ⟨by omega, by omega⟩); (case aL => rw [ints_length, List.length_take]; omega); intro v5 w5 hR5 hB5 hg5 hn5; have HX5 := Lib.hid (blk_grown HX.out hg5 (fun e => (HR.out.1 _ e.symm).1 rfl)); have HZ5 := Lib.hid (blk_grown HZ.out hg5 (fun e => (HR.out.1 _ e.symm).2 rfl)); replace hR5 := Lib.hid hR5; replace hB5 := Lib.hid hB5; clear hg5 hn5) | (refine ev_put rfl 34 (.tmp 58) (.tmp 57) rfl gb 7 v5 rfl rfl ?uL ?uO 36 _ HX5.out size34 (by simp) ?_; (case uL => obtain ⟨A5, c5, rfl⟩ := Kd.R_slice hR5.out; rfl); (case uO => obtain ⟨A5, c5, rfl⟩ := Kd.R_slice hR5.out; rfl); intro w6 hbox6 hg6; replace hbox6 := Lib.hid hbox6; have hR6 := Lib.hid (Kd.R_grown hR5.out hg6 (fun q hq e => hq.1 (Option.some.inj e))); have HZ6 := Lib.hid (blk_grown HZ5.out hg6 (by simpa using hne)); have HB6 := Lib.hid (hB5.out.grown hg6 (by have := hB5.out.size; exact this) (fun k hk => by cases hk; exact hgeb)); clear hg6))
        go_roundw
        case rel => exact ⟨j + 1, v5, by go_num, by omega, Lib.hid hbox6.out, Lib.hid (by rw [hsnj.out]; exact hR6.out), HZ6, HB6⟩
        case measure => simp [intOf] <;> omega
      · have hj42 : ¬ (j : Int) < 4 := by omega
        have ej : ps.take j = ps := List.take_of_length_le (by have := hp4.out; omega)
        rw [ej] at HR HX
        go_wp2_with (first | (refine ev_load rfl 36 (.tmp 4) rfl gb #[.int .i64 ((b0 : Int) % 8 + 1), .int .u64 (v1 : Int), .int .i64 (b2 : Int), .int .u64 (v2 : Int), .int .i64 ((b1 : Int) % 64), .bool (Go.bits .and .i64 (b1 : Int) 64 != 0), .bool (Go.bits .and .i64 (b1 : Int) 128 != 0), .slice Aj (ints ps).length cj] rfl HX.out _ Try.underlying36 rfl size36 ?_) | (refine ev_store rfl 36 (.tmp 2) (.tmp 60) rfl w.heap.size #[.int .i64 ((b0 : Int) % 8 + 1), .int .u64 (v1 : Int), .int .i64 (b2 : Int), .int .u64 (v2 : Int), .int .i64 ((b1 : Int) % 64), .bool (Go.bits .and .i64 (b1 : Int) 64 != 0), .bool (Go.bits .and .i64 (b1 : Int) 128 != 0), .slice Aj (ints ps).length cj] rfl rfl 36 _ HZ.out size36 rfl (one36 ..) ?_; intro w6 hbox6 hg6; replace hbox6 := Lib.hid hbox6; have hR6 := Lib.hid (Kd.R_grown HR.out hg6 (fun q hq e => hq.2 (Option.some.inj e))); have HB6 := Lib.hid (HB.out.grown hg6 (by have := HB.out.size; exact this) (fun k hk => by cases hk; exact Nat.le_refl _)); clear hg6))
        refine bodyPost_ret (results_cell_row rfl _ _ w.heap.size 36 #[.int .i64 ((b0 : Int) % 8 + 1), .int .u64 (v1 : Int), .int .i64 (b2 : Int), .int .u64 (v2 : Int), .int .i64 ((b1 : Int) % 64), .bool (Go.bits .and .i64 (b1 : Int) 64 != 0), .bool (Go.bits .and .i64 (b1 : Int) 128 != 0), .slice Aj (ints ps).length cj] (0, 0) _ rfl hbox6.out Try.underlying36 rfl size36) rfl ?_
        exact ⟨Aj, cj, rfl, Kd.R_mono hR6.out (fun _ _ => trivial), HB6.out⟩
end Go.Proofs.Ytlccjklljlddhaa.Fn
