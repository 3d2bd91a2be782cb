/- By hand: the contract of dormerref20.Decode. Conditions: those it names. -/
import Derived.Test.YtlccjklljlddhaaFnDe
namespace Go.Proofs.Ytlccjklljlddhaa.Fn
open Go.RowKit Go.Proofs.Ytlccjklljlddhaa.NL Go.Proofs.YtlccjklljlddhaaW.PrintWords Go.Proofs.YtlccjklljlddhaaW.PrintLast Go.Proofs.YtlccjklljlddhaaW.PrintMore
set_option linter.unusedVariables false
set_option linter.unusedSimpArgs false
section
variable {P : Program} {ops : Array Oper} {rest : List Oper} {o : Oper} {a : Act} {Q : Exit → Act → World → Prop} {w : World}
theorem ev_acc (hgd : o.guard = none) (ty : TypeId) (x y : Operand) (ho : o.op = .store ty x y) (g : Nat) (u p q r : Value) (hx : a.eval x = .pointer (some ⟨g, 4, none⟩)) (hy : a.eval y = u) (hu : u.cells.toList = [p, q, r]) (h1 : ∀ v ∈ [p, q, r], v.oneCell' = true)
    (t : TypeId) (c0 c1 c2 c3 c4 c5 c6 c7 : Value) (hg : w.heap[g]? = some (.cells #[c0, c1, c2, c3, c4, c5, c6, c7] t (0, 0))) (hi : (P.info? ty).map (·.size) = some 3)
    (K : ∀ w1, w1.heap[g]? = some (.cells #[c0, c1, c2, c3, p, q, r, c7] t (0, 0)) → w.grownBy w1 (some g) → wpList P ops Q rest (a.put o.dst undef) w1) : wpList P ops Q (o :: rest) a w := by
  refine wpList_plain hgd fun K' hK' => ?_
  unfold Oper.wp
  rw [run_store_op ty x y ho g 4 u [p, q, r] hx hy hu t _ hg hi (by simp) h1]
  exact hK' _ _ (K _ (blk_put (blk_put (blk_put hg 4 p rfl) 5 q rfl) 6 r rfl) (grown_cells w g 4 [p, q, r]))
end
theorem add_pos' (ad : Addr) (n : Nat) (h : n ≠ 0) : ad.add n = ⟨ad.block, ad.off + n, none⟩ := by unfold Addr.add; rw [if_neg h]
theorem S_okk {base : Nat} {ok : Nat → Prop} {w : World} {v : Value} {xs : List S36} (h : Kd.S k36 36 w base ok v xs) (k : Nat) (hk : v.ownBlock = some k) : ok k := (Kd.S_R h).1 k hk
theorem size33 : (Try.prog.info? 33).map (·.size) = some 3 := by kernel_rfl
theorem acc_d : ∀ a : Fin 256, ((a.val : Nat) : Int) / 64 % 2 = 1 ↔ a.val / 64 % 2 = 1 := by decide +kernel

set_option maxHeartbeats 8000000 in
set_option maxRecDepth 100000 in
theorem rdecode_any (bs : List Nat) (hb : ∀ b ∈ bs, b < 256) (hlen : bs.length ≤ 1000000000) (A0 : Option Addr) (c0 : Nat) (hc0 : bs.length ≤ c0) (w : World) (hC : Kd.C (Kd.int .u8) w A0 (ints bs).length (ints bs)) :
    Calls Try.prog 18 #[.slice A0 bs.length c0] w (NewOps w (decN bs)) := by
  replace hC := Lib.hid hC
  replace hb := Lib.hid hb
  go_enter Try.func18, Try.ntmps18
  go_wp2_with fail
  go_loopw [3, 4] (fun y3 y4 wr => ∃ (p j : Nat), y4 = .int .i64 (p : Int) ∧ Hid (p = 23 * j) ∧ p ≤ bs.length ∧ Hid (Kd.S k36 36 wr w.heap.size (fun _ => True) y3 (decT bs j)) ∧ Hid (Below w.heap.size w wr)) (fun _ y4 _ => bs.length + 100 - (intOf y4).toNat)
  case atStart => exact ⟨0, 0, rfl, Lib.hid (by omega), by omega, Lib.hid (Kd.S_nil _ _ _ _ _), Lib.hid (Below.refl _ _)⟩
  case round =>
    obtain ⟨p, jj, rfl, hp, hpl, HS, HB⟩ := hrel
    by_cases h23 : p + 23 ≤ bs.length
    · have h23i : (p : Int) + 23 ≤ (bs.length : Int) := by omega
      have h02 : (p : Int) + 2 < (bs.length : Int) := by omega
      have h00n : p < bs.length := by omega
      have h02n : p + 2 < bs.length := by omega
      have hil : (ints bs).length = bs.length := ints_length bs
      obtain ⟨ad, rfl, _⟩ := hC.out.2.2 (by omega)
      have mv : ∀ {q : Addr} {v : Value}, w.cell? q = some v → wr.cell? q = some v := fun {q v} h => (HB.out.cell (World.block_lt_of_cell? w q h)).trans h
      have c0w := cell_of_C hC.out p (by omega)
      have c1w := cell_of_C hC.out (p + 1) (by omega)
      have c2w := cell_of_C hC.out (p + 2) (by omega)
      have h0r := mv c0w
      have h2r := mv c2w
      rw [add_pos' ad (p + 2) (by omega)] at h2r
      have k0 := getD_lt hb.out p
      have k1 := getD_lt hb.out (p + 1)
      have k2 := getD_lt hb.out (p + 2)
      obtain ⟨A3, cut3, C3, l3⟩ := cut_C (bs := bs) (A := some ad) (c := c0) (p + 3) (p + 11) (by omega) (by omega) hc0 hC.out
      obtain ⟨A11, cut11, C11, l11⟩ := cut_C (bs := bs) (A := some ad) (c := c0) (p + 11) (p + 19) (by omega) (by omega) hc0 hC.out
      rw [hil, show p + 11 - (p + 3) = 8 by omega, show ((p + 3 : Nat) : Int) = (p : Int) + 3 by omega, show ((p + 11 : Nat) : Int) = (p : Int) + 11 by omega] at cut3
      rw [hil, show p + 19 - (p + 11) = 8 by omega, show ((p + 11 : Nat) : Int) = (p : Int) + 11 by omega, show ((p + 19 : Nat) : Int) = (p : Int) + 19 by omega] at cut11
      rw [show p + 11 - (p + 3) = 8 by omega] at l3
      rw [show p + 19 - (p + 11) = 8 by omega] at l11
      have F3 := NF.rfrom (k := 9) (bs := (bs.take (p + 11)).drop (p + 3)) (by omega) (by rw [List.length_drop, List.length_take]; omega) (fun b h => hb.out b (List.mem_of_mem_take (List.mem_of_mem_drop h)))
      have F11 := NF.rfrom (k := 9) (bs := (bs.take (p + 19)).drop (p + 11)) (by omega) (by rw [List.length_drop, List.length_take]; omega) (fun b h => hb.out b (List.mem_of_mem_take (List.mem_of_mem_drop h)))
      have hP : ∀ j, j < 4 → bs.getD (p + (19 + j)) 0 < 256 ∧ w.cell? (ad.add (p + (19 + j))) = some (.int .u8 ((bs.getD (p + (19 + j)) 0 : Nat) : Int)) := fun j hj => ⟨getD_lt hb.out _, cell_of_C hC.out _ (by omega)⟩
      have hsn : ∀ j, j < 4 → ints ((((bs.drop p).take 23).drop 19).take (j + 1)) = ints ((((bs.drop p).take 23).drop 19).take j) ++ [((bs.getD (p + (19 + j)) 0 : Nat) : Int)] := by
        intro j hj
        rw [take_snocN _ j (by rw [List.length_drop, List.length_take, List.length_drop]; omega), ints_snoc]
        congr 3
        rw [List.getD_eq_getElem?_getD, List.getElem?_drop, List.getElem?_take, if_pos (by omega), List.getElem?_drop, List.getD_eq_getElem?_getD]
      have hp4 : (((bs.drop p).take 23).drop 19).length = 4 := by rw [List.length_drop, List.length_take, List.length_drop]; omega
      have eo : decT bs (jj + 1) = decT bs jj ++ [saidN ((bs.drop p).take 23)] := by rw [decT_succ, ← hp.out]
      have hxl : (decT bs jj).length * 23 ≤ 1000000000 := by rw [decT_len]; have := hp.out; omega
      have hS : saidN ((bs.drop p).take 23) = ⟨((bs.getD p 0 : Nat) : Int) % 8 + 1, ((valN ((bs.take (p + 11)).drop (p + 3)) : Nat) : Int), ((bs.getD (p + 2) 0 : Nat) : Int), ((valN ((bs.take (p + 19)).drop (p + 11)) : Nat) : Int),
          ⟨((bs.getD (p + 1) 0 : Nat) : Int) % 64, decide (((bs.getD (p + 1) 0 : Nat) : Int) / 64 % 2 = 1), decide ((128 : Int) ≤ ((bs.getD (p + 1) 0 : Nat) : Int))⟩, ints (((bs.drop p).take 23).drop 19)⟩ := by
        have g : ∀ i, i < 23 → ((bs.drop p).take 23).getD i 0 = bs.getD (p + i) 0 := fun i hi => by
          rw [List.getD_eq_getElem?_getD, List.getElem?_take, if_pos hi, List.getElem?_drop, List.getD_eq_getElem?_getD]
        have t1 : (((bs.drop p).take 23).take 11).drop 3 = (bs.take (p + 11)).drop (p + 3) := by
          rw [List.take_take, show min 11 23 = 11 by omega, List.take_drop, List.drop_drop]
        have t2 : (((bs.drop p).take 23).take 19).drop 11 = (bs.take (p + 19)).drop (p + 11) := by
          rw [List.take_take, show min 19 23 = 19 by omega, List.take_drop, List.drop_drop]
        unfold saidN
        rw [g 0 (by omega), g 1 (by omega), g 2 (by omega), t1, t2, Nat.add_zero]
        have e1 : decide (((bs.getD (p + 1) 0 : Nat) : Int) / 64 % 2 = 1) = decide (bs.getD (p + 1) 0 / 64 % 2 = 1) := by rw [Bool.eq_iff_iff, decide_eq_true_iff, decide_eq_true_iff]; omega
        have e2 : decide ((128 : Int) ≤ ((bs.getD (p + 1) 0 : Nat) : Int)) = decide (128 ≤ bs.getD (p + 1) 0) := by rw [Bool.eq_iff_iff, decide_eq_true_iff, decide_eq_true_iff]; omega
        rw [e1, e2]
      rw [hS] at eo
      generalize valN ((bs.take (p + 11)).drop (p + 3)) = v1 at *
      generalize valN ((bs.take (p + 19)).drop (p + 11)) = v2 at *
      generalize bs.getD p 0 = b0 at *
      generalize bs.getD (p + 1) 0 = b1 at *
      generalize bs.getD (p + 2) 0 = b2 at *
      generalize (((bs.drop p).take 23).drop 19) = ps at *
      generalize decT bs jj = xs at *
      clear hS c0w c2w
      replace cut3 := cut3
      replace C3 := Lib.hid C3
      replace C11 := Lib.hid C11
      replace F3 := Lib.hid F3
      replace F11 := Lib.hid F11
      replace hP := Lib.hid hP
      replace hsn := Lib.hid hsn
      replace hp4 := Lib.hid hp4
      replace eo := Lib.hid eo
      replace l3 := Lib.hid l3
      replace l11 := Lib.hid l11
      replace hil := Lib.hid hil
      replace c1w := Lib.hid c1w
      have w2a : IntKind.i64.wrap ((p : Int) + 2) = (p : Int) + 2 := by rw [IntKind.wrap_i64]; omega
      have w2b : ((p : Int) + 2).toNat = p + 2 := by omega
      have w2c : (0 : Int) ≤ (p : Int) + 2 := by omega
      clear mv
      go_upto_region 5 with fail
      go_cut [5] (fun s5 wx => ∃ gb : Nat, s5 = .pointer (some ⟨gb, 0, none⟩) ∧ Hid (wx.heap[gb]? = some (.cells #[.int .i64 ((b0 : Int) % 8 + 1), .int .u64 0, .int .i64 (b2 : Int), .int .u64 0, .int .i64 0, .bool false, .bool false, .slice none 0 0] 36 (0, 0))) ∧ w.heap.size ≤ gb ∧ Hid (Kd.S k36 36 wx w.heap.size (fun k => k ≠ gb) u3 xs) ∧ Hid (Below w.heap.size w wx))
      case first =>
        refine start_ (n := 16) (S := (fun w' => w'.cell? (ad.add p) = some (.int .u8 (b0 : Int)) ∧ w'.cell? ⟨ad.block, ad.off + (p + 2), none⟩ = some (.int .u8 (b2 : Int)))) (ds := []) #[false, false, false, false, false, false, false, false, false, false, false, false, false, false, false, false] (by kernel_rfl) rfl rfl ⟨h0r, h2r⟩ (fun hHeld => ?_)
        have HS3 := Lib.hid (Kd.S_drew HS.out)
        have HB3 := Lib.hid (below_drew HB.out)
        have c0d := hHeld.1
        have c2d := hHeld.2
        clear h0r h2r HS HB
        generalize wr.drew = w3 at *
        refine pure_ (i := 0) (N := some 19) (v := ?_) (a' := ?_) #[true, false, false, false, false, false, false, false, false, false, false, false, false, false, false, false] rfl rfl (by kernel_rfl) (fun _ _ _ h => h) (Or.inl ⟨by rfl, ?_⟩) ?_ ?_
        rotate_left
        · intro w'
          first | (go_simp; done) | (go_simp; with_reducible rfl) | (go_simp; rfl)
        rotate_left
        · simp only [Act.put, List.setIfInBounds_toArray, List.set_cons_zero, List.set_cons_succ, i64_w, i32_w]
          rfl
        refine pure_ (i := 1) (N := some 20) (v := ?_) (a' := ?_) #[true, true, false, false, false, false, false, false, false, false, false, false, false, false, false, false] rfl rfl (by kernel_rfl) (fun _ _ _ h => h) (Or.inl ⟨by rfl, ?_⟩) ?_ ?_
        rotate_left
        · intro w'
          first | (go_simp; done) | (go_simp; with_reducible rfl) | (go_simp; rfl)
        rotate_left
        · simp only [Act.put, List.setIfInBounds_toArray, List.set_cons_zero, List.set_cons_succ, i64_w, i32_w]
          rfl
        refine pure_ (i := 2) (N := some 21) (v := ?_) (a' := ?_) #[true, true, true, false, false, false, false, false, false, false, false, false, false, false, false, false] rfl rfl (by kernel_rfl) (fun _ _ _ h => h) (Or.inl ⟨by rfl, ?_⟩) ?_ ?_
        rotate_left
        · intro w'
          first | (go_simp; done) | (go_simp; with_reducible rfl) | (go_simp; rfl)
        rotate_left
        · simp only [Act.put, List.setIfInBounds_toArray, List.set_cons_zero, List.set_cons_succ, i64_w, i32_w]
          rfl
        refine pure_ (i := 7) (N := some 26) (v := ?_) (a' := ?_) #[true, true, true, false, false, false, false, true, false, false, false, false, false, false, false, false] rfl rfl (by kernel_rfl) (fun _ _ _ h => h) (Or.inl ⟨by rfl, ?_⟩) ?_ ?_
        rotate_left
        · intro w'
          first | (go_simp; done) | (go_simp; with_reducible rfl) | (go_simp; rfl)
        rotate_left
        · simp only [Act.put, List.setIfInBounds_toArray, List.set_cons_zero, List.set_cons_succ, i64_w, i32_w]
          rfl
        refine pure_ (i := 8) (N := some 27) (v := ?_) (a' := ?_) #[true, true, true, false, false, false, false, true, true, false, false, false, false, false, false, false] rfl rfl (by kernel_rfl) (fun _ _ _ h => h) (Or.inl ⟨by rfl, ?_⟩) ?_ ?_
        rotate_left
        · intro w'
          first | (go_simp; done) | (go_simp; with_reducible rfl) | (go_simp; rfl)
        rotate_left
        · simp only [Act.put, List.setIfInBounds_toArray, List.set_cons_zero, List.set_cons_succ, i64_w, i32_w]
          rfl
        refine pure_ (i := 9) (N := some 28) (v := ?_) (a' := ?_) #[true, true, true, false, false, false, false, true, true, true, false, false, false, false, false, false] rfl rfl (by kernel_rfl) (fun _ _ _ h => h) (Or.inl ⟨by rfl, ?_⟩) ?_ ?_
        rotate_left
        · intro w'
          first | (go_simp; done) | (go_simp; with_reducible rfl) | (go_simp; rfl)
        rotate_left
        · simp only [Act.put, List.setIfInBounds_toArray, List.set_cons_zero, List.set_cons_succ, i64_w, i32_w]
          rfl
        refine pure_ (i := 10) (N := some 29) (v := ?_) (a' := ?_) #[true, true, true, false, false, false, false, true, true, true, true, false, false, false, false, false] rfl rfl (by kernel_rfl) (fun _ _ _ h => h) (Or.inl ⟨by rfl, ?_⟩) ?_ ?_
        rotate_left
        · intro w'
          first | (go_simp; done) | (go_simp; with_reducible rfl) | (go_simp; rfl)
        rotate_left
        · simp only [Act.put, List.setIfInBounds_toArray, List.set_cons_zero, List.set_cons_succ, i64_w, i32_w]
          rfl
        refine take_ (i := 3) (N := some 22) (v := ?_) (a' := ?_) #[true, true, true, true, false, false, false, true, true, true, true, false, false, false, false, false] rfl rfl (by kernel_rfl) (fun _ _ _ h => h) (Or.inl ⟨by rfl, ?_⟩) hHeld ?_ ?_
        rotate_left
        · intro w' hSw
          (try dsimp only at hSw)
          obtain ⟨s0, s1⟩ := hSw
          first | (go_simp; done) | (go_simp; with_reducible rfl) | (go_simp; rfl)
        rotate_left
        · simp only [Act.put, List.setIfInBounds_toArray, List.set_cons_zero, List.set_cons_succ, i64_w, i32_w]
          rfl
        refine pure_ (i := 4) (N := some 23) (v := ?_) (a' := ?_) #[true, true, true, true, true, false, false, true, true, true, true, false, false, false, false, false] rfl rfl (by kernel_rfl) (fun _ _ _ h => h) (Or.inl ⟨by rfl, ?_⟩) ?_ ?_
        rotate_left
        · intro w'
          first | (go_simp; done) | (go_simp; with_reducible rfl) | (go_simp; rfl)
        rotate_left
        · simp only [Act.put, List.setIfInBounds_toArray, List.set_cons_zero, List.set_cons_succ, i64_w, i32_w]
          rfl
        refine pure_ (i := 5) (N := some 24) (v := ?_) (a' := ?_) #[true, true, true, true, true, true, false, true, true, true, true, false, false, false, false, false] rfl rfl (by kernel_rfl) (fun _ _ _ h => h) (Or.inl ⟨by rfl, ?_⟩) ?_ ?_
        rotate_left
        · intro w'
          first | (go_simp; done) | (go_simp; with_reducible rfl) | (go_simp; rfl)
        rotate_left
        · simp only [Act.put, List.setIfInBounds_toArray, List.set_cons_zero, List.set_cons_succ, i64_w, i32_w]
          rfl
        refine pure_ (i := 6) (N := some 25) (v := ?_) (a' := ?_) #[true, true, true, true, true, true, true, true, true, true, true, false, false, false, false, false] rfl rfl (by kernel_rfl) (fun _ _ _ h => h) (Or.inl ⟨by rfl, ?_⟩) ?_ ?_
        rotate_left
        · intro w'
          first | (go_simp; done) | (go_simp; with_reducible rfl) | (go_simp; rfl)
        rotate_left
        · simp only [Act.put, List.setIfInBounds_toArray, List.set_cons_zero, List.set_cons_succ, i64_w, i32_w]
          rfl
        refine take_ (i := 11) (N := some 30) (v := ?_) (a' := ?_) #[true, true, true, true, true, true, true, true, true, true, true, true, false, false, false, false] rfl rfl (by kernel_rfl) (fun _ _ _ h => h) (Or.inl ⟨by rfl, ?_⟩) hHeld ?_ ?_
        rotate_left
        · intro w' hSw
          (try dsimp only at hSw)
          obtain ⟨s0, s1⟩ := hSw
          first | (go_simp; done) | (go_simp; with_reducible rfl) | (go_simp; rfl)
        rotate_left
        · simp only [Act.put, List.setIfInBounds_toArray, List.set_cons_zero, List.set_cons_succ, i64_w, i32_w]
          rfl
        refine pure_ (i := 12) (N := some 31) (v := ?_) (a' := ?_) #[true, true, true, true, true, true, true, true, true, true, true, true, true, false, false, false] rfl rfl (by kernel_rfl) (fun _ _ _ h => h) (Or.inl ⟨by rfl, ?_⟩) ?_ ?_
        rotate_left
        · intro w'
          first | (go_simp; done) | (go_simp; with_reducible rfl) | (go_simp; rfl)
        rotate_left
        · simp only [Act.put, List.setIfInBounds_toArray, List.set_cons_zero, List.set_cons_succ, i64_w, i32_w]
          rfl
        refine pure_ (i := 13) (N := some 32) (v := ?_) (a' := ?_) #[true, true, true, true, true, true, true, true, true, true, true, true, true, true, false, false] rfl rfl (by kernel_rfl) (fun _ _ _ h => h) (Or.inl ⟨by rfl, ?_⟩) ?_ ?_
        rotate_left
        · intro w'
          first | (go_simp; done) | (go_simp; with_reducible rfl) | (go_simp; rfl)
        rotate_left
        · simp only [Act.put, List.setIfInBounds_toArray, List.set_cons_zero, List.set_cons_succ, i64_w, i32_w]
          rfl
        refine one_ (i := 14) (N := some 5) #[true, true, true, true, true, true, true, true, true, true, true, true, true, true, true, false] rfl rfl (by kernel_rfl) (by decide) (fun K hK => ?_)
        refine box_step ?hg (N := 5) ?hd (cs := #[.int .i64 0, .int .u64 0, .int .i64 0, .int .u64 0, .int .i64 0, .bool false, .bool false, .slice none 0 0]) (t := 36) ?hr ?_
        (case hd => rfl)
        (case hg => rfl)
        (case hr => first | (go_simp; done) | (go_simp; rfl))
        intro gb hgb w4 hbox hb4
        have c0v := (hb4.cell (World.block_lt_of_cell? _ _ c0d)).trans c0d
        have c2v := (hb4.cell (World.block_lt_of_cell? _ _ c2d)).trans c2d
        refine hK.out _ _ ⟨c0v, c2v⟩ (fun hHeld => ?_)
        clear hK K
        refine norm_ (a' := ?_) ?_ ?_
        rotate_left
        · show Act.put _ (some 5) _ = _
          simp only [Act.put, List.setIfInBounds_toArray, List.set_cons_zero, List.set_cons_succ, i64_w, i32_w]
          rfl
        refine one_ (i := 15) (N := none) #[true, true, true, true, true, true, true, true, true, true, true, true, true, true, true, true] rfl rfl (by kernel_rfl) (by decide) (fun K hK => ?_)
        refine skip_ (w1 := w4.setCells gb 0 [.int .i64 (wrap64 (Int.tmod (wrap64 (b0 : Int)) 8 + 1)), .int .u64 0, .int .i64 (wrap64 (b2 : Int)), .int .u64 0, .int .i64 0, .bool false, .bool false, .slice none 0 0]) (by rfl) rfl ?_ ?_
        · exact run_store_op 36 (.tmp 5) (.tmp 32) rfl gb 0 (.agg #[.int .i64 (wrap64 (Int.tmod (wrap64 (b0 : Int)) 8 + 1)), .int .u64 0, .int .i64 (wrap64 (b2 : Int)), .int .u64 0, .int .i64 0, .bool false, .bool false, .slice none 0 0]) [.int .i64 (wrap64 (Int.tmod (wrap64 (b0 : Int)) 8 + 1)), .int .u64 0, .int .i64 (wrap64 (b2 : Int)), .int .u64 0, .int .i64 0, .bool false, .bool false, .slice none 0 0] rfl rfl rfl 36 _ hbox size36 (by simp) (by simp [Value.oneCell'])
        have hg5 := grown_cells w4 gb 0 [.int .i64 (wrap64 (Int.tmod (wrap64 (b0 : Int)) 8 + 1)), .int .u64 0, .int .i64 (wrap64 (b2 : Int)), .int .u64 0, .int .i64 0, .bool false, .bool false, .slice none 0 0]
        have hbox5 : (w4.setCells gb 0 [.int .i64 (wrap64 (Int.tmod (wrap64 (b0 : Int)) 8 + 1)), .int .u64 0, .int .i64 (wrap64 (b2 : Int)), .int .u64 0, .int .i64 0, .bool false, .bool false, .slice none 0 0]).heap[gb]? = some (.cells #[.int .i64 (wrap64 (Int.tmod (wrap64 (b0 : Int)) 8 + 1)), .int .u64 0, .int .i64 (wrap64 (b2 : Int)), .int .u64 0, .int .i64 0, .bool false, .bool false, .slice none 0 0] 36 (0, 0)) := blk_put (blk_put (blk_put (blk_put (blk_put (blk_put (blk_put (blk_put hbox 0 _ rfl) 1 _ rfl) 2 _ rfl) 3 _ rfl) 4 _ rfl) 5 _ rfl) 6 _ rfl) 7 _ rfl
        have hltb : ∀ k, k < w3.heap.size → k ≠ gb := fun k hk e => by omega
        generalize w4.setCells gb 0 [.int .i64 (wrap64 (Int.tmod (wrap64 (b0 : Int)) 8 + 1)), .int .u64 0, .int .i64 (wrap64 (b2 : Int)), .int .u64 0, .int .i64 0, .bool false, .bool false, .slice none 0 0] = w5 at hg5 hbox5 ⊢
        rw [tm8 k0, show wrap64 (b2 : Int) = (b2 : Int) by unfold wrap64; omega] at hbox5
        have kp : ∀ k, k < w3.heap.size → w5.heap[k]? = w3.heap[k]? := fun k hk => (hg5.block k (Nat.lt_of_lt_of_le hk hb4.size) (fun e => hltb k hk (Option.some.inj e))).trans (hb4.block k hk)
        refine hK.out _ _ ⟨(World.cell?_of_block (w := w3) (kp _ (World.block_lt_of_cell? _ _ c0d))).trans c0d, (World.cell?_of_block (w := w3) (kp _ (World.block_lt_of_cell? _ _ c2d))).trans c2d⟩ (fun hHeld => ?_)
        clear hK K
        refine done_ (by kernel_rfl) ?_
        have hgeb : w.heap.size ≤ gb := by
          have := HB3.out.size
          omega
        have HB5 := Lib.hid ((below_step HB3.out hb4).grown hg5 (Nat.le_trans (below_step HB3.out hb4).size (Nat.le_refl _)) (fun k hk => by cases hk; exact hgeb))
        have HS5 := Lib.hid (Kd.S_grown (Kd.S_below (Kd.S_elderB HS3.out gb (Nat.le_of_eq hgb.symm)) hb4) hg5 (fun k hk e => hk.2 (Option.some.inj e)))
        try go_wp2_with fail
        go_meet
        exact ⟨gb, rfl, Lib.hid hbox5, hgeb, Lib.hid (Kd.S_mono HS5.out (fun k hk => hk.2)), HB5⟩
      case rest =>
        clear w2a w2b w2c h0r h2r HS HB
        obtain ⟨gb, rfl, hbx, hgeb, HS, HB⟩ := hcut
        have c1r : wc.cell? ⟨ad.block, ad.off + (p + 1), none⟩ = some (.int .u8 (b1 : Int)) := by rw [← add_pos' ad (p + 1) (by omega)]; exact (HB.out.cell (World.block_lt_of_cell? w _ c1w.out)).trans c1w.out
        have h01 : (p : Int) + 1 < (bs.length : Int) := by omega
        have w1b : ((p : Int) + 1).toNat = p + 1 := by omega
        have T3 := Lib.hid (fun W (hB : Below w.heap.size w W) => dormerref02_From.calls 9 A3 (c0 - (p + 3)) _ _ _ W (Kd.C_below C3.out hB) (by rw [l3.out]; omega) F3.out)
        have T11 := Lib.hid (fun W (hB : Below w.heap.size w W) => dormerref02_From.calls 9 A11 (c0 - (p + 11)) _ _ _ W (Kd.C_below C11.out hB) (by rw [l11.out]; omega) F11.out)
        rw [l3.out] at T3
        rw [l11.out] at T11
        go_wp2_with (first | (refine ev_acc rfl 33 (.tmp 48) (.tmp 47) rfl gb _ _ _ _ rfl rfl rfl ?h1 36 _ _ _ _ _ _ _ _ hbx.out size33 ?_; (case h1 => simp [Value.oneCell']); intro w7 hbox7 hg7; have HS7 := Lib.hid (Kd.S_grown HS.out hg7 (fun k hk e => hk (Option.some.inj e))); have HB7 := Lib.hid (HB.out.grown hg7 (by have := HB.out.size; exact this) (fun k hk => by cases hk; exact hgeb)); replace hbox7 := Lib.hid hbox7; clear hg7))
        refine (T3.out w7 HB7.out).mono ?_
        rintro e w8 ⟨rfl, ⟨nd8, rfl⟩⟩
        go_wp2_with fail
        refine (T11.out _ (pw_below_drewN HB7.out nd8)).mono ?_
        rintro e w9 ⟨rfl, ⟨nd9, rfl⟩⟩
        have HX7 : Hid (w7.heap[gb]? = some (.cells #[.int .i64 ((b0 : Int) % 8 + 1), .int .u64 0, .int .i64 (b2 : Int), .int .u64 0, .int .i64 ((b1 : Int) % 64), .bool (decide ((b1 : Int) / 64 % 2 = 1)), .bool (decide ((128 : Int) ≤ (b1 : Int))), .slice none 0 0] 36 (0, 0))) := Lib.hid hbox7.out
        generalize hq1 : decide ((b1 : Int) / 64 % 2 = 1) = q1 at *
        generalize hq2 : decide ((128 : Int) ≤ (b1 : Int)) = q2 at *
        clear hbox7 T3 T11 HS HB hbx hq1 hq2 c1r c1w h01 w1b
        go_wp2_with (first | (refine ev_put rfl 31 (.tmp 70) (.tmp 69) rfl gb 1 (.int .u64 (v1 : Int)) rfl rfl rfl rfl 36 _ (by first | exact blk_drewN HX7.out _ | exact blk_drewN (blk_drewN HX7.out _) _) size31 (by simp) ?_; intro w10 hbox10 hg10; have HS10 := Lib.hid (Kd.S_grown (show Kd.S k36 36 _ w.heap.size (fun k => k ≠ gb) u3 xs by first | exact Kd.S_drewN HS7.out _ | exact Kd.S_drewN (Kd.S_drewN HS7.out _) _) hg10 (fun k hk e => hk (Option.some.inj e))); have HB10 := Lib.hid ((show Below w.heap.size w _ by first | exact pw_below_drewN HB7.out _ | exact pw_below_drewN (pw_below_drewN HB7.out _) _).grown hg10 (by have := HB7.out.size; exact this) (fun k hk => by cases hk; exact hgeb)); replace hbox10 := Lib.hid hbox10; clear hg10) | (refine ev_put rfl 31 (.tmp 72) (.tmp 71) rfl gb 3 (.int .u64 (v2 : Int)) rfl rfl rfl rfl 36 _ hbox10.out size31 (by simp) ?_; intro w11 hbox11 hg11; have HS11 := Lib.hid (Kd.S_grown HS10.out hg11 (fun k hk e => hk (Option.some.inj e))); have HB11 := Lib.hid (HB10.out.grown hg11 (by have := HB10.out.size; exact this) (fun k hk => by cases hk; exact hgeb)); replace hbox11 := Lib.hid hbox11; clear hg11))
        have HX11 : Hid (w11.heap[gb]? = some (.cells #[.int .i64 ((b0 : Int) % 8 + 1), .int .u64 (v1 : Int), .int .i64 (b2 : Int), .int .u64 (v2 : Int), .int .i64 ((b1 : Int) % 64), .bool q1, .bool q2, .slice none 0 0] 36 (0, 0))) := Lib.hid hbox11.out
        have HS12 := Lib.hid (Kd.S_mono (Kd.S_bound HS11.out) (ok' := fun k => k ≠ gb ∧ k < w11.heap.size) (fun k hk => ⟨hk.1, hk.2.2.1⟩))
        obtain ⟨m0, hm0⟩ : ∃ m0, m0 = w11.heap.size := ⟨_, rfl⟩
        rw [← hm0] at HS12
        have hm11 : m0 ≤ w11.heap.size := by omega
        clear HX7 HS7 HB7 hbox10 HS10 HB10 hbox11 HS11
        clear hm0
        have hpsn : Hid (ps.take (19 - 19) = []) := Lib.hid (by simp)
        go_loopw [11] (fun y wi => ∃ (i : Nat) (V : Value), y = .int .i64 (i : Int) ∧ 19 ≤ i ∧ i ≤ 23 ∧ m0 ≤ wi.heap.size ∧ Hid (wi.heap[gb]? = some (.cells #[.int .i64 ((b0 : Int) % 8 + 1), .int .u64 (v1 : Int), .int .i64 (b2 : Int), .int .u64 (v2 : Int), .int .i64 ((b1 : Int) % 64), .bool q1, .bool q2, V] 36 (0, 0))) ∧ Hid (Kd.R (Kd.int .i64) 3 wi w.heap.size (fun k => k ≠ gb ∧ m0 ≤ k) V (ints (ps.take (i - 19)))) ∧ Hid (Kd.S k36 36 wi w.heap.size (fun k => k ≠ gb ∧ k < m0) u3 xs) ∧ Hid (Below w.heap.size w wi)) (fun y _ => 23 - (intOf y).toNat)
        case atStart => exact ⟨19, .slice none 0 0, rfl, by omega, by omega, hm11, HX11, Lib.hid (by rw [hpsn.out]; exact Kd.R_nil _ _ _ _ _), HS12, HB11⟩
        case round =>
          clear HX11 HS12 HB11 hm11 hpsn
          obtain ⟨i, V, rfl, hi1, hi2, hm, HX, HR, HS, HB⟩ := hrel
          by_cases hi3 : i < 23
          · have hi3i : (i : Int) < 23 := by omega
            obtain ⟨hp1, hp2w⟩ := hP.out (i - 19) (by omega)
            have hsnj := hsn.out (i - 19) (by omega)
            rw [show 19 + (i - 19) = i by omega] at hp1 hp2w hsnj
            rw [show i - 19 + 1 = i + 1 - 19 by omega] at hsnj
            generalize i - 19 = j at *
            generalize bs.getD (p + i) 0 = pj at *
            replace hsnj := Lib.hid hsnj
            have hadw := World.block_lt_of_cell? _ _ hp2w
            have hpl4 := hp4.out
            have hp2 := (HB.out.cell hadw).trans hp2w
            have hc7 : wr.cell? ⟨gb, 7, none⟩ = some V := (blk_cell HX.out 7).trans rfl
            replace hpl4 := Lib.hid hpl4
            have wi1 : IntKind.i64.wrap ((p : Int) + (i : Int)) = (p : Int) + (i : Int) := by rw [IntKind.wrap_i64]; omega
            have wi2 : (0 : Int) ≤ (p : Int) + (i : Int) := by omega
            have wi3 : ((p : Int) + (i : Int)).toNat = p + i := by omega
            have wi4 : (p : Int) + (i : Int) < (bs.length : Int) := by omega
            have wi5 : p + i < bs.length := by omega
            go_wp2_with fail
            refine start_ (n := 13) (S := (fun w' => w'.cell? ⟨gb, 7, none⟩ = some V ∧ w'.cell? (ad.add (p + i)) = some (.int .u8 (pj : Int)))) (ds := [12]) #[false, false, false, false, false, false, false, false, false, false, false, false, false] (by kernel_rfl) rfl rfl ⟨hc7, hp2⟩ (fun hHeld => ?_)
            have HX3 : Hid (wr.drew.heap[gb]? = _) := Lib.hid HX.out
            have HB3 := Lib.hid (below_drew HB.out)
            have HS3 := Lib.hid (Kd.S_drew HS.out)
            have HR3 := Lib.hid (Kd.R_drew HR.out)
            have hm3 : m0 ≤ wr.drew.heap.size := hm
            have hc7d := hHeld.1
            have hp2d := hHeld.2
            clear hc7 hp2 HX HB HS HR hm
            generalize wr.drew = w3 at *
            refine pure_ (i := 0) (N := some 77) (v := ?_) (a' := ?_) #[true, false, false, false, false, false, false, false, false, false, false, false, false] rfl rfl (by kernel_rfl) (fun _ _ _ h => h) (Or.inl ⟨by rfl, ?_⟩) ?_ ?_
            rotate_left
            · intro w'
              first | (go_simp; done) | (go_simp; with_reducible rfl) | (go_simp; rfl)
            rotate_left
            · simp only [Act.put, List.setIfInBounds_toArray, List.set_cons_zero, List.set_cons_succ, i64_w, i32_w]
              rfl
            refine pure_ (i := 2) (N := some 79) (v := ?_) (a' := ?_) #[true, false, true, false, false, false, false, false, false, false, false, false, false] rfl rfl (by kernel_rfl) (fun _ _ _ h => h) (Or.inl ⟨by rfl, ?_⟩) ?_ ?_
            rotate_left
            · intro w'
              first | (go_simp; done) | (go_simp; with_reducible rfl) | (go_simp; rfl)
            rotate_left
            · simp only [Act.put, List.setIfInBounds_toArray, List.set_cons_zero, List.set_cons_succ, i64_w, i32_w]
              rfl
            refine pure_ (i := 3) (N := some 80) (v := ?_) (a' := ?_) #[true, false, true, true, false, false, false, false, false, false, false, false, false] rfl rfl (by kernel_rfl) (fun _ _ _ h => h) (Or.inl ⟨by rfl, ?_⟩) ?_ ?_
            rotate_left
            · intro w'
              first | (go_simp; done) | (go_simp; with_reducible rfl) | (go_simp; rfl)
            rotate_left
            · simp only [Act.put, List.setIfInBounds_toArray, List.set_cons_zero, List.set_cons_succ, i64_w, i32_w]
              rfl
            refine pure_ (i := 4) (N := some 81) (v := ?_) (a' := ?_) #[true, false, true, true, true, false, false, false, false, false, false, false, false] rfl rfl (by kernel_rfl) (fun _ _ _ h => h) (Or.inl ⟨by rfl, ?_⟩) ?_ ?_
            rotate_left
            · intro w'
              first | (go_simp; done) | (go_simp; with_reducible rfl) | (go_simp; rfl)
            rotate_left
            · simp only [Act.put, List.setIfInBounds_toArray, List.set_cons_zero, List.set_cons_succ, i64_w, i32_w]
              rfl
            refine pure_ (i := 5) (N := some 82) (v := ?_) (a' := ?_) #[true, false, true, true, true, true, false, false, false, false, false, false, false] rfl rfl (by kernel_rfl) (fun _ _ _ h => h) (Or.inl ⟨by rfl, ?_⟩) ?_ ?_
            rotate_left
            · intro w'
              first | (go_simp; done) | (go_simp; with_reducible rfl) | (go_simp; rfl)
            rotate_left
            · simp only [Act.put, List.setIfInBounds_toArray, List.set_cons_zero, List.set_cons_succ, i64_w, i32_w]
              rfl
            refine pure_ (i := 6) (N := some 83) (v := ?_) (a' := ?_) #[true, false, true, true, true, true, true, false, false, false, false, false, false] rfl rfl (by kernel_rfl) (fun _ _ _ h => h) (Or.inl ⟨by rfl, ?_⟩) ?_ ?_
            rotate_left
            · intro w'
              first | (go_simp; done) | (go_simp; with_reducible rfl) | (go_simp; rfl)
            rotate_left
            · simp only [Act.put, List.setIfInBounds_toArray, List.set_cons_zero, List.set_cons_succ, i64_w, i32_w]
              rfl
            refine take_ (i := 1) (N := some 78) (v := ?_) (a' := ?_) #[true, true, true, true, true, true, true, false, false, false, false, false, false] rfl rfl (by kernel_rfl) (fun _ _ _ h => h) (Or.inl ⟨by rfl, ?_⟩) hHeld ?_ ?_
            rotate_left
            · intro w' hSw
              (try dsimp only at hSw)
              obtain ⟨s0, s1⟩ := hSw
              first | (go_simp; done) | (go_simp; with_reducible rfl) | (go_simp; rfl)
            rotate_left
            · simp only [Act.put, List.setIfInBounds_toArray, List.set_cons_zero, List.set_cons_succ, i64_w, i32_w]
              rfl
            refine take_ (i := 7) (N := some 84) (v := ?_) (a' := ?_) #[true, true, true, true, true, true, true, true, false, false, false, false, false] rfl rfl (by kernel_rfl) (fun _ _ _ h => h) (Or.inl ⟨by rfl, ?_⟩) hHeld ?_ ?_
            rotate_left
            · intro w' hSw
              (try dsimp only at hSw)
              obtain ⟨s0, s1⟩ := hSw
              first | (go_simp; done) | (go_simp; with_reducible rfl) | (go_simp; rfl)
            rotate_left
            · simp only [Act.put, List.setIfInBounds_toArray, List.set_cons_zero, List.set_cons_succ, i64_w, i32_w]
              rfl
            refine pure_ (i := 8) (N := some 85) (v := ?_) (a' := ?_) #[true, true, true, true, true, true, true, true, true, false, false, false, false] rfl rfl (by kernel_rfl) (fun _ _ _ h => h) (Or.inl ⟨by rfl, ?_⟩) ?_ ?_
            rotate_left
            · intro w'
              first | (go_simp; done) | (go_simp; with_reducible rfl) | (go_simp; rfl)
            rotate_left
            · simp only [Act.put, List.setIfInBounds_toArray, List.set_cons_zero, List.set_cons_succ, i64_w, i32_w]
              rfl
            refine one_ (i := 9) (N := some 86) #[true, true, true, true, true, true, true, true, true, true, false, false, false] rfl rfl (by kernel_rfl) (by decide) (fun K hK => ?_)
            refine value_ (w1 := ?_) (v := ?_) (by rfl) rfl ?_ ?_
            rotate_left 2
            · go_simp
              constructor
              · rfl
              · rfl
            refine hK.out _ _ ⟨(World.cell?_alloc_lt _ _ _ (World.block_lt_of_cell? _ _ hc7d)).trans hc7d, (World.cell?_alloc_lt _ _ _ (World.block_lt_of_cell? _ _ hp2d)).trans hp2d⟩ (fun hHeld => ?_)
            clear hK K
            refine norm_ (a' := ?_) ?_ ?_
            rotate_left
            · show Act.put _ (some 86) _ = _
              simp only [Act.put, List.setIfInBounds_toArray, List.set_cons_zero, List.set_cons_succ, i64_w, i32_w]
              rfl
            refine one_ (i := 10) (N := some 87) #[true, true, true, true, true, true, true, true, true, true, true, false, false] rfl rfl (by kernel_rfl) (by decide) (fun K hK => ?_)
            refine Kd.R_append_step (Kd.int .i64) (w0 := w) w.heap.size (by rfl) (.tmp 78) (.tmp 86) 34 3 (.int .i64 0) 8 rfl Try.underlying34 info3 rfl (by decide) (by omega) V (ints (ps.take j)) (wrap64 (pj : Int)) [.int .i64 (wrap64 (pj : Int))] (fun k => k ≠ gb ∧ m0 ≤ k) (fun _ => False) rfl rfl rfl (fun _ hk => hk.elim) ?aF HR3.out HB3.out HB3.out.size ?aL ?_
            (case aF => intro k hk; have h1 := blk_lt HX3.out; exact ⟨by omega, by omega⟩)
            (case aL => rw [ints_length, List.length_take]; have := hpl4.out; omega)
            intro v5 w5 hR5 hB5 hg5 hn5
            rw [show wrap64 (pj : Int) = (pj : Int) by unfold wrap64; omega] at hR5
            have hx5 := blk_grown HX3.out hg5 (fun e => (HR3.out.1 _ e.symm).1 rfl)
            have hS5 := Kd.S_grown HS3.out hg5 (fun k hk e => by have := (HR3.out.1 k e.symm).2; have := hk.2; omega)
            have hm5 : m0 ≤ w5.heap.size := Nat.le_trans hm3 hg5.size
            have hc75 : w5.cell? ⟨gb, 7, none⟩ = some V := (blk_cell hx5 7).trans rfl
            have hp25 : w5.cell? (ad.add (p + i)) = some (.int .u8 (pj : Int)) := (hB5.cell hadw).trans hp2w
            refine hK.out _ _ ⟨hc75, hp25⟩ (fun hHeld => ?_)
            clear hK K
            refine norm_ (a' := ?_) ?_ ?_
            rotate_left
            · show Act.put _ (some 87) _ = _
              simp only [Act.put, List.setIfInBounds_toArray, List.set_cons_zero, List.set_cons_succ, i64_w, i32_w]
              rfl
            refine pure_ (i := 11) (N := some 88) (v := ?_) (a' := ?_) #[true, true, true, true, true, true, true, true, true, true, true, true, false] rfl rfl (by kernel_rfl) (fun _ _ _ h => h) (Or.inl ⟨by rfl, ?_⟩) ?_ ?_
            rotate_left
            · intro w'
              first | (go_simp; done) | (go_simp; with_reducible rfl) | (go_simp; rfl)
            rotate_left
            · simp only [Act.put, List.setIfInBounds_toArray, List.set_cons_zero, List.set_cons_succ, i64_w, i32_w]
              rfl
            refine last_ (i := 12) (N := none) #[true, true, true, true, true, true, true, true, true, true, true, true, true] rfl rfl (by kernel_rfl) (by decide) (fun K hK => ?_)
            obtain ⟨A5, c5, rfl⟩ := Kd.R_slice hR5
            refine skip_ (w1 := w5.setCells gb 7 [.slice A5 (ints (ps.take j) ++ [(pj : Int)]).length c5]) (by rfl) rfl ?_ ?_
            · exact run_store_op 34 (.tmp 88) (.tmp 87) rfl gb 7 (.slice A5 (ints (ps.take j) ++ [(pj : Int)]).length c5) [.slice A5 (ints (ps.take j) ++ [(pj : Int)]).length c5] rfl rfl rfl 36 _ hx5 size34 (by simp) (by simp [Value.oneCell'])
            have hg6 := grown_cells w5 gb 7 [.slice A5 (ints (ps.take j) ++ [(pj : Int)]).length c5]
            have hbox6 : (w5.setCells gb 7 [.slice A5 (ints (ps.take j) ++ [(pj : Int)]).length c5]).heap[gb]? = some (.cells #[.int .i64 ((b0 : Int) % 8 + 1), .int .u64 (v1 : Int), .int .i64 (b2 : Int), .int .u64 (v2 : Int), .int .i64 ((b1 : Int) % 64), .bool q1, .bool q2, .slice A5 (ints (ps.take j) ++ [(pj : Int)]).length c5] 36 (0, 0)) := blk_put hx5 7 _ rfl
            generalize w5.setCells gb 7 [.slice A5 (ints (ps.take j) ++ [(pj : Int)]).length c5] = w6 at hg6 hbox6 ⊢
            refine hK.out _ _ ?_
            clear hK K
            refine done_ (by kernel_rfl) ?_
            have HR6 := Lib.hid (Kd.R_grown hR5 hg6 (fun q hq e => hq.1 (Option.some.inj e)))
            have HB6 := Lib.hid (hB5.grown hg6 (by have := hB5.size; exact this) (fun k hk => by cases hk; exact hgeb))
            have HS6 := Lib.hid (Kd.S_grown hS5 hg6 (fun k hk e => hk.1 (Option.some.inj e)))
            replace hbox6 := Lib.hid hbox6
            have hm6 : m0 ≤ w6.heap.size := Nat.le_trans hm5 hg6.size
            try go_wp2_with fail
            go_roundw
            case rel => exact ⟨i + 1, _, by go_num, by omega, by omega, hm6, hbox6, Lib.hid (by rw [hsnj.out]; exact HR6.out), HS6, HB6⟩
            case measure => simp [intOf] <;> omega
          · have hi3i : ¬ (i : Int) < 23 := by omega
            obtain ⟨AV, cV, rfl⟩ := Kd.R_slice HR.out
            have ej : ps.take (i - 19) = ps := List.take_of_length_le (by have := hp4.out; omega)
            rw [ej] at HR HX
            clear ej
            go_wp2_with (first | (refine ev_load rfl 36 (.tmp 5) rfl gb #[.int .i64 ((b0 : Int) % 8 + 1), .int .u64 (v1 : Int), .int .i64 (b2 : Int), .int .u64 (v2 : Int), .int .i64 ((b1 : Int) % 64), .bool q1, .bool q2, .slice AV (ints ps).length cV] rfl HX.out _ Try.underlying36 rfl size36 ?_) | ((with_reducible refine gate_builtin (b := .append) (xs := #[.tmp 89, .tmp 91]) rfl ?_); at_builtin; refine Kd.S_append k36 (w0 := w) w.heap.size rfl (.tmp 89) (.tmp 91) 22 36 (.agg #[.int .i64 0, .int .u64 0, .int .i64 0, .int .u64 0, .int .i64 0, .bool false, .bool false, .slice none 0 0]) 72 rfl Try.underlying22 info36 rfl (by decide) (by omega) u3 xs ⟨(b0 : Int) % 8 + 1, (v1 : Int), (b2 : Int), (v2 : Int), ⟨(b1 : Int) % 64, q1, q2⟩, ints ps⟩ [.int .i64 ((b0 : Int) % 8 + 1), .int .u64 (v1 : Int), .int .i64 (b2 : Int), .int .u64 (v2 : Int), .int .i64 ((b1 : Int) % 64), .bool q1, .bool q2, .slice AV (ints ps).length cV] (fun _ => True) (fun k => m0 ≤ k) rfl rfl ?aP ?aQ (fun _ _ => trivial) ?aO HB.out HB.out.size ?aL ?_; (case aP => exact k36_mkM _ _ _ ⟨(b0 : Int) % 8 + 1, (v1 : Int), (b2 : Int), (v2 : Int), ⟨(b1 : Int) % 64, q1, q2⟩, ints ps⟩ (Kd.R_mono HR.out (fun k hk => hk.2))); (case aQ => intro k hk; exact ⟨trivial, fun e => by have := (S_okk HS.out k e.symm).2; omega⟩); (case aO => exact Kd.S_mono HS.out (fun k hk => ⟨trivial, fun h => by have := hk.2; omega⟩)); (case aL => omega); intro v9 w12 hS12 hB12 hg12 hn12; have HS13 := Lib.hid hS12; have HB13 := Lib.hid hB12; clear hS12 hB12 hg12 hn12))
            go_roundw
            case rel => exact ⟨p + 23, jj + 1, congrArg (Value.int .i64) (by omega), Lib.hid (by have := hp.out; omega), by omega, Lib.hid (by rw [eo.out]; exact HS13.out), HB13⟩
            case measure =>
              show bs.length + 100 - ((p : Int) + 23).toNat < bs.length + 100 - ((p : Int)).toNat
              omega
    · have h23i : ¬ (p : Int) + 23 ≤ (bs.length : Int) := by omega
      go_wp2_with fail
      go_ret
      refine ⟨_, rfl, ?_, HB.out⟩
      have : bs.length / 23 = jj := by have := hp.out; omega
      unfold decN
      rw [this]
      exact HS.out
end Go.Proofs.Ytlccjklljlddhaa.Fn
