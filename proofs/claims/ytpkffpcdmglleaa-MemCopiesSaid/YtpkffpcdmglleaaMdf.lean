/- The contract of mem.Diff: the slots that differ, rising. Conditions: those it names. -/
import Derived.Test.YtpkffpcdmglleaaPe
import Derived.Test.YtpkffpcdmglleaaR3
set_option linter.unusedVariables false
set_option linter.unusedSimpArgs false
namespace Go.Proofs.Ytpkffpcdmglleaa.Me
open Go.RowKit Go.Maps Go.Proofs.Ytpkffpcdmglleaa.RM Go.Proofs.YtpkffpcdmglleaaW.PrintWords Go.Proofs.YtpkffpcdmglleaaW.PrintMore Go.Proofs.YtpkffpcdmglleaaW.PrintLast
/-- The slots below M that differ. -/
def DN (u v : Nat → Nat) (M : Nat) : List Nat := (List.range M).filter fun s => decide (u s ≠ v s)
def DL (u v : Nat → Nat) (M : Nat) : List Int := (DN u v M).map fun s => ((8 * s : Nat) : Int)
theorem DN_succ (u v : Nat → Nat) (M : Nat) : DN u v (M + 1) = if u M = v M then DN u v M else DN u v M ++ [M] := by
  unfold DN
  rw [List.range_succ, List.filter_append]
  by_cases h : u M = v M
  · rw [if_pos h]; simp [h]
  · rw [if_neg h]; simp [h]
theorem DL_succ (u v : Nat → Nat) (M : Nat) : DL u v (M + 1) = if u M = v M then DL u v M else DL u v M ++ [((8 * M : Nat) : Int)] := by
  unfold DL
  rw [DN_succ]
  split
  · rfl
  · simp
theorem DL_same (u v : Nat → Nat) (M : Nat) (d : Nat) (h : ∀ i, i < d → u (M + i) = v (M + i)) : DL u v (M + d) = DL u v M := by
  induction d with
  | zero => rfl
  | succ d ih =>
    rw [← Nat.add_assoc, DL_succ, if_pos (h d (by omega)), ih (fun i hi => h i (by omega))]
theorem DL_len (u v : Nat → Nat) (M : Nat) : (DL u v M).length ≤ M := by
  unfold DL DN
  rw [List.length_map]
  exact Nat.le_trans (List.length_filter_le _ _) (by simp)
theorem eq82 (w : World) (xs ys : Array Value) (u v : Nat → Int) (hx : ∀ i, i < 512 → xs[i]? = some (.int .u64 (u i))) (hy : ∀ i, i < 512 → ys[i]? = some (.int .u64 (v i))) :
    (Op.equalIn 10000 82 (.agg xs) (.agg ys)).run Try.prog w = .ok (agree u v (List.range' 0 512)) w := eq_page w 9998 xs ys u v hx hy
section
variable {w : World} {g1 g2 m1 m2 b1 b2 bits N1 N2 c1 c2 : Nat} {p1 p2 : Nat → Option Nat} {u v : Nat → Nat} {A1 A2 : Option Addr} {T1 T2 : List Int}
set_option maxHeartbeats 4000000 in
set_option maxRecDepth 100000 in
theorem diff_any (h1 : MAt b1 w g1 m1 bits p1 u N1 A1 c1 T1) (h2 : MAt b2 w g2 m2 bits p2 v N2 A2 c2 T2) (hb : bits ≤ 22) :
    Calls Try.prog 26 #[.pointer (some ⟨g1, 0, none⟩), .pointer (some ⟨g2, 0, none⟩)] w fun e w' => ∃ x, e = .returned x ∧ Kd.R (Kd.int .u64) 30 w' w.heap.size (fun _ => True) x (DL u v (2 ^ bits / 4096 * 512)) ∧ Below w.heap.size w w' := by
  have c01 := h1.c0
  have c02 := h2.c0
  have hw := pow_wrap hb
  have hE := pow_small hb
  obtain ⟨L, hL⟩ : ∃ L, L = 2 ^ bits / 4096 := ⟨_, rfl⟩
  have hLe : L ≤ 1024 := by omega
  rw [← hL]
  have hL2 : ((2 ^ bits : Nat) : Int) / 4096 = (L : Int) := by rw [hL]; generalize 2 ^ bits = E; omega
  generalize 2 ^ bits = E at *
  clear hL
  replace h1 := Lib.hid h1
  replace h2 := Lib.hid h2
  go_enter Try.func26, Try.ntmps26
  go_upto_region 1 with fail
  refine start_ (n := 17) (S := (fun W' => W'.cell? ⟨g1, 0, none⟩ = some (.int .i64 (bits : Int)) ∧ W'.cell? ⟨g2, 0, none⟩ = some (.int .i64 (bits : Int)))) (ds := []) #[false, false, false, false, false, false, false, false, false, false, false, false, false, false, false, false, false] (by kernel_rfl) rfl rfl ⟨c01, c02⟩ (fun hHeld => ?_)
  refine pure_ (i := 0) (N := some 10) (v := ?_) (a' := ?_) #[true, false, false, false, false, false, false, false, false, false, false, false, false, false, false, false, false] rfl rfl (by kernel_rfl) (fun _ _ _ h => h) (Or.inl ⟨by rfl, ?_⟩) ?_ ?_
  rotate_left
  · intro w'
    first | (go_simp; done) | (go_simp; with_reducible rfl) | (go_simp; rfl)
  rotate_left
  · simp only [Act.put, List.setIfInBounds_toArray, List.set_cons_zero, List.set_cons_succ, i64_w, i32_w]
    rfl
  refine pure_ (i := 1) (N := some 11) (v := ?_) (a' := ?_) #[true, true, false, false, false, false, false, false, false, false, false, false, false, false, false, false, false] rfl rfl (by kernel_rfl) (fun _ _ _ h => h) (Or.inl ⟨by rfl, ?_⟩) ?_ ?_
  rotate_left
  · intro w'
    first | (go_simp; done) | (go_simp; with_reducible rfl) | (go_simp; rfl)
  rotate_left
  · simp only [Act.put, List.setIfInBounds_toArray, List.set_cons_zero, List.set_cons_succ, i64_w, i32_w]
    rfl
  refine pure_ (i := 2) (N := some 12) (v := ?_) (a' := ?_) #[true, true, true, false, false, false, false, false, false, false, false, false, false, false, false, false, false] rfl rfl (by kernel_rfl) (fun _ _ _ h => h) (Or.inl ⟨by rfl, ?_⟩) ?_ ?_
  rotate_left
  · intro w'
    first | (go_simp; done) | (go_simp; with_reducible rfl) | (go_simp; rfl)
  rotate_left
  · simp only [Act.put, List.setIfInBounds_toArray, List.set_cons_zero, List.set_cons_succ, i64_w, i32_w]
    rfl
  refine pure_ (i := 3) (N := some 13) (v := ?_) (a' := ?_) #[true, true, true, true, false, false, false, false, false, false, false, false, false, false, false, false, false] rfl rfl (by kernel_rfl) (fun _ _ _ h => h) (Or.inl ⟨by rfl, ?_⟩) ?_ ?_
  rotate_left
  · intro w'
    first | (go_simp; done) | (go_simp; with_reducible rfl) | (go_simp; rfl)
  rotate_left
  · simp only [Act.put, List.setIfInBounds_toArray, List.set_cons_zero, List.set_cons_succ, i64_w, i32_w]
    rfl
  refine pure_ (i := 4) (N := some 14) (v := ?_) (a' := ?_) #[true, true, true, true, true, false, false, false, false, false, false, false, false, false, false, false, false] rfl rfl (by kernel_rfl) (fun _ _ _ h => h) (Or.inl ⟨by rfl, ?_⟩) ?_ ?_
  rotate_left
  · intro w'
    first | (go_simp; done) | (go_simp; with_reducible rfl) | (go_simp; rfl)
  rotate_left
  · simp only [Act.put, List.setIfInBounds_toArray, List.set_cons_zero, List.set_cons_succ, i64_w, i32_w]
    rfl
  refine pure_ (i := 5) (N := some 15) (v := ?_) (a' := ?_) #[true, true, true, true, true, true, false, false, false, false, false, false, false, false, false, false, false] rfl rfl (by kernel_rfl) (fun _ _ _ h => h) (Or.inl ⟨by rfl, ?_⟩) ?_ ?_
  rotate_left
  · intro w'
    first | (go_simp; done) | (go_simp; with_reducible rfl) | (go_simp; rfl)
  rotate_left
  · simp only [Act.put, List.setIfInBounds_toArray, List.set_cons_zero, List.set_cons_succ, i64_w, i32_w]
    rfl
  refine pure_ (i := 6) (N := some 16) (v := ?_) (a' := ?_) #[true, true, true, true, true, true, true, false, false, false, false, false, false, false, false, false, false] rfl rfl (by kernel_rfl) (fun _ _ _ h => h) (Or.inl ⟨by rfl, ?_⟩) ?_ ?_
  rotate_left
  · intro w'
    first | (go_simp; done) | (go_simp; with_reducible rfl) | (go_simp; rfl)
  rotate_left
  · simp only [Act.put, List.setIfInBounds_toArray, List.set_cons_zero, List.set_cons_succ, i64_w, i32_w]
    rfl
  refine pure_ (i := 7) (N := some 17) (v := ?_) (a' := ?_) #[true, true, true, true, true, true, true, true, false, false, false, false, false, false, false, false, false] rfl rfl (by kernel_rfl) (fun _ _ _ h => h) (Or.inl ⟨by rfl, ?_⟩) ?_ ?_
  rotate_left
  · intro w'
    first | (go_simp; done) | (go_simp; with_reducible rfl) | (go_simp; rfl)
  rotate_left
  · simp only [Act.put, List.setIfInBounds_toArray, List.set_cons_zero, List.set_cons_succ, i64_w, i32_w]
    rfl
  refine pure_ (i := 8) (N := some 18) (v := ?_) (a' := ?_) #[true, true, true, true, true, true, true, true, true, false, false, false, false, false, false, false, false] rfl rfl (by kernel_rfl) (fun _ _ _ h => h) (Or.inl ⟨by rfl, ?_⟩) ?_ ?_
  rotate_left
  · intro w'
    first | (go_simp; done) | (go_simp; with_reducible rfl) | (go_simp; rfl)
  rotate_left
  · simp only [Act.put, List.setIfInBounds_toArray, List.set_cons_zero, List.set_cons_succ, i64_w, i32_w]
    rfl
  refine pure_ (i := 9) (N := some 19) (v := ?_) (a' := ?_) #[true, true, true, true, true, true, true, true, true, true, false, false, false, false, false, false, false] rfl rfl (by kernel_rfl) (fun _ _ _ h => h) (Or.inl ⟨by rfl, ?_⟩) ?_ ?_
  rotate_left
  · intro w'
    first | (go_simp; done) | (go_simp; with_reducible rfl) | (go_simp; rfl)
  rotate_left
  · simp only [Act.put, List.setIfInBounds_toArray, List.set_cons_zero, List.set_cons_succ, i64_w, i32_w]
    rfl
  refine pure_ (i := 11) (N := some 21) (v := ?_) (a' := ?_) #[true, true, true, true, true, true, true, true, true, true, false, true, false, false, false, false, false] rfl rfl (by kernel_rfl) (fun _ _ _ h => h) (Or.inl ⟨by rfl, ?_⟩) ?_ ?_
  rotate_left
  · intro w'
    first | (go_simp; done) | (go_simp; with_reducible rfl) | (go_simp; rfl)
  rotate_left
  · simp only [Act.put, List.setIfInBounds_toArray, List.set_cons_zero, List.set_cons_succ, i64_w, i32_w]
    rfl
  refine pure_ (i := 12) (N := some 22) (v := ?_) (a' := ?_) #[true, true, true, true, true, true, true, true, true, true, false, true, true, false, false, false, false] rfl rfl (by kernel_rfl) (fun _ _ _ h => h) (Or.inl ⟨by rfl, ?_⟩) ?_ ?_
  rotate_left
  · intro w'
    first | (go_simp; done) | (go_simp; with_reducible rfl) | (go_simp; rfl)
  rotate_left
  · simp only [Act.put, List.setIfInBounds_toArray, List.set_cons_zero, List.set_cons_succ, i64_w, i32_w]
    rfl
  refine pure_ (i := 13) (N := some 23) (v := ?_) (a' := ?_) #[true, true, true, true, true, true, true, true, true, true, false, true, true, true, false, false, false] rfl rfl (by kernel_rfl) (fun _ _ _ h => h) (Or.inl ⟨by rfl, ?_⟩) ?_ ?_
  rotate_left
  · intro w'
    first | (go_simp; done) | (go_simp; with_reducible rfl) | (go_simp; rfl)
  rotate_left
  · simp only [Act.put, List.setIfInBounds_toArray, List.set_cons_zero, List.set_cons_succ, i64_w, i32_w]
    rfl
  refine take_ (i := 10) (N := some 20) (v := ?_) (a' := ?_) #[true, true, true, true, true, true, true, true, true, true, true, true, true, true, false, false, false] rfl rfl (by kernel_rfl) (fun _ _ _ h => h) (Or.inl ⟨by rfl, ?_⟩) hHeld ?_ ?_
  rotate_left
  · intro w' hSw
    (try dsimp only at hSw)
    obtain ⟨s0, s1⟩ := hSw
    first | (go_simp; done) | (go_simp; with_reducible rfl) | (go_simp; rfl)
  rotate_left
  · simp only [Act.put, List.setIfInBounds_toArray, List.set_cons_zero, List.set_cons_succ, i64_w, i32_w]
    rfl
  refine take_ (i := 14) (N := some 24) (v := ?_) (a' := ?_) #[true, true, true, true, true, true, true, true, true, true, true, true, true, true, true, false, false] rfl rfl (by kernel_rfl) (fun _ _ _ h => h) (Or.inl ⟨by rfl, ?_⟩) hHeld ?_ ?_
  rotate_left
  · intro w' hSw
    (try dsimp only at hSw)
    obtain ⟨s0, s1⟩ := hSw
    first | (go_simp; done) | (go_simp; with_reducible rfl) | (go_simp; rfl)
  rotate_left
  · simp only [Act.put, List.setIfInBounds_toArray, List.set_cons_zero, List.set_cons_succ, i64_w, i32_w]
    rfl
  refine pure_ (i := 15) (N := some 25) (v := ?_) (a' := ?_) #[true, true, true, true, true, true, true, true, true, true, true, true, true, true, true, true, false] rfl rfl (by kernel_rfl) (fun _ _ _ h => h) (Or.inl ⟨by rfl, ?_⟩) ?_ ?_
  rotate_left
  · intro w'
    first | (go_simp; done) | (go_simp; with_reducible rfl) | (go_simp; rfl)
  rotate_left
  · simp only [Act.put, List.setIfInBounds_toArray, List.set_cons_zero, List.set_cons_succ, i64_w, i32_w]
    rfl
  refine pure_ (i := 16) (N := some 26) (v := ?_) (a' := ?_) #[true, true, true, true, true, true, true, true, true, true, true, true, true, true, true, true, true] rfl rfl (by kernel_rfl) (fun _ _ _ h => h) (Or.inl ⟨by rfl, ?_⟩) ?_ ?_
  rotate_left
  · intro w'
    first | (go_simp; done) | (go_simp; with_reducible rfl) | (go_simp; rfl)
  rotate_left
  · simp only [Act.put, List.setIfInBounds_toArray, List.set_cons_zero, List.set_cons_succ, i64_w, i32_w]
    rfl
  refine done_ (by kernel_rfl) ?_
  have B0 := Lib.hid (below_drew1 (Below.refl w.heap.size w))
  have D0 := h1.out.below B0.out
  have D1 := h2.out.below B0.out
  clear c01 c02 hHeld
  have c01 := D0.c0
  have c02 := D1.c0
  clear D0 D1
  generalize World.drew w = W at *
  go_wp2_with fail
  clear c01 c02
  have h82 : ∀ w, (zeroValue 82).run Try.prog w = .ok (.agg (Array.replicate 512 (.int .u64 0))) w := zero82
  have sZ : Hid ((Array.replicate 512 (Value.int .u64 0)).size = 512) := Lib.hid (by simp)
  generalize Array.replicate 512 (Value.int .u64 0) = Z at *
  have s82 := Lib.hid (fun cs (h : Array.size cs = 512) => (by rw [h]; exact size82 : (Try.prog.info? 82).map (·.size) = some (Array.size (α := Value) cs)))
  have hgd : Try.prog.eqGuardType Try.prog.depth 82 = false := by kernel_rfl
  go_loopw [5, 34] (fun y5 y34 wr => ∃ (n : Nat), y34 = .int .u64 (n : Int) ∧ n ≤ L ∧ Hid (Kd.R (Kd.int .u64) 30 wr w.heap.size (fun _ => True) y5 (DL u v (n * 512))) ∧ Hid (Below w.heap.size w wr)) (fun _ y34 _ => 1100 - (intOf y34).toNat)
  case atStart => exact ⟨0, rfl, by omega, Lib.hid (by rw [Nat.zero_mul]; exact Kd.R_nil _ _ _ _ _), B0⟩
  case round =>
    clear B0
    obtain ⟨n, rfl, hn, HR, HB⟩ := hrel
    by_cases hlt : n < L
    · have hlt2 : (n : Int) < (L : Int) := by omega
      go_wp2_with fail
      refine (page_any (h1.out.below HB.out) n (by omega)).mono ?_
      rintro e w5 ⟨rfl, b5⟩
      have HB5 := Lib.hid (below_step HB.out b5)
      have HR5 := Lib.hid (Kd.R_below HR.out b5)
      clear b5 HR HB
      go_wp2_with fail
      refine (page_any (h2.out.below HB5.out) n (by omega)).mono ?_
      rintro e w6 ⟨rfl, b6⟩
      have HB6 := Lib.hid (below_step HB5.out b6)
      have HR6 := Lib.hid (Kd.R_mono (ok' := fun k => k < w6.heap.size) (Kd.R_bound (Kd.R_below HR5.out b6)) (fun k hk => hk.2.2.1))
      clear b6 HR5 HB5
      have hx := Lib.hid (PG_at u n)
      have hy := Lib.hid (PG_at v n)
      have o1 := Lib.hid (PG_one u n)
      have o2 := Lib.hid (PG_one v n)
      have z1 := Lib.hid (PG_size u n)
      have z2 := Lib.hid (PG_size v n)
      have heq := fun W' => eq82 W' (PG u n) (PG v n) (fun q => ((u (n * 512 + q) : Nat) : Int)) (fun q => ((v (n * 512 + q) : Nat) : Int)) hx.out hy.out
      have hag := Lib.hid (agree_iff (fun q => ((u (n * 512 + q) : Nat) : Int)) (fun q => ((v (n * 512 + q) : Nat) : Int)) (List.range' 0 512))
      generalize agree (fun q => ((u (n * 512 + q) : Nat) : Int)) (fun q => ((v (n * 512 + q) : Nat) : Int)) (List.range' 0 512) = t at *
      generalize PG u n = Q1 at *
      generalize PG v n = Q2 at *
      go_upto_region 8 with (first | ((with_reducible refine gate_dst (N := 7) rfl ?_); refine box_event ?hg (N := 7) ?hd (cs := Z) (t := 82) ?hr ?_; (case hd => rfl); (case hg => rfl); (case hr => first | (go_simp; done) | (go_simp; rfl)); intro X hX w7 hb7 hB7; have lX := Lib.hid (show w6.heap.size ≤ X by omega); replace hX := Lib.hid hX; have X7 := Lib.hid hb7; have HB7 := Lib.hid (below_step HB6.out hB7); have HR7 := Lib.hid (Kd.R_below HR6.out hB7); have s7 := Lib.hid hB7.size; clear hb7 hB7) | ((with_reducible refine gate_dst (N := 8) rfl ?_); refine box_event ?hg (N := 8) ?hd (cs := Z) (t := 82) ?hr ?_; (case hd => rfl); (case hg => rfl); (case hr => first | (go_simp; done) | (go_simp; rfl)); intro Y hY w8 hb8 hB8; have XY := Lib.hid (show X < Y by (have := blk_lt X7.out); omega); replace hY := Lib.hid hY; have Y8 := Lib.hid hb8; have X8 := Lib.hid (blk_below X7.out hB8); have HB8 := Lib.hid (below_step HB7.out hB8); have HR8 := Lib.hid (Kd.R_mono (ok' := fun k => k ≠ X ∧ k ≠ Y) (Kd.R_below HR7.out hB8) (fun k hk => by have := lX.out; have := XY.out; omega)); clear hb8 hB8) | (refine ev_store rfl 82 (.tmp 7) (.tmp 39) rfl X Q1 rfl rfl 82 _ X8.out (s82.out _ z1.out) (by rw [sZ.out, z1.out]) o1.out ?_; intro w9 hb9 hg9; have X9 := Lib.hid hb9; have G9 := Lib.hid hg9; have Y9 := Lib.hid (blk_grown Y8.out hg9 (fun e => by have := XY.out; have := Option.some.inj e; omega)); clear hb9 hg9) | (refine ev_store rfl 82 (.tmp 8) (.tmp 42) rfl Y Q2 rfl rfl 82 _ Y9.out (s82.out _ z2.out) (by rw [sZ.out, z2.out]) o2.out ?_; intro w10 hb10 hg10; have Y10 := Lib.hid hb10; have G10 := Lib.hid hg10; have X10 := Lib.hid (blk_grown X9.out hg10 (fun e => by have := XY.out; have := Option.some.inj e; omega)); clear hb10 hg10))
      have lw : w.heap.size ≤ w6.heap.size := HB6.out.size
      have HR10 := Lib.hid (Kd.R_grown (Kd.R_grown HR8.out G9.out (fun k hk e => hk.1 (Option.some.inj e))) G10.out (fun k hk e => hk.2 (Option.some.inj e)))
      have HB10 := Lib.hid ((HB8.out.grown G9.out HB8.out.size (fun k hk => by cases hk; have := lX.out; omega)).grown G10.out (Nat.le_trans HB8.out.size G9.out.size) (fun k hk => by cases hk; have := lX.out; have := XY.out; omega))
      clear X7 X8 X9 Y8 Y9 HB6 HB7 HB8 HR6 HR7 HR8 G9 G10 s7 lX hX hY
      cases t with
      | true =>
        have same := hag.out.1 rfl
        go_wp2_with (first | (refine ev_load rfl 82 (.tmp 7) rfl X Q1 rfl X10.out _ Try.underlying82 rfl (s82.out _ z1.out) ?_) | (refine ev_load rfl 82 (.tmp 8) rfl Y Q2 rfl Y10.out _ Try.underlying82 rfl (s82.out _ z2.out) ?_))
        go_roundw
        case rel =>
          refine ⟨n + 1, by go_num, by omega, Lib.hid ?_, HB10⟩
          have e : DL u v ((n + 1) * 512) = DL u v (n * 512) := by
            rw [show (n + 1) * 512 = n * 512 + 512 by omega]
            exact DL_same u v _ _ (fun q hq => by have := same q (List.mem_range'_1.2 ⟨by omega, by omega⟩); omega)
          rw [e]
          exact Kd.R_mono HR10.out (fun _ _ => trivial)
        case measure => simp [intOf]; omega
      | false =>
        clear hag
        go_wp2_with (first | (refine ev_load rfl 82 (.tmp 7) rfl X Q1 rfl X10.out _ Try.underlying82 rfl (s82.out _ z1.out) ?_) | (refine ev_load rfl 82 (.tmp 8) rfl Y Q2 rfl Y10.out _ Try.underlying82 rfl (s82.out _ z2.out) ?_))
        clear heq
        go_loopw [5, 46] (fun y5 y46 wz => ∃ (i : Nat), y46 = .int .i64 (i : Int) ∧ i ≤ 512 ∧ Hid (Kd.R (Kd.int .u64) 30 wz w.heap.size (fun k => k ≠ X ∧ k ≠ Y) y5 (DL u v (n * 512 + i))) ∧ Hid (Below w.heap.size w wz) ∧ Hid (wz.heap[X]? = some (.cells Q1 82 (0, 0))) ∧ Hid (wz.heap[Y]? = some (.cells Q2 82 (0, 0)))) (fun _ y46 _ => 600 - (intOf y46).toNat)
        case atStart => exact ⟨0, rfl, by omega, HR10, HB10, X10, Y10⟩
        case round =>
          clear HR10 HB10 X10 Y10
          obtain ⟨i, rfl, hi, HR, HB, HX, HY⟩ := hrel
          by_cases hilt : i < 512
          · have hilt2 : (i : Int) < 512 := by omega
            have f1 := (blk_cell HX.out i).trans (hx.out i hilt)
            have f2 := (blk_cell HY.out i).trans (hy.out i hilt)
            have la := h1.out.fits (n * 512 + i)
            have lb := h2.out.fits (n * 512 + i)
            have hsu := Lib.hid (DL_succ u v (n * 512 + i))
            generalize u (n * 512 + i) = a at *
            generalize v (n * 512 + i) = b at *
            obtain ⟨z, hz⟩ : ∃ z : Nat, z = 8 * (n * 512 + i) := ⟨_, rfl⟩
            have hw1 : IntKind.u64.wrap ((n : Int) * 4096) = (n : Int) * 4096 := by rw [IntKind.wrap_u64]; omega
            have hw2 : IntKind.u64.wrap ((i : Int) * 8) = (i : Int) * 8 := by rw [IntKind.wrap_u64]; omega
            have hw3 : IntKind.u64.wrap ((n : Int) * 4096 + (i : Int) * 8) = (z : Int) := by rw [IntKind.wrap_u64]; omega
            rw [← hz] at hsu
            replace hz := Lib.hid hz
            replace hw1 := Lib.hid hw1
            replace hw2 := Lib.hid hw2
            replace hw3 := Lib.hid hw3
            have ln := DL_len u v (n * 512 + i)
            have l1 : n * 512 + i ≤ 1000000 := by omega
            have DR := below_drew1 (Below.refl wr.heap.size wr)
            replace HR := Lib.hid (Kd.R_below HR.out DR)
            replace HB := Lib.hid (below_step HB.out DR)
            replace HX := Lib.hid (blk_below HX.out DR)
            replace HY := Lib.hid (blk_below HY.out DR)
            clear DR
            obtain ⟨A5, c5, rfl⟩ := Kd.R_slice HR.out
            go_upto_region 12 with fail
            refine start_ (n := 7) (S := (fun W' => W'.cell? ⟨X, i, none⟩ = some (.int .u64 (a : Int)) ∧ W'.cell? ⟨Y, i, none⟩ = some (.int .u64 (b : Int)))) (ds := []) #[false, false, false, false, false, false, false] (by kernel_rfl) rfl rfl ⟨f1, f2⟩ (fun hHeld => ?_)
            refine pure_ (i := 0) (N := some 49) (v := ?_) (a' := ?_) #[true, false, false, false, false, false, false] rfl rfl (by kernel_rfl) (fun _ _ _ h => h) (Or.inl ⟨by rfl, ?_⟩) ?_ ?_
            rotate_left
            · intro w'
              first | (go_simp; done) | (go_simp; with_reducible rfl) | (go_simp; rfl)
            rotate_left
            · simp only [Act.put, List.setIfInBounds_toArray, List.set_cons_zero, List.set_cons_succ, i64_w, i32_w]
              rfl
            refine pure_ (i := 1) (N := some 50) (v := ?_) (a' := ?_) #[true, true, false, false, false, false, false] rfl rfl (by kernel_rfl) (fun _ _ _ h => h) (Or.inl ⟨by rfl, ?_⟩) ?_ ?_
            rotate_left
            · intro w'
              first | (go_simp; done) | (go_simp; with_reducible rfl) | (go_simp; rfl)
            rotate_left
            · simp only [Act.put, List.setIfInBounds_toArray, List.set_cons_zero, List.set_cons_succ, i64_w, i32_w]
              rfl
            refine pure_ (i := 3) (N := some 52) (v := ?_) (a' := ?_) #[true, true, false, true, false, false, false] rfl rfl (by kernel_rfl) (fun _ _ _ h => h) (Or.inl ⟨by rfl, ?_⟩) ?_ ?_
            rotate_left
            · intro w'
              first | (go_simp; done) | (go_simp; with_reducible rfl) | (go_simp; rfl)
            rotate_left
            · simp only [Act.put, List.setIfInBounds_toArray, List.set_cons_zero, List.set_cons_succ, i64_w, i32_w]
              rfl
            refine pure_ (i := 4) (N := some 53) (v := ?_) (a' := ?_) #[true, true, false, true, true, false, false] rfl rfl (by kernel_rfl) (fun _ _ _ h => h) (Or.inl ⟨by rfl, ?_⟩) ?_ ?_
            rotate_left
            · intro w'
              first | (go_simp; done) | (go_simp; with_reducible rfl) | (go_simp; rfl)
            rotate_left
            · simp only [Act.put, List.setIfInBounds_toArray, List.set_cons_zero, List.set_cons_succ, i64_w, i32_w]
              rfl
            refine take_ (i := 2) (N := some 51) (v := ?_) (a' := ?_) #[true, true, true, true, true, false, false] rfl rfl (by kernel_rfl) (fun _ _ _ h => h) (Or.inl ⟨by rfl, ?_⟩) hHeld ?_ ?_
            rotate_left
            · intro w' hSw
              (try dsimp only at hSw)
              obtain ⟨s0, s1⟩ := hSw
              first | (go_simp; done) | (go_simp; with_reducible rfl) | (go_simp; rfl)
            rotate_left
            · simp only [Act.put, List.setIfInBounds_toArray, List.set_cons_zero, List.set_cons_succ, i64_w, i32_w]
              rfl
            refine take_ (i := 5) (N := some 54) (v := ?_) (a' := ?_) #[true, true, true, true, true, true, false] rfl rfl (by kernel_rfl) (fun _ _ _ h => h) (Or.inl ⟨by rfl, ?_⟩) hHeld ?_ ?_
            rotate_left
            · intro w' hSw
              (try dsimp only at hSw)
              obtain ⟨s0, s1⟩ := hSw
              first | (go_simp; done) | (go_simp; with_reducible rfl) | (go_simp; rfl)
            rotate_left
            · simp only [Act.put, List.setIfInBounds_toArray, List.set_cons_zero, List.set_cons_succ, i64_w, i32_w]
              rfl
            refine pure_ (i := 6) (N := some 55) (v := ?_) (a' := ?_) #[true, true, true, true, true, true, true] rfl rfl (by kernel_rfl) (fun _ _ _ h => h) (Or.inl ⟨by rfl, ?_⟩) ?_ ?_
            rotate_left
            · intro w'
              first | (go_simp; done) | (go_simp; with_reducible rfl) | (go_simp; rfl)
            rotate_left
            · simp only [Act.put, List.setIfInBounds_toArray, List.set_cons_zero, List.set_cons_succ, i64_w, i32_w]
              rfl
            refine done_ (by kernel_rfl) ?_
            clear hHeld f1 f2
            generalize World.drew wr = W2 at *
            have lX := blk_lt HX.out
            have lY := blk_lt HY.out
            have lW := HB.out.size
            have hw1 := hw1.out
            have hw2 := hw2.out
            have hw3 := hw3.out
            by_cases he : a = b
            · subst he
              rw [if_pos rfl] at hsu
              go_wp2_with fail
              go_roundw
              case rel => exact ⟨i + 1, by go_num, by omega, Lib.hid (by rw [show n * 512 + (i + 1) = n * 512 + i + 1 by omega, hsu.out]; exact HR.out), HB, HX, HY⟩
              case measure => simp [intOf]; omega
            · rw [if_neg he] at hsu
              have hei : ¬ (a : Int) = (b : Int) := by omega
              generalize hxs : DL u v (n * 512 + i) = xs at *
              clear hxs
              go_wp2_with (first | ((with_reducible refine gate_builtin (b := .append) (xs := #[.tmp 56, .tmp 63]) rfl ?_); at_builtin; refine Kd.R_append (Kd.int .u64) (w0 := w) w.heap.size rfl (.tmp 56) (.tmp 63) 27 30 (.int .u64 0) 8 rfl Try.underlying27 info30 rfl (by decide) (by omega) (.slice A5 xs.length c5) xs (z : Int) [.int .u64 (z : Int)] (fun k => k ≠ X ∧ k ≠ Y) (fun _ => False) rfl rfl rfl (fun _ hk => hk.elim) ?aF HR.out HB.out lW ?aL ?_; (case aF => intro k hk; exact ⟨by omega, by omega⟩); (case aL => omega); intro v5 w5 hR5 hB5 hg5 hn5; have HR5 := Lib.hid hR5; have HB5 := Lib.hid hB5; have HX5 := Lib.hid (blk_grown HX.out hg5 (fun e => (HR.out.1 _ e.symm).1 rfl)); have HY5 := Lib.hid (blk_grown HY.out hg5 (fun e => (HR.out.1 _ e.symm).2 rfl)); clear hR5 hB5 hg5 hn5))
              go_roundw
              case rel => exact ⟨i + 1, by go_num, by omega, Lib.hid (by rw [show n * 512 + (i + 1) = n * 512 + i + 1 by omega, hsu.out]; exact HR5.out), HB5, HX5, HY5⟩
              case measure => simp [intOf]; omega
          · have hilt2 : ¬ (i : Int) < 512 := by omega
            go_wp2_with fail
            go_roundw
            case rel => exact ⟨n + 1, by go_num, by omega, Lib.hid (by rw [show (n + 1) * 512 = n * 512 + i by omega]; exact Kd.R_mono HR.out (fun _ _ => trivial)), HB⟩
            case measure => simp [intOf]; omega
    · have hlt2 : ¬ (n : Int) < (L : Int) := by omega
      go_wp2_with fail
      have en : n = L := by omega
      subst en
      go_ret
      exact ⟨_, rfl, HR.out, HB.out⟩
end
end Go.Proofs.Ytpkffpcdmglleaa.Me
