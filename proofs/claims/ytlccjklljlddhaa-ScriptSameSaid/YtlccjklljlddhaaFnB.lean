/- By hand: the law's own example (awake). No condition. -/
import Derived.Test.YtlccjklljlddhaaFnA
namespace Go.Proofs.Ytlccjklljlddhaa.Fn
open Go.RowKit Go.Proofs.Ytlccjklljlddhaa.NL Go.Proofs.YtlccjklljlddhaaW.PrintWords Go.Proofs.YtlccjklljlddhaaW.PrintLast Go.Proofs.YtlccjklljlddhaaW.PrintMore
set_option linter.unusedVariables false
set_option linter.unusedSimpArgs false
theorem C36_one {w : World} {g : Nat} {o : S36} {A : Option Addr} {c : Nat} (hb : w.heap[g]? = some (.cells #[.int .i64 o.f0, .int .u64 o.f1, .int .i64 o.f2, .int .u64 o.f3, .int .i64 o.f4.f0, .bool o.f4.f1, .bool o.f4.f2, .slice A o.f5.length c] 36 (0, 0))) (hl : o.f5.length ≤ c) (hC : (Kd.int .i64).C w A o.f5.length o.f5) :
    Kd.C k36 w (some ⟨g, 0, none⟩) 1 [o] := by
  refine ⟨rfl, by omega, fun _ => ⟨⟨g, 0, none⟩, rfl, fun j p hj => ?_⟩⟩
  have hj0 : j = 0 := by
    have := (List.getElem?_eq_some_iff.1 hj).1
    simpa using this
  subst hj0
  have hp : p = o := by simpa using hj.symm
  subst hp
  refine ⟨_, rfl, k36_mk w p hl hC, fun i u hu => ?_⟩
  have hc := blk_cell hb i
  have e : (⟨g, 0, none⟩ : Addr).add (0 * k36.sz + i) = ⟨g, i, none⟩ := by
    rw [Addr.add_mid]
    simp
  rw [e, hc]
  simpa using hu
theorem C_four {w : World} {g : Nat} (hb : w.heap[g]? = some (.cells #[.int .i64 1, .int .i64 2, .int .i64 3, .int .i64 4] 3 (0, 0))) : (Kd.int .i64).C w (some ⟨g, 0, none⟩) 4 [1, 2, 3, 4] := by
  refine ⟨rfl, by omega, fun _ => ⟨⟨g, 0, none⟩, rfl, fun j p hj => ⟨[.int .i64 p], rfl, rfl, fun i u hu => ?_⟩⟩⟩
  have hi0 : i = 0 := by
    have := (List.getElem?_eq_some_iff.1 hu).1
    simpa using this
  subst hi0
  have hu2 : u = .int .i64 p := by simpa using hu.symm
  subst hu2
  have e : (⟨g, 0, none⟩ : Addr).add (j * (Kd.int .i64).sz + 0) = ⟨g, j, none⟩ := by
    show Addr.add _ (j * 1 + 0) = _
    rw [Addr.add_mid]
    simp
  rw [e, blk_cell hb j]
  have hj4 : j < 4 := (List.getElem?_eq_some_iff.1 hj).1
  match j, hj4 with
  | 0, _ => simp at hj; subst hj; rfl
  | 1, _ => simp at hj; subst hj; rfl
  | 2, _ => simp at hj; subst hj; rfl
  | 3, _ => simp at hj; subst hj; rfl
/-- The example's bytes. -/
def awB : List Nat := [0, 66, 8, 52, 18, 0, 0, 0, 0, 0, 0, 5, 0, 0, 0, 0, 0, 0, 0, 1, 2, 3, 4]
theorem awB_rec : SC.recN ⟨1, 4660, 8, 5, ⟨2, true, false⟩, [1, 2, 3, 4]⟩ = ints awB := by decide +kernel
theorem awB_dec : decN awB = [⟨1, 4660, 8, 5, ⟨2, true, false⟩, [1, 2, 3, 4]⟩] := by kernel_rfl
theorem aw_enc (k : Nat) (hk : 200 ≤ k) : script_Encode.f k [⟨1, 4660, 8, 5, ⟨2, true, false⟩, [1, 2, 3, 4]⟩] = some (ints awB, 0) := by
  rw [SC.enc_f _ (fun o ho => by
    have : o = ⟨1, 4660, 8, 5, ⟨2, true, false⟩, [1, 2, 3, 4]⟩ := by simpa using ho
    subst this
    exact ⟨by decide, by decide, by decide, by decide⟩) (by simp) (by simp; omega)]
  have hm : SC.mayB ⟨1, 4660, 8, 5, ⟨2, true, false⟩, [1, 2, 3, 4]⟩ = true := by decide +kernel
  rw [SC.encN_yes _ _ _ hm, SC.encN_nil, awB_rec]
  rfl
theorem range_of {w : World} {g : Nat} {t : TypeId} {cells : Array Value} (hb : w.heap[g]? = some (.cells cells t (0, 0))) : w.rangeAt g 0 cells.toList := fun j v hj => by
  rw [Nat.zero_add, blk_cell hb j]
  simpa using hj
theorem range_below {w w' : World} {g : Nat} {cs : List Value} (h : w.rangeAt g 0 cs) (hb : Below w.heap.size w w') : w'.rangeAt g 0 cs := fun j v hj => (hb.cell (World.block_lt_of_cell? _ _ (h j v hj))).trans (h j v hj)
set_option maxHeartbeats 8000000 in
set_option maxRecDepth 100000 in
theorem awake_any (w : World) : Calls Try.prog 9 #[] w fun e w' => e = .returned (.bool true) ∧ Below w.heap.size w w' := by
  have hp0 := blk_new w (.cells #[.int .i64 1, .int .i64 2, .int .i64 3, .int .i64 4] 3)
  have hB0 := Lib.hid (below_alloc (Below.refl w.heap.size w) (.cells #[.int .i64 1, .int .i64 2, .int .i64 3, .int .i64 4] 3))
  replace hp0 := Lib.hid hp0
  go_enter Try.func9, Try.ntmps9
  go_wp2_with (first | ((with_reducible refine gate_dst (N := 1) rfl ?_); refine box_event ?hg (N := 1) ?hd (cs := #[.int .i64 0, .int .u64 0, .int .i64 0, .int .u64 0, .int .i64 0, .bool false, .bool false, .slice none 0 0]) (t := 36) ?hr ?_; (case hd => rfl); (case hg => rfl); (case hr => first | (go_simp; done) | (go_simp; rfl)); intro gb hgb w2 hbox2 hb2; have hp2 := Lib.hid (blk_below hp0.out hb2); have hB2 := Lib.hid (below_step hB0.out hb2); have hge : w.heap.size < gb := (by have := blk_lt hp0.out; omega); clear hb2 hgb hp0 hB0) | (refine ev_store rfl 36 (.tmp 1) (.tmp 7) rfl gb #[.int .i64 1, .int .u64 4660, .int .i64 8, .int .u64 5, .int .i64 2, .bool true, .bool false, .slice (some ⟨w.heap.size, 0, none⟩) 4 4] rfl rfl 36 _ hbox2 size36 rfl (one36 ..) ?_; intro w3 hbox3 hg3; have hp3 := Lib.hid (blk_grown hp2.out hg3 (by simp; omega)); have hB3 := Lib.hid (hB2.out.grown hg3 (by have := hB2.out.size; exact this) (fun k hk => by cases hk; exact Nat.le_of_lt hge)); have hb3 := Lib.hid hbox3; clear hbox2 hbox3 hg3 hp2 hB2) | (refine ev_load rfl 36 (.tmp 1) rfl gb #[.int .i64 1, .int .u64 4660, .int .i64 8, .int .u64 5, .int .i64 2, .bool true, .bool false, .slice (some ⟨w.heap.size, 0, none⟩) 4 4] rfl hb3.out _ Try.underlying36 rfl size36 ?_))
  have hCp := C_four (blk_alloc hp3.out (.cells #[.int .i64 1, .int .u64 4660, .int .i64 8, .int .u64 5, .int .i64 2, .bool true, .bool false, .slice (some ⟨w.heap.size, 0, none⟩) 4 4] 36))
  have hC1 : Kd.C k36 (w3.alloc (.cells #[.int .i64 1, .int .u64 4660, .int .i64 8, .int .u64 5, .int .i64 2, .bool true, .bool false, .slice (some ⟨w.heap.size, 0, none⟩) 4 4] 36)) (some ⟨w3.heap.size, 0, none⟩) 1 [⟨1, 4660, 8, 5, ⟨2, true, false⟩, [1, 2, 3, 4]⟩] := C36_one (o := ⟨1, 4660, 8, 5, ⟨2, true, false⟩, [1, 2, 3, 4]⟩) (blk_new w3 (.cells #[.int .i64 1, .int .u64 4660, .int .i64 8, .int .u64 5, .int .i64 2, .bool true, .bool false, .slice (some ⟨w.heap.size, 0, none⟩) 4 4] 36)) (by decide) hCp
  have T := Lib.hid (script_Encode.calls 300 (some ⟨w3.heap.size, 0, none⟩) 1 [⟨1, 4660, 8, 5, ⟨2, true, false⟩, [1, 2, 3, 4]⟩] (ints awB) 0 (w3.alloc (.cells #[.int .i64 1, .int .u64 4660, .int .i64 8, .int .u64 5, .int .i64 2, .bool true, .bool false, .slice (some ⟨w.heap.size, 0, none⟩) 4 4] 36)) hC1 (by decide) (aw_enc 300 (by decide)))
  have hp4 := Lib.hid (blk_alloc hp3.out (.cells #[.int .i64 1, .int .u64 4660, .int .i64 8, .int .u64 5, .int .i64 2, .bool true, .bool false, .slice (some ⟨w.heap.size, 0, none⟩) 4 4] 36))
  have hb4 := Lib.hid (blk_alloc hb3.out (.cells #[.int .i64 1, .int .u64 4660, .int .i64 8, .int .u64 5, .int .i64 2, .bool true, .bool false, .slice (some ⟨w.heap.size, 0, none⟩) 4 4] 36))
  have hB4 := Lib.hid (below_alloc hB3.out (.cells #[.int .i64 1, .int .u64 4660, .int .i64 8, .int .u64 5, .int .i64 2, .bool true, .bool false, .slice (some ⟨w.heap.size, 0, none⟩) 4 4] 36))
  clear hC1 hCp hp3 hb3 hB3
  refine T.out.mono ?_
  generalize w3.alloc (.cells #[.int .i64 1, .int .u64 4660, .int .i64 8, .int .u64 5, .int .i64 2, .bool true, .bool false, .slice (some ⟨w.heap.size, 0, none⟩) 4 4] 36) = w4 at *
  rintro e w5 ⟨v5, rfl, hR5, hb5⟩
  obtain ⟨A5, c5, rfl⟩ := Kd.R_slice hR5
  obtain ⟨_, hl5, hC5⟩ := Kd.R_reads' hR5
  have hp5 := Lib.hid (blk_below hp4.out hb5)
  have hb5b := Lib.hid (blk_below hb4.out hb5)
  have hB5 := Lib.hid (below_step hB4.out hb5)
  have e23 : (ints awB).length = 23 := by rw [ints_length]; rfl
  rw [e23] at hl5
  have T2 := decode_any awB (by decide) (by decide) A5 c5 hl5 w5 hC5
  rw [awB_dec] at T2
  rw [e23]
  replace T2 := Lib.hid T2
  clear T hp4 hb4 hB4 hR5 hb5 hC5 e23
  go_wp2_with fail
  refine T2.out.mono ?_
  rintro e w6 ⟨v6, rfl, hS6, hb6⟩
  obtain ⟨gl, cl, rfl, _, _, _⟩ := Kd.S_form hS6 (by decide)
  obtain ⟨hcl1, hCL⟩ := (Kd.S_reads' hS6).2
  have hp6 := Lib.hid (blk_below hp5.out hb6)
  have hb6b := Lib.hid (blk_below hb5b.out hb6)
  have hB6 := Lib.hid (below_step hB5.out hb6)
  obtain ⟨ad, AL, cL, had, q0, q1, q2, q3, q4, q5, q6, q7, hcl, hCA⟩ := at_T36 hCL 0 (by omega) (by decide)
  injection had with had
  subst had
  replace hCL := Lib.hid hCL
  replace hCA := Lib.hid hCA
  have hL : Hid (w6.rangeAt gl 0 [.int .i64 1, .int .u64 4660, .int .i64 8, .int .u64 5, .int .i64 2, .bool true, .bool false, .slice AL 4 cL]) := Lib.hid (by
    intro j v hj
    have hj8 : j < 8 := (List.getElem?_eq_some_iff.1 hj).1
    match j, hj8 with
    | 0, _ => simp at hj; subst hj; exact q0
    | 1, _ => simp at hj; subst hj; exact q1
    | 2, _ => simp at hj; subst hj; exact q2
    | 3, _ => simp at hj; subst hj; exact q3
    | 4, _ => simp at hj; subst hj; exact q4
    | 5, _ => simp at hj; subst hj; exact q5
    | 6, _ => simp at hj; subst hj; exact q6
    | 7, _ => simp at hj; subst hj; exact q7)
  clear q0 q1 q2 q3 q4 q5 q6 q7 T2 hp5 hb5b hB5 hS6 hb6
  go_wp2_with fail
  have bd := pw_below_drewN (Below.refl w6.heap.size w6) 1
  have awS : ∀ {W1 W2 : World}, (W1.rangeAt gl 0 [.int .i64 1, .int .u64 4660, .int .i64 8, .int .u64 5, .int .i64 2, .bool true, .bool false, .slice AL 4 cL] ∧ W1.rangeAt gb 0 [.int .i64 1, .int .u64 4660, .int .i64 8, .int .u64 5, .int .i64 2, .bool true, .bool false, .slice (some ⟨w.heap.size, 0, none⟩) 4 4] ∧ Kd.C k36 W1 (some ⟨gl, 0, none⟩) 1 [⟨1, 4660, 8, 5, ⟨2, true, false⟩, [1, 2, 3, 4]⟩] ∧ (Kd.int .i64).C W1 AL 4 [1, 2, 3, 4] ∧ (Kd.int .i64).C W1 (some ⟨w.heap.size, 0, none⟩) 4 [1, 2, 3, 4] ∧ Below w.heap.size w W1) → Below W1.heap.size W1 W2 →
      (W2.rangeAt gl 0 [.int .i64 1, .int .u64 4660, .int .i64 8, .int .u64 5, .int .i64 2, .bool true, .bool false, .slice AL 4 cL] ∧ W2.rangeAt gb 0 [.int .i64 1, .int .u64 4660, .int .i64 8, .int .u64 5, .int .i64 2, .bool true, .bool false, .slice (some ⟨w.heap.size, 0, none⟩) 4 4] ∧ Kd.C k36 W2 (some ⟨gl, 0, none⟩) 1 [⟨1, 4660, 8, 5, ⟨2, true, false⟩, [1, 2, 3, 4]⟩] ∧ (Kd.int .i64).C W2 AL 4 [1, 2, 3, 4] ∧ (Kd.int .i64).C W2 (some ⟨w.heap.size, 0, none⟩) 4 [1, 2, 3, 4] ∧ Below w.heap.size w W2) :=
    fun {W1 W2} h b => ⟨range_below h.1 b, range_below h.2.1 b, Kd.C_below h.2.2.1 b, Kd.C_below h.2.2.2.1 b, Kd.C_below h.2.2.2.2.1 b, below_step h.2.2.2.2.2 b⟩
  obtain ⟨hL, hO, hCL, hCA, hCP, hB⟩ := awS (W1 := w6) (W2 := w6.drew) ⟨hL.out, range_of hb6b.out, hCL.out, hCA.out, C_four hp6.out, hB6.out⟩ (below_drew (Below.refl _ _))
  clear hp6 hb6b hB6 bd
  refine start_ (n := 30) (S := (fun W' => W'.rangeAt gl 0 [.int .i64 1, .int .u64 4660, .int .i64 8, .int .u64 5, .int .i64 2, .bool true, .bool false, .slice AL 4 cL] ∧ W'.rangeAt gb 0 [.int .i64 1, .int .u64 4660, .int .i64 8, .int .u64 5, .int .i64 2, .bool true, .bool false, .slice (some ⟨w.heap.size, 0, none⟩) 4 4] ∧ Kd.C k36 W' (some ⟨gl, 0, none⟩) 1 [⟨1, 4660, 8, 5, ⟨2, true, false⟩, [1, 2, 3, 4]⟩] ∧ (Kd.int .i64).C W' AL 4 [1, 2, 3, 4] ∧ (Kd.int .i64).C W' (some ⟨w.heap.size, 0, none⟩) 4 [1, 2, 3, 4] ∧ Below w.heap.size w W')) (ds := []) #[false, false, false, false, false, false, false, false, false, false, false, false, false, false, false, false, false, false, false, false, false, false, false, false, false, false, false, false, false, false] (by kernel_rfl) rfl rfl ⟨hL, hO, hCL, hCA, hCP, hB⟩ (fun hHeld => ?_)
  clear hL hO hCL hCA hCP hB
  generalize World.drew _ = w9 at *
  refine pure_ (i := 0) (N := some 16) (v := ?_) (a' := ?_) #[true, false, false, false, false, false, false, false, false, false, false, false, false, false, false, false, false, false, false, false, false, false, false, false, false, false, false, false, false, false] rfl rfl (by kernel_rfl) (fun _ _ _ h => h) (Or.inl ⟨by rfl, ?_⟩) ?_ ?_
  rotate_left
  · intro w'
    first | (go_simp; done) | (go_simp; with_reducible rfl) | (go_simp; rfl)
  rotate_left
  · simp only [Act.put, List.setIfInBounds_toArray, List.set_cons_zero, List.set_cons_succ, i64_w, i32_w]
    rfl
  refine pure_ (i := 1) (N := some 17) (v := ?_) (a' := ?_) #[true, true, false, false, false, false, false, false, false, false, false, false, false, false, false, false, false, false, false, false, false, false, false, false, false, false, false, false, false, false] rfl rfl (by kernel_rfl) (fun _ _ _ h => h) (Or.inl ⟨by rfl, ?_⟩) ?_ ?_
  rotate_left
  · intro w'
    first | (go_simp; done) | (go_simp; with_reducible rfl) | (go_simp; rfl)
  rotate_left
  · simp only [Act.put, List.setIfInBounds_toArray, List.set_cons_zero, List.set_cons_succ, i64_w, i32_w]
    rfl
  refine pure_ (i := 2) (N := some 18) (v := ?_) (a' := ?_) #[true, true, true, false, false, false, false, false, false, false, false, false, false, false, false, false, false, false, false, false, false, false, false, false, false, false, false, false, false, false] rfl rfl (by kernel_rfl) (fun _ _ _ h => h) (Or.inl ⟨by rfl, ?_⟩) ?_ ?_
  rotate_left
  · intro w'
    first | (go_simp; done) | (go_simp; with_reducible rfl) | (go_simp; rfl)
  rotate_left
  · simp only [Act.put, List.setIfInBounds_toArray, List.set_cons_zero, List.set_cons_succ, i64_w, i32_w]
    rfl
  refine pure_ (i := 3) (N := some 19) (v := ?_) (a' := ?_) #[true, true, true, true, false, false, false, false, false, false, false, false, false, false, false, false, false, false, false, false, false, false, false, false, false, false, false, false, false, false] rfl rfl (by kernel_rfl) (fun _ _ _ h => h) (Or.inl ⟨by rfl, ?_⟩) ?_ ?_
  rotate_left
  · intro w'
    first | (go_simp; done) | (go_simp; with_reducible rfl) | (go_simp; rfl)
  rotate_left
  · simp only [Act.put, List.setIfInBounds_toArray, List.set_cons_zero, List.set_cons_succ, i64_w, i32_w]
    rfl
  refine pure_ (i := 4) (N := some 20) (v := ?_) (a' := ?_) #[true, true, true, true, true, false, false, false, false, false, false, false, false, false, false, false, false, false, false, false, false, false, false, false, false, false, false, false, false, false] rfl rfl (by kernel_rfl) (fun _ _ _ h => h) (Or.inl ⟨by rfl, ?_⟩) ?_ ?_
  rotate_left
  · intro w'
    first | (go_simp; done) | (go_simp; with_reducible rfl) | (go_simp; rfl)
  rotate_left
  · simp only [Act.put, List.setIfInBounds_toArray, List.set_cons_zero, List.set_cons_succ, i64_w, i32_w]
    rfl
  refine pure_ (i := 5) (N := some 21) (v := ?_) (a' := ?_) #[true, true, true, true, true, true, false, false, false, false, false, false, false, false, false, false, false, false, false, false, false, false, false, false, false, false, false, false, false, false] rfl rfl (by kernel_rfl) (fun _ _ _ h => h) (Or.inl ⟨by rfl, ?_⟩) ?_ ?_
  rotate_left
  · intro w'
    first | (go_simp; done) | (go_simp; with_reducible rfl) | (go_simp; rfl)
  rotate_left
  · simp only [Act.put, List.setIfInBounds_toArray, List.set_cons_zero, List.set_cons_succ, i64_w, i32_w]
    rfl
  refine pure_ (i := 6) (N := some 22) (v := ?_) (a' := ?_) #[true, true, true, true, true, true, true, false, false, false, false, false, false, false, false, false, false, false, false, false, false, false, false, false, false, false, false, false, false, false] rfl rfl (by kernel_rfl) (fun _ _ _ h => h) (Or.inl ⟨by rfl, ?_⟩) ?_ ?_
  rotate_left
  · intro w'
    first | (go_simp; done) | (go_simp; with_reducible rfl) | (go_simp; rfl)
  rotate_left
  · simp only [Act.put, List.setIfInBounds_toArray, List.set_cons_zero, List.set_cons_succ, i64_w, i32_w]
    rfl
  refine pure_ (i := 7) (N := some 23) (v := ?_) (a' := ?_) #[true, true, true, true, true, true, true, true, false, false, false, false, false, false, false, false, false, false, false, false, false, false, false, false, false, false, false, false, false, false] rfl rfl (by kernel_rfl) (fun _ _ _ h => h) (Or.inl ⟨by rfl, ?_⟩) ?_ ?_
  rotate_left
  · intro w'
    first | (go_simp; done) | (go_simp; with_reducible rfl) | (go_simp; rfl)
  rotate_left
  · simp only [Act.put, List.setIfInBounds_toArray, List.set_cons_zero, List.set_cons_succ, i64_w, i32_w]
    rfl
  refine pure_ (i := 8) (N := some 24) (v := ?_) (a' := ?_) #[true, true, true, true, true, true, true, true, true, false, false, false, false, false, false, false, false, false, false, false, false, false, false, false, false, false, false, false, false, false] rfl rfl (by kernel_rfl) (fun _ _ _ h => h) (Or.inl ⟨by rfl, ?_⟩) ?_ ?_
  rotate_left
  · intro w'
    first | (go_simp; done) | (go_simp; with_reducible rfl) | (go_simp; rfl)
  rotate_left
  · simp only [Act.put, List.setIfInBounds_toArray, List.set_cons_zero, List.set_cons_succ, i64_w, i32_w]
    rfl
  refine pure_ (i := 9) (N := some 25) (v := ?_) (a' := ?_) #[true, true, true, true, true, true, true, true, true, true, false, false, false, false, false, false, false, false, false, false, false, false, false, false, false, false, false, false, false, false] rfl rfl (by kernel_rfl) (fun _ _ _ h => h) (Or.inl ⟨by rfl, ?_⟩) ?_ ?_
  rotate_left
  · intro w'
    first | (go_simp; done) | (go_simp; with_reducible rfl) | (go_simp; rfl)
  rotate_left
  · simp only [Act.put, List.setIfInBounds_toArray, List.set_cons_zero, List.set_cons_succ, i64_w, i32_w]
    rfl
  refine pure_ (i := 10) (N := some 26) (v := ?_) (a' := ?_) #[true, true, true, true, true, true, true, true, true, true, true, false, false, false, false, false, false, false, false, false, false, false, false, false, false, false, false, false, false, false] rfl rfl (by kernel_rfl) (fun _ _ _ h => h) (Or.inl ⟨by rfl, ?_⟩) ?_ ?_
  rotate_left
  · intro w'
    first | (go_simp; done) | (go_simp; with_reducible rfl) | (go_simp; rfl)
  rotate_left
  · simp only [Act.put, List.setIfInBounds_toArray, List.set_cons_zero, List.set_cons_succ, i64_w, i32_w]
    rfl
  refine pure_ (i := 11) (N := some 27) (v := ?_) (a' := ?_) #[true, true, true, true, true, true, true, true, true, true, true, true, false, false, false, false, false, false, false, false, false, false, false, false, false, false, false, false, false, false] rfl rfl (by kernel_rfl) (fun _ _ _ h => h) (Or.inl ⟨by rfl, ?_⟩) ?_ ?_
  rotate_left
  · intro w'
    first | (go_simp; done) | (go_simp; with_reducible rfl) | (go_simp; rfl)
  rotate_left
  · simp only [Act.put, List.setIfInBounds_toArray, List.set_cons_zero, List.set_cons_succ, i64_w, i32_w]
    rfl
  refine pure_ (i := 12) (N := some 28) (v := ?_) (a' := ?_) #[true, true, true, true, true, true, true, true, true, true, true, true, true, false, false, false, false, false, false, false, false, false, false, false, false, false, false, false, false, false] rfl rfl (by kernel_rfl) (fun _ _ _ h => h) (Or.inl ⟨by rfl, ?_⟩) ?_ ?_
  rotate_left
  · intro w'
    first | (go_simp; done) | (go_simp; with_reducible rfl) | (go_simp; rfl)
  rotate_left
  · simp only [Act.put, List.setIfInBounds_toArray, List.set_cons_zero, List.set_cons_succ, i64_w, i32_w]
    rfl
  refine pure_ (i := 13) (N := some 29) (v := ?_) (a' := ?_) #[true, true, true, true, true, true, true, true, true, true, true, true, true, true, false, false, false, false, false, false, false, false, false, false, false, false, false, false, false, false] rfl rfl (by kernel_rfl) (fun _ _ _ h => h) (Or.inl ⟨by rfl, ?_⟩) ?_ ?_
  rotate_left
  · intro w'
    first | (go_simp; done) | (go_simp; with_reducible rfl) | (go_simp; rfl)
  rotate_left
  · simp only [Act.put, List.setIfInBounds_toArray, List.set_cons_zero, List.set_cons_succ, i64_w, i32_w]
    rfl
  refine pure_ (i := 14) (N := some 30) (v := ?_) (a' := ?_) #[true, true, true, true, true, true, true, true, true, true, true, true, true, true, true, false, false, false, false, false, false, false, false, false, false, false, false, false, false, false] rfl rfl (by kernel_rfl) (fun _ _ _ h => h) (Or.inl ⟨by rfl, ?_⟩) ?_ ?_
  rotate_left
  · intro w'
    first | (go_simp; done) | (go_simp; with_reducible rfl) | (go_simp; rfl)
  rotate_left
  · simp only [Act.put, List.setIfInBounds_toArray, List.set_cons_zero, List.set_cons_succ, i64_w, i32_w]
    rfl
  refine take_ (i := 15) (N := some 31) (v := .agg #[.int .i64 1, .int .u64 4660, .int .i64 8, .int .u64 5, .int .i64 2, .bool true, .bool false, .slice AL 4 cL]) (a' := ?_) #[true, true, true, true, true, true, true, true, true, true, true, true, true, true, true, true, false, false, false, false, false, false, false, false, false, false, false, false, false, false] rfl rfl (by kernel_rfl) (fun _ _ _ h => h) (yieldsIf_load_mid (by rfl) 36 (.tmp 30) rfl gl 0 rfl [.int .i64 1, .int .u64 4660, .int .i64 8, .int .u64 5, .int .i64 2, .bool true, .bool false, .slice AL 4 cL] _ (fun W' hW' => hW'.1) Try.underlying36 rfl size36) hHeld ?_ ?_
  rotate_left
  · simp only [Act.put, List.setIfInBounds_toArray, List.set_cons_zero, List.set_cons_succ, i64_w, i32_w]
    rfl
  refine take_ (i := 16) (N := some 32) (v := .agg #[.int .i64 1, .int .u64 4660, .int .i64 8, .int .u64 5, .int .i64 2, .bool true, .bool false, .slice (some ⟨w.heap.size, 0, none⟩) 4 4]) (a' := ?_) #[true, true, true, true, true, true, true, true, true, true, true, true, true, true, true, true, true, false, false, false, false, false, false, false, false, false, false, false, false, false] rfl rfl (by kernel_rfl) (fun _ _ _ h => h) (yieldsIf_load_mid (by rfl) 36 (.tmp 1) rfl gb 0 rfl [.int .i64 1, .int .u64 4660, .int .i64 8, .int .u64 5, .int .i64 2, .bool true, .bool false, .slice (some ⟨w.heap.size, 0, none⟩) 4 4] _ (fun W' hW' => hW'.2.1) Try.underlying36 rfl size36) hHeld ?_ ?_
  rotate_left
  · simp only [Act.put, List.setIfInBounds_toArray, List.set_cons_zero, List.set_cons_succ, i64_w, i32_w]
    rfl
  refine one_ (i := 17) (N := some 33) #[true, true, true, true, true, true, true, true, true, true, true, true, true, true, true, true, true, true, false, false, false, false, false, false, false, false, false, false, false, false] rfl rfl (by kernel_rfl) (by decide) (fun K hK => ?_)
  refine goes_ Try.func14 (by kernel_rfl) rfl #[.agg #[.int .i64 1, .int .u64 4660, .int .i64 8, .int .u64 5, .int .i64 2, .bool true, .bool false, .slice AL 4 cL], .agg #[.int .i64 1, .int .u64 4660, .int .i64 8, .int .u64 5, .int .i64 2, .bool true, .bool false, .slice (some ⟨w.heap.size, 0, none⟩) 4 4]] (by rfl) rfl rfl (by (try simp only [List.map_toArray, List.map_cons, List.map_nil]); first | done | rfl) ?_
  refine (script_Same.calls 20 1 4660 8 5 2 true false AL cL [1, 2, 3, 4] 1 4660 8 5 2 true false (some ⟨w.heap.size, 0, none⟩) 4 [1, 2, 3, 4] true _ hHeld.2.2.2.1 hcl hHeld.2.2.2.2.1 (by decide) (by decide +kernel)).mono ?_
  rintro e wa ⟨rfl, hb_⟩
  refine ⟨_, rfl, ?_⟩
  refine hK.out _ _ (awS hHeld hb_) (fun hHeld => ?_)
  clear hK K
  refine norm_ (a' := ?_) ?_ ?_
  rotate_left
  · show Act.put _ (some 33) _ = _
    simp only [Act.put, List.setIfInBounds_toArray, List.set_cons_zero, List.set_cons_succ, i64_w, i32_w]
    rfl
  refine pure_ (i := 18) (N := some 34) (v := ?_) (a' := ?_) #[true, true, true, true, true, true, true, true, true, true, true, true, true, true, true, true, true, true, true, false, false, false, false, false, false, false, false, false, false, false] rfl rfl (by kernel_rfl) (fun _ _ _ h => h) (Or.inl ⟨by rfl, ?_⟩) ?_ ?_
  rotate_left
  · intro w'
    first | (go_simp; done) | (go_simp; with_reducible rfl) | (go_simp; rfl)
  rotate_left
  · simp only [Act.put, List.setIfInBounds_toArray, List.set_cons_zero, List.set_cons_succ, i64_w, i32_w]
    rfl
  refine pure_ (i := 19) (N := some 35) (v := ?_) (a' := ?_) #[true, true, true, true, true, true, true, true, true, true, true, true, true, true, true, true, true, true, true, true, false, false, false, false, false, false, false, false, false, false] rfl rfl (by kernel_rfl) (fun _ _ _ h => h) (Or.inl ⟨by rfl, ?_⟩) ?_ ?_
  rotate_left
  · intro w'
    first | (go_simp; done) | (go_simp; with_reducible rfl) | (go_simp; rfl)
  rotate_left
  · simp only [Act.put, List.setIfInBounds_toArray, List.set_cons_zero, List.set_cons_succ, i64_w, i32_w]
    rfl
  refine take_ (i := 20) (N := some 36) (v := .agg #[.int .i64 1, .int .u64 4660, .int .i64 8, .int .u64 5, .int .i64 2, .bool true, .bool false, .slice (some ⟨w.heap.size, 0, none⟩) 4 4]) (a' := ?_) #[true, true, true, true, true, true, true, true, true, true, true, true, true, true, true, true, true, true, true, true, true, false, false, false, false, false, false, false, false, false] rfl rfl (by kernel_rfl) (fun _ _ _ h => h) (yieldsIf_load_mid (by rfl) 36 (.tmp 1) rfl gb 0 rfl [.int .i64 1, .int .u64 4660, .int .i64 8, .int .u64 5, .int .i64 2, .bool true, .bool false, .slice (some ⟨w.heap.size, 0, none⟩) 4 4] _ (fun W' hW' => hW'.2.1) Try.underlying36 rfl size36) hHeld ?_ ?_
  rotate_left
  · simp only [Act.put, List.setIfInBounds_toArray, List.set_cons_zero, List.set_cons_succ, i64_w, i32_w]
    rfl
  refine one_ (i := 21) (N := some 37) #[true, true, true, true, true, true, true, true, true, true, true, true, true, true, true, true, true, true, true, true, true, true, false, false, false, false, false, false, false, false] rfl rfl (by kernel_rfl) (by decide) (fun K hK => ?_)
  refine goes_ Try.func12 (by kernel_rfl) rfl #[.agg #[.int .i64 1, .int .u64 4660, .int .i64 8, .int .u64 5, .int .i64 2, .bool true, .bool false, .slice (some ⟨w.heap.size, 0, none⟩) 4 4]] (by rfl) rfl rfl (by (try simp only [List.map_toArray, List.map_cons, List.map_nil]); first | done | rfl) ?_
  refine (script_May.calls 20 1 4660 8 5 2 true false (some ⟨w.heap.size, 0, none⟩) 4 [1, 2, 3, 4] true _ hHeld.2.2.2.2.1 (by decide) (by decide +kernel)).mono ?_
  rintro e wb ⟨rfl, hb_⟩
  refine ⟨_, rfl, ?_⟩
  refine hK.out _ _ (awS hHeld hb_) (fun hHeld => ?_)
  clear hK K
  refine norm_ (a' := ?_) ?_ ?_
  rotate_left
  · show Act.put _ (some 37) _ = _
    simp only [Act.put, List.setIfInBounds_toArray, List.set_cons_zero, List.set_cons_succ, i64_w, i32_w]
    rfl
  refine pure_ (i := 22) (N := some 38) (v := ?_) (a' := ?_) #[true, true, true, true, true, true, true, true, true, true, true, true, true, true, true, true, true, true, true, true, true, true, true, false, false, false, false, false, false, false] rfl rfl (by kernel_rfl) (fun _ _ _ h => h) (Or.inl ⟨by rfl, ?_⟩) ?_ ?_
  rotate_left
  · intro w'
    first | (go_simp; done) | (go_simp; with_reducible rfl) | (go_simp; rfl)
  rotate_left
  · simp only [Act.put, List.setIfInBounds_toArray, List.set_cons_zero, List.set_cons_succ, i64_w, i32_w]
    rfl
  refine pure_ (i := 23) (N := some 39) (v := ?_) (a' := ?_) #[true, true, true, true, true, true, true, true, true, true, true, true, true, true, true, true, true, true, true, true, true, true, true, true, false, false, false, false, false, false] rfl rfl (by kernel_rfl) (fun _ _ _ h => h) (Or.inl ⟨by rfl, ?_⟩) ?_ ?_
  rotate_left
  · intro w'
    first | (go_simp; done) | (go_simp; with_reducible rfl) | (go_simp; rfl)
  rotate_left
  · simp only [Act.put, List.setIfInBounds_toArray, List.set_cons_zero, List.set_cons_succ, i64_w, i32_w]
    rfl
  refine pure_ (i := 24) (N := some 40) (v := ?_) (a' := ?_) #[true, true, true, true, true, true, true, true, true, true, true, true, true, true, true, true, true, true, true, true, true, true, true, true, true, false, false, false, false, false] rfl rfl (by kernel_rfl) (fun _ _ _ h => h) (Or.inl ⟨by rfl, ?_⟩) ?_ ?_
  rotate_left
  · intro w'
    first | (go_simp; done) | (go_simp; with_reducible rfl) | (go_simp; rfl)
  rotate_left
  · simp only [Act.put, List.setIfInBounds_toArray, List.set_cons_zero, List.set_cons_succ, i64_w, i32_w]
    rfl
  refine one_ (i := 25) (N := some 41) #[true, true, true, true, true, true, true, true, true, true, true, true, true, true, true, true, true, true, true, true, true, true, true, true, true, true, false, false, false, false] rfl rfl (by kernel_rfl) (by decide) (fun K hK => ?_)
  refine goes_ Try.func19 (by kernel_rfl) rfl #[.slice (some ⟨gl, 0, none⟩) 1 cl] (by rfl) rfl rfl (by (try simp only [List.map_toArray, List.map_cons, List.map_nil]); first | done | rfl) ?_
  refine (quiet_any (some ⟨gl, 0, none⟩) cl [⟨1, 4660, 8, 5, ⟨2, true, false⟩, [1, 2, 3, 4]⟩] _ hHeld.2.2.1 (by decide)).mono ?_
  rintro e wd ⟨v, rfl, hS_, hb_⟩
  obtain ⟨Aq, cq, rfl⟩ := Kd.S_slice hS_
  refine ⟨_, rfl, ?_⟩
  refine hK.out _ _ (awS hHeld hb_) (fun hHeld => ?_)
  clear hK K
  refine norm_ (a' := ?_) ?_ ?_
  rotate_left
  · show Act.put _ (some 41) _ = _
    simp only [Act.put, List.setIfInBounds_toArray, List.set_cons_zero, List.set_cons_succ, i64_w, i32_w]
    rfl
  refine pure_ (i := 26) (N := some 42) (v := ?_) (a' := ?_) #[true, true, true, true, true, true, true, true, true, true, true, true, true, true, true, true, true, true, true, true, true, true, true, true, true, true, true, false, false, false] rfl rfl (by kernel_rfl) (fun _ _ _ h => h) (Or.inl ⟨by rfl, ?_⟩) ?_ ?_
  rotate_left
  · intro w'
    first | (go_simp; done) | (go_simp; with_reducible rfl) | (go_simp; rfl)
  rotate_left
  · simp only [Act.put, List.setIfInBounds_toArray, List.set_cons_zero, List.set_cons_succ, i64_w, i32_w]
    rfl
  refine pure_ (i := 27) (N := some 43) (v := ?_) (a' := ?_) #[true, true, true, true, true, true, true, true, true, true, true, true, true, true, true, true, true, true, true, true, true, true, true, true, true, true, true, true, false, false] rfl rfl (by kernel_rfl) (fun _ _ _ h => h) (Or.inl ⟨by rfl, ?_⟩) ?_ ?_
  rotate_left
  · intro w'
    first | (go_simp; done) | (go_simp; with_reducible rfl) | (go_simp; rfl)
  rotate_left
  · simp only [Act.put, List.setIfInBounds_toArray, List.set_cons_zero, List.set_cons_succ, i64_w, i32_w]
    rfl
  refine pure_ (i := 28) (N := some 44) (v := ?_) (a' := ?_) #[true, true, true, true, true, true, true, true, true, true, true, true, true, true, true, true, true, true, true, true, true, true, true, true, true, true, true, true, true, false] rfl rfl (by kernel_rfl) (fun _ _ _ h => h) (Or.inl ⟨by rfl, ?_⟩) ?_ ?_
  rotate_left
  · intro w'
    first | (go_simp; done) | (go_simp; with_reducible rfl) | (go_simp; rfl)
  rotate_left
  · simp only [Act.put, List.setIfInBounds_toArray, List.set_cons_zero, List.set_cons_succ, i64_w, i32_w]
    rfl
  refine pure_ (i := 29) (N := some 0) (v := ?_) (a' := ?_) #[true, true, true, true, true, true, true, true, true, true, true, true, true, true, true, true, true, true, true, true, true, true, true, true, true, true, true, true, true, true] rfl rfl (by kernel_rfl) (fun _ _ _ h => h) (Or.inl ⟨by rfl, ?_⟩) ?_ ?_
  rotate_left
  · intro w'
    first | (go_simp; done) | (go_simp; with_reducible rfl) | (go_simp; rfl)
  rotate_left
  · simp only [Act.put, List.setIfInBounds_toArray, List.set_cons_zero, List.set_cons_succ, i64_w, i32_w]
    rfl
  refine done_ (by kernel_rfl) ?_
  try go_wp2_with fail
  go_ret
  exact ⟨rfl, hHeld.2.2.2.2.2⟩
def dormerlaw20_awake.f : Option (Bool) := some true
theorem dormerlaw20_awake.calls (r : Bool) (w : World) (h : dormerlaw20_awake.f = some r) :
    Calls Try.prog 9 #[] w fun e w' => e = .returned (.bool r) ∧ Below w.heap.size w w' := by
  injection h with h
  subst h
  exact awake_any w
end Go.Proofs.Ytlccjklljlddhaa.Fn
