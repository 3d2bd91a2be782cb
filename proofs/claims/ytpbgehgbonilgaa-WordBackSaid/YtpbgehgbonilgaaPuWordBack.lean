/- A word is told of its bytes; bytes are told of their word. No condition. -/
import Derived.Test.YtpbgehgbonilgaaCn
import Derived.Test.YtpbgehgbonilgaaFw
import Derived.Lib.Hide
set_option linter.unusedVariables false
set_option linter.unusedSimpArgs false
namespace Go.Proofs.Ytpbgehgbonilgaa.Pu
open Go.RowKit Go.Proofs.Ytpbgehgbonilgaa.NL Go.Proofs.Ytpbgehgbonilgaa.Fn Go.Proofs.YtpbgehgbonilgaaW.PrintWords Go.Proofs.YtpbgehgbonilgaaW.PrintLast Go.Proofs.YtpbgehgbonilgaaW.PrintMore
theorem awake2 : dormerlaw02_awake.f 200 = some true := by decide +kernel
theorem il (bs : List Nat) (h : bs.length = 8) : (ints bs).length = 8 := by rw [ints_length, h]
theorem bytes_any (x : Nat) (hx : x < 2 ^ 64) (w : World) : Calls Try.prog 28 #[.int .u64 (x : Int)] w fun e w' => ∃ A c, e = .returned (.slice A 8 c) ∧ (8 ≤ c ∧ (Kd.int .u8).C w' A 8 (ints (bytesN x))) ∧
    Hid (∀ W', Below w'.heap.size w' W' → (convert 42 9 (.slice A 8 c)).run Try.prog W' = .ok (.string (strOfNums (ints (bytesN x)))) W') ∧ Below w.heap.size w w' := by
  refine (word_Bytes.calls 200 x _ w (NF.bytes (by omega) hx)).mono ?_
  rintro e w' ⟨v, rfl, ho, hb⟩
  obtain ⟨A, c, rfl, hl, hC⟩ := Kd.R_reads ho
  rw [il _ (bytesN_length x)] at hC hl ⊢
  exact ⟨A, c, rfl, ⟨hl, hC⟩, fun W' hW => Kd.C_string Try.underlying42 Try.underlying5 Try.underlying9 (Kd.C_below hC hW), hb⟩
theorem bytes_of (x : Nat) (bs : List Nat) (hx : x < 2 ^ 64) (h : Hid (bytesN x = bs)) (w : World) : Calls Try.prog 28 #[.int .u64 (x : Int)] w fun e w' => ∃ A c, e = .returned (.slice A 8 c) ∧ (8 ≤ c ∧ (Kd.int .u8).C w' A 8 (ints bs)) ∧
    Hid (∀ W', Below w'.heap.size w' W' → (convert 42 9 (.slice A 8 c)).run Try.prog W' = .ok (.string (strOfNums (ints bs))) W') ∧ Below w.heap.size w w' := by
  have := bytes_any x hx w
  rw [h.out] at this
  exact this
theorem from_any (bs : List Nat) (A : Option Addr) (c : Nat) (hl : bs.length = 8) (h : ∀ b ∈ bs, b < 256) (w : World) (hc : 8 ≤ c ∧ (Kd.int .u8).C w A 8 (ints bs)) :
    Calls Try.prog 27 #[.slice A 8 c] w fun e w' => e = .returned (.tuple #[.int .u64 ((valN bs : Nat) : Int), .int .i64 0]) ∧ Drawn0 w w' := by
  obtain ⟨hc1, hc2⟩ := hc
  have := word_From.calls 200 A c (ints bs) _ _ w (by rw [il bs hl]; exact hc2) (by rw [il bs hl]; exact hc1) (NF.from_ (by omega) hl h)
  rw [il bs hl] at this
  exact this
set_option maxHeartbeats 1000000 in
set_option maxRecDepth 100000 in
theorem back_any (x b0 b1 b2 b3 b4 b5 b6 b7 : Nat) (w : World) (hx : x < 2 ^ 64) (hb : ∀ b ∈ [b0, b1, b2, b3, b4, b5, b6, b7], b < 256) :
    Calls Try.prog 9 #[.int .u64 (x : Int), .agg #[.int .u8 (b0 : Int), .int .u8 (b1 : Int), .int .u8 (b2 : Int), .int .u8 (b3 : Int), .int .u8 (b4 : Int), .int .u8 (b5 : Int), .int .u8 (b6 : Int), .int .u8 (b7 : Int)]] w fun e w' => e = .returned (.bool true) ∧ Below w.heap.size w w' := by
  go_enter Try.func9, Try.ntmps9
  go_wp2_with fail
  refine (dormerlaw02_awake.calls 200 true _ awake2).mono ?_
  rintro e w1 ⟨rfl, HB1⟩
  have HC : 8 ≤ 8 ∧ (Kd.int .u8).C w1 (some ⟨w.heap.size, 0, none⟩) 8 (ints [b0, b1, b2, b3, b4, b5, b6, b7]) := ⟨Nat.le_refl _, by
    refine Kd.C_below ?_ HB1
    refine Kd.C_of_reads (enc := Value.int .u8) (d := (0 : Int)) (h1 := fun _ => rfl) ⟨rfl, by decide, fun _ => ⟨_, rfl, fun j hj => ?_⟩⟩
    rw [add_plain, World.cell?_alloc_at _ _ _ _ rfl]
    match j, hj with
    | 0, _ | 1, _ | 2, _ | 3, _ | 4, _ | 5, _ | 6, _ | 7, _ => rfl⟩
  have HB := Aside0.mk (below_step (below_alloc (Below.refl _ w) _) HB1)
  clear HB1
  go_wp2_with fail
  refine (bytes_any x hx _).mono ?_
  rintro e w2 ⟨A, c, rfl, hC, hcv, hb2⟩
  go_wp2_with fail
  refine (from_any (bytesN x) A c (bytesN_length x) (bytesN_lt x) _ hC).mono ?_
  rw [val_bytes hx]
  rintro e w3 ⟨rfl, ⟨nd, rfl⟩⟩
  have HC2 := And.intro HC.1 (Kd.C_drewN (Kd.C_below HC.2 hb2) nd)
  have HB2 := Aside0.mk (pw_below_drewN (below_step HB.out hb2) nd)
  clear HC HB hcv hC hb2
  go_wp2_with fail
  refine (from_any [b0, b1, b2, b3, b4, b5, b6, b7] _ _ rfl hb _ HC2).mono ?_
  rintro e w4 ⟨rfl, ⟨nd2, rfl⟩⟩
  have HC := And.intro HC2.1 (Kd.C_drewN HC2.2 nd2)
  have HB := Aside0.mk (pw_below_drewN HB2.out nd2)
  clear HC2 HB2
  have hz := valN_lt64 (bs := [b0, b1, b2, b3, b4, b5, b6, b7]) rfl hb
  have hbv := bytes_val (bs := [b0, b1, b2, b3, b4, b5, b6, b7]) rfl hb
  generalize valN [b0, b1, b2, b3, b4, b5, b6, b7] = z at *
  have Hbv := Lib.hid hbv
  clear hbv
  go_wp2_with fail
  have HC0 : (Kd.int .u8).C (w2.drewN (nd + nd2)) (some ⟨w.heap.size, 0, none⟩) 8 (ints [b0, b1, b2, b3, b4, b5, b6, b7]) := by rw [← World.drewN_drewN]; exact HC.2
  have HB0 : Below w.heap.size w (w2.drewN (nd + nd2)) := by rw [← World.drewN_drewN]; exact HB.out
  clear HC HB
  have HB := Aside0.mk HB0
  clear HB0
  have hcv0 : ∀ W', Below (w2.drewN (nd + nd2)).heap.size (w2.drewN (nd + nd2)) W' → (convert 42 9 (.slice (some ⟨w.heap.size, 0, none⟩) 8 8)).run Try.prog W' = .ok (.string (strOfNums (ints [b0, b1, b2, b3, b4, b5, b6, b7]))) W' :=
    fun W' hW => Kd.C_string Try.underlying42 Try.underlying5 Try.underlying9 (Kd.C_below HC0 hW)
  clear HC0
  generalize w2.drewN (nd + nd2) = W0 at *
  have hcv1 := hcv0 W0 (Below.refl _ _)
  have Hcv := Lib.hid hcv0
  clear hcv0
  refine start_ (n := 29) (S := fun W' => (convert 42 9 (.slice (some ⟨w.heap.size, 0, none⟩) 8 8)).run Try.prog W' = .ok (.string (strOfNums (ints [b0, b1, b2, b3, b4, b5, b6, b7]))) W') (ds := []) #[false, false, false, false, false, false, false, false, false, false, false, false, false, false, false, false, false, false, false, false, false, false, false, false, false, false, false, false, false] (by kernel_rfl) rfl rfl (Hcv.out _ (below_drew (Below.refl _ _))) (fun hHeld => ?_)
  have HW := Aside0.mk (below_drew (Below.refl W0.heap.size W0))
  have HB1 := Aside0.mk (below_drew HB.out)
  clear HB hcv1
  generalize W0.drew = W1 at *
  refine pure_ (i := 0) (N := some 22) (v := ?_) (a' := ?_) #[true, false, false, false, false, false, false, false, false, false, false, false, false, false, false, false, false, false, false, false, false, false, false, false, false, false, false, false, false] rfl rfl (by kernel_rfl) (fun _ _ _ h => h) (Or.inl ⟨by rfl, ?_⟩) ?_ ?_
  rotate_left
  · intro w'
    first | (go_simp; done) | (go_simp; with_reducible rfl)
  rotate_left
  · simp only [Act.put, List.setIfInBounds_toArray, List.set_cons_zero, List.set_cons_succ, i64_w, i32_w]
    rfl
  refine pure_ (i := 1) (N := some 23) (v := ?_) (a' := ?_) #[true, true, false, false, false, false, false, false, false, false, false, false, false, false, false, false, false, false, false, false, false, false, false, false, false, false, false, false, false] rfl rfl (by kernel_rfl) (fun _ _ _ h => h) (Or.inl ⟨by rfl, ?_⟩) ?_ ?_
  rotate_left
  · intro w'
    first | (go_simp; done) | (go_simp; with_reducible rfl)
  rotate_left
  · simp only [Act.put, List.setIfInBounds_toArray, List.set_cons_zero, List.set_cons_succ, i64_w, i32_w]
    rfl
  refine pure_ (i := 2) (N := some 24) (v := ?_) (a' := ?_) #[true, true, true, false, false, false, false, false, false, false, false, false, false, false, false, false, false, false, false, false, false, false, false, false, false, false, false, false, false] rfl rfl (by kernel_rfl) (fun _ _ _ h => h) (Or.inl ⟨by rfl, ?_⟩) ?_ ?_
  rotate_left
  · intro w'
    first | (go_simp; done) | (go_simp; with_reducible rfl)
  rotate_left
  · simp only [Act.put, List.setIfInBounds_toArray, List.set_cons_zero, List.set_cons_succ, i64_w, i32_w]
    rfl
  refine pure_ (i := 3) (N := some 25) (v := ?_) (a' := ?_) #[true, true, true, true, false, false, false, false, false, false, false, false, false, false, false, false, false, false, false, false, false, false, false, false, false, false, false, false, false] rfl rfl (by kernel_rfl) (fun _ _ _ h => h) (Or.inl ⟨by rfl, ?_⟩) ?_ ?_
  rotate_left
  · intro w'
    first | (go_simp; done) | (go_simp; with_reducible rfl)
  rotate_left
  · simp only [Act.put, List.setIfInBounds_toArray, List.set_cons_zero, List.set_cons_succ, i64_w, i32_w]
    rfl
  refine pure_ (i := 4) (N := some 26) (v := ?_) (a' := ?_) #[true, true, true, true, true, false, false, false, false, false, false, false, false, false, false, false, false, false, false, false, false, false, false, false, false, false, false, false, false] rfl rfl (by kernel_rfl) (fun _ _ _ h => h) (Or.inl ⟨by rfl, ?_⟩) ?_ ?_
  rotate_left
  · intro w'
    first | (go_simp; done) | (go_simp; with_reducible rfl)
  rotate_left
  · simp only [Act.put, List.setIfInBounds_toArray, List.set_cons_zero, List.set_cons_succ, i64_w, i32_w]
    rfl
  refine pure_ (i := 5) (N := some 27) (v := ?_) (a' := ?_) #[true, true, true, true, true, true, false, false, false, false, false, false, false, false, false, false, false, false, false, false, false, false, false, false, false, false, false, false, false] rfl rfl (by kernel_rfl) (fun _ _ _ h => h) (Or.inl ⟨by rfl, ?_⟩) ?_ ?_
  rotate_left
  · intro w'
    first | (go_simp; done) | (go_simp; with_reducible rfl)
  rotate_left
  · simp only [Act.put, List.setIfInBounds_toArray, List.set_cons_zero, List.set_cons_succ, i64_w, i32_w]
    rfl
  refine pure_ (i := 6) (N := some 28) (v := ?_) (a' := ?_) #[true, true, true, true, true, true, true, false, false, false, false, false, false, false, false, false, false, false, false, false, false, false, false, false, false, false, false, false, false] rfl rfl (by kernel_rfl) (fun _ _ _ h => h) (Or.inl ⟨by rfl, ?_⟩) ?_ ?_
  rotate_left
  · intro w'
    first | (go_simp; done) | (go_simp; with_reducible rfl)
  rotate_left
  · simp only [Act.put, List.setIfInBounds_toArray, List.set_cons_zero, List.set_cons_succ, i64_w, i32_w]
    rfl
  refine pure_ (i := 7) (N := some 29) (v := ?_) (a' := ?_) #[true, true, true, true, true, true, true, true, false, false, false, false, false, false, false, false, false, false, false, false, false, false, false, false, false, false, false, false, false] rfl rfl (by kernel_rfl) (fun _ _ _ h => h) (Or.inl ⟨by rfl, ?_⟩) ?_ ?_
  rotate_left
  · intro w'
    first | (go_simp; done) | (go_simp; with_reducible rfl)
  rotate_left
  · simp only [Act.put, List.setIfInBounds_toArray, List.set_cons_zero, List.set_cons_succ, i64_w, i32_w]
    rfl
  refine pure_ (i := 8) (N := some 30) (v := ?_) (a' := ?_) #[true, true, true, true, true, true, true, true, true, false, false, false, false, false, false, false, false, false, false, false, false, false, false, false, false, false, false, false, false] rfl rfl (by kernel_rfl) (fun _ _ _ h => h) (Or.inl ⟨by rfl, ?_⟩) ?_ ?_
  rotate_left
  · intro w'
    first | (go_simp; done) | (go_simp; with_reducible rfl)
  rotate_left
  · simp only [Act.put, List.setIfInBounds_toArray, List.set_cons_zero, List.set_cons_succ, i64_w, i32_w]
    rfl
  refine pure_ (i := 9) (N := some 31) (v := ?_) (a' := ?_) #[true, true, true, true, true, true, true, true, true, true, false, false, false, false, false, false, false, false, false, false, false, false, false, false, false, false, false, false, false] rfl rfl (by kernel_rfl) (fun _ _ _ h => h) (Or.inl ⟨by rfl, ?_⟩) ?_ ?_
  rotate_left
  · intro w'
    first | (go_simp; done) | (go_simp; with_reducible rfl)
  rotate_left
  · simp only [Act.put, List.setIfInBounds_toArray, List.set_cons_zero, List.set_cons_succ, i64_w, i32_w]
    rfl
  refine pure_ (i := 10) (N := some 32) (v := ?_) (a' := ?_) #[true, true, true, true, true, true, true, true, true, true, true, false, false, false, false, false, false, false, false, false, false, false, false, false, false, false, false, false, false] rfl rfl (by kernel_rfl) (fun _ _ _ h => h) (Or.inl ⟨by rfl, ?_⟩) ?_ ?_
  rotate_left
  · intro w'
    first | (go_simp; done) | (go_simp; with_reducible rfl)
  rotate_left
  · simp only [Act.put, List.setIfInBounds_toArray, List.set_cons_zero, List.set_cons_succ, i64_w, i32_w]
    rfl
  refine pure_ (i := 11) (N := some 33) (v := ?_) (a' := ?_) #[true, true, true, true, true, true, true, true, true, true, true, true, false, false, false, false, false, false, false, false, false, false, false, false, false, false, false, false, false] rfl rfl (by kernel_rfl) (fun _ _ _ h => h) (Or.inl ⟨by rfl, ?_⟩) ?_ ?_
  rotate_left
  · intro w'
    first | (go_simp; done) | (go_simp; with_reducible rfl)
  rotate_left
  · simp only [Act.put, List.setIfInBounds_toArray, List.set_cons_zero, List.set_cons_succ, i64_w, i32_w]
    rfl
  refine pure_ (i := 12) (N := some 34) (v := ?_) (a' := ?_) #[true, true, true, true, true, true, true, true, true, true, true, true, true, false, false, false, false, false, false, false, false, false, false, false, false, false, false, false, false] rfl rfl (by kernel_rfl) (fun _ _ _ h => h) (Or.inl ⟨by rfl, ?_⟩) ?_ ?_
  rotate_left
  · intro w'
    first | (go_simp; done) | (go_simp; with_reducible rfl)
  rotate_left
  · simp only [Act.put, List.setIfInBounds_toArray, List.set_cons_zero, List.set_cons_succ, i64_w, i32_w]
    rfl
  refine pure_ (i := 13) (N := some 35) (v := ?_) (a' := ?_) #[true, true, true, true, true, true, true, true, true, true, true, true, true, true, false, false, false, false, false, false, false, false, false, false, false, false, false, false, false] rfl rfl (by kernel_rfl) (fun _ _ _ h => h) (Or.inl ⟨by rfl, ?_⟩) ?_ ?_
  rotate_left
  · intro w'
    first | (go_simp; done) | (go_simp; with_reducible rfl)
  rotate_left
  · simp only [Act.put, List.setIfInBounds_toArray, List.set_cons_zero, List.set_cons_succ, i64_w, i32_w]
    rfl
  refine pure_ (i := 14) (N := some 36) (v := ?_) (a' := ?_) #[true, true, true, true, true, true, true, true, true, true, true, true, true, true, true, false, false, false, false, false, false, false, false, false, false, false, false, false, false] rfl rfl (by kernel_rfl) (fun _ _ _ h => h) (Or.inl ⟨by rfl, ?_⟩) ?_ ?_
  rotate_left
  · intro w'
    first | (go_simp; done) | (go_simp; with_reducible rfl)
  rotate_left
  · simp only [Act.put, List.setIfInBounds_toArray, List.set_cons_zero, List.set_cons_succ, i64_w, i32_w]
    rfl
  refine pure_ (i := 15) (N := some 37) (v := ?_) (a' := ?_) #[true, true, true, true, true, true, true, true, true, true, true, true, true, true, true, true, false, false, false, false, false, false, false, false, false, false, false, false, false] rfl rfl (by kernel_rfl) (fun _ _ _ h => h) (Or.inl ⟨by rfl, ?_⟩) ?_ ?_
  rotate_left
  · intro w'
    first | (go_simp; done) | (go_simp; with_reducible rfl)
  rotate_left
  · simp only [Act.put, List.setIfInBounds_toArray, List.set_cons_zero, List.set_cons_succ, i64_w, i32_w]
    rfl
  refine pure_ (i := 18) (N := some 40) (v := ?_) (a' := ?_) #[true, true, true, true, true, true, true, true, true, true, true, true, true, true, true, true, false, false, true, false, false, false, false, false, false, false, false, false, false] rfl rfl (by kernel_rfl) (fun _ _ _ h => h) (Or.inl ⟨by rfl, ?_⟩) ?_ ?_
  rotate_left
  · intro w'
    first | (go_simp; done) | (go_simp; with_reducible rfl)
  rotate_left
  · simp only [Act.put, List.setIfInBounds_toArray, List.set_cons_zero, List.set_cons_succ, i64_w, i32_w]
    rfl
  refine take_ (i := 19) (N := some 41) (v := ?_) (a' := ?_) #[true, true, true, true, true, true, true, true, true, true, true, true, true, true, true, true, false, false, true, true, false, false, false, false, false, false, false, false, false] rfl rfl (by kernel_rfl) (fun _ _ _ h => h) (Or.inl ⟨by rfl, ?_⟩) hHeld ?_ ?_
  rotate_left
  · intro w' hSw
    (try dsimp only at hSw)
    first | (go_simp; done) | (go_simp; with_reducible rfl)
  rotate_left
  · simp only [Act.put, List.setIfInBounds_toArray, List.set_cons_zero, List.set_cons_succ, i64_w, i32_w]
    rfl
  refine one_ (i := 16) (N := some 38) #[true, true, true, true, true, true, true, true, true, true, true, true, true, true, true, true, true, false, true, true, false, false, false, false, false, false, false, false, false] rfl rfl (by kernel_rfl) (by decide) (fun K hK => ?_)
  refine goes_ Try.func28 (by kernel_rfl) rfl #[.int .u64 (z : Int)] (by rfl) rfl rfl (by (try simp only [List.map_toArray, List.map_cons, List.map_nil]); first | done | rfl) ?_
  with_reducible refine (bytes_of z _ hz Hbv _).mono ?_
  rintro e w5 ⟨A5, c5, rfl, hC5, hcv5, hb5⟩
  have HW5 := Aside0.mk (below_step HW.out hb5)
  have HB5 := Aside0.mk (below_step HB1.out hb5)
  clear HW HB1 hb5
  have hcv5b := hcv5.out _ (Below.refl _ _)
  refine ⟨_, rfl, ?_⟩
  refine hK.out _ _ (Hcv.out _ HW5.out) (fun hHeld => ?_)
  clear hK K
  refine norm_ (a' := ?_) ?_ ?_
  rotate_left
  · show Act.put _ (some 38) _ = _
    simp only [Act.put, List.setIfInBounds_toArray, List.set_cons_zero, List.set_cons_succ, i64_w, i32_w]
    rfl
  refine one_ (i := 17) (N := some 39) #[true, true, true, true, true, true, true, true, true, true, true, true, true, true, true, true, true, true, true, true, false, false, false, false, false, false, false, false, false] rfl rfl (by kernel_rfl) (by decide) (fun K hK => ?_)
  refine value_ (w1 := ?_) (v := ?_) (by rfl) rfl ?_ ?_
  rotate_left 2
  · go_simp
    constructor
    · rfl
    · rfl
  refine hK.out _ _ (Hcv.out _ HW5.out) (fun hHeld => ?_)
  clear hK K
  refine norm_ (a' := ?_) ?_ ?_
  rotate_left
  · show Act.put _ (some 39) _ = _
    simp only [Act.put, List.setIfInBounds_toArray, List.set_cons_zero, List.set_cons_succ, i64_w, i32_w]
    rfl
  refine pure_ (i := 20) (N := some 42) (v := ?_) (a' := ?_) #[true, true, true, true, true, true, true, true, true, true, true, true, true, true, true, true, true, true, true, true, true, false, false, false, false, false, false, false, false] rfl rfl (by kernel_rfl) (fun _ _ _ h => h) (Or.inl ⟨by rfl, ?_⟩) ?_ ?_
  rotate_left
  · intro w'
    first | (go_simp; done) | (go_simp; with_reducible rfl)
  rotate_left
  · simp only [Act.put, List.setIfInBounds_toArray, List.set_cons_zero, List.set_cons_succ, i64_w, i32_w]
    rfl
  refine pure_ (i := 21) (N := some 43) (v := ?_) (a' := ?_) #[true, true, true, true, true, true, true, true, true, true, true, true, true, true, true, true, true, true, true, true, true, true, false, false, false, false, false, false, false] rfl rfl (by kernel_rfl) (fun _ _ _ h => h) (Or.inl ⟨by rfl, ?_⟩) ?_ ?_
  rotate_left
  · intro w'
    first | (go_simp; done) | (go_simp; with_reducible rfl)
  rotate_left
  · simp only [Act.put, List.setIfInBounds_toArray, List.set_cons_zero, List.set_cons_succ, i64_w, i32_w]
    rfl
  refine pure_ (i := 22) (N := some 44) (v := ?_) (a' := ?_) #[true, true, true, true, true, true, true, true, true, true, true, true, true, true, true, true, true, true, true, true, true, true, true, false, false, false, false, false, false] rfl rfl (by kernel_rfl) (fun _ _ _ h => h) (Or.inl ⟨by rfl, ?_⟩) ?_ ?_
  rotate_left
  · intro w'
    first | (go_simp; done) | (go_simp; with_reducible rfl)
  rotate_left
  · simp only [Act.put, List.setIfInBounds_toArray, List.set_cons_zero, List.set_cons_succ, i64_w, i32_w]
    rfl
  refine pure_ (i := 23) (N := some 45) (v := ?_) (a' := ?_) #[true, true, true, true, true, true, true, true, true, true, true, true, true, true, true, true, true, true, true, true, true, true, true, true, false, false, false, false, false] rfl rfl (by kernel_rfl) (fun _ _ _ h => h) (Or.inl ⟨by rfl, ?_⟩) ?_ ?_
  rotate_left
  · intro w'
    first | (go_simp; done) | (go_simp; with_reducible rfl)
  rotate_left
  · simp only [Act.put, List.setIfInBounds_toArray, List.set_cons_zero, List.set_cons_succ, i64_w, i32_w]
    rfl
  refine one_ (i := 24) (N := some 46) #[true, true, true, true, true, true, true, true, true, true, true, true, true, true, true, true, true, true, true, true, true, true, true, true, true, false, false, false, false] rfl rfl (by kernel_rfl) (by decide) (fun K hK => ?_)
  refine goes_ Try.func28 (by kernel_rfl) rfl #[.int .u64 (x : Int)] (by rfl) rfl rfl (by (try simp only [List.map_toArray, List.map_cons, List.map_nil]); first | done | rfl) ?_
  with_reducible refine (bytes_any x hx _).mono ?_
  rintro e w6 ⟨A6, c6, rfl, hC6, hcv6, hb6⟩
  have HW6 := Aside0.mk (below_step HW5.out hb6)
  have HB6 := Aside0.mk (below_step HB5.out hb6)
  clear HW5 HB5 hb6 hcv5b
  refine ⟨_, rfl, ?_⟩
  refine hK.out _ _ (Hcv.out _ HW6.out) (fun hHeld => ?_)
  clear hK K
  refine norm_ (a' := ?_) ?_ ?_
  rotate_left
  · show Act.put _ (some 46) _ = _
    simp only [Act.put, List.setIfInBounds_toArray, List.set_cons_zero, List.set_cons_succ, i64_w, i32_w]
    rfl
  refine pure_ (i := 25) (N := some 47) (v := ?_) (a' := ?_) #[true, true, true, true, true, true, true, true, true, true, true, true, true, true, true, true, true, true, true, true, true, true, true, true, true, true, false, false, false] rfl rfl (by kernel_rfl) (fun _ _ _ h => h) (Or.inl ⟨by rfl, ?_⟩) ?_ ?_
  rotate_left
  · intro w'
    first | (go_simp; done) | (go_simp; with_reducible rfl)
  rotate_left
  · simp only [Act.put, List.setIfInBounds_toArray, List.set_cons_zero, List.set_cons_succ, i64_w, i32_w]
    rfl
  refine pure_ (i := 26) (N := some 48) (v := ?_) (a' := ?_) #[true, true, true, true, true, true, true, true, true, true, true, true, true, true, true, true, true, true, true, true, true, true, true, true, true, true, true, false, false] rfl rfl (by kernel_rfl) (fun _ _ _ h => h) (Or.inl ⟨by rfl, ?_⟩) ?_ ?_
  rotate_left
  · intro w'
    first | (go_simp; done) | (go_simp; with_reducible rfl)
  rotate_left
  · simp only [Act.put, List.setIfInBounds_toArray, List.set_cons_zero, List.set_cons_succ, i64_w, i32_w]
    rfl
  refine pure_ (i := 27) (N := some 49) (v := ?_) (a' := ?_) #[true, true, true, true, true, true, true, true, true, true, true, true, true, true, true, true, true, true, true, true, true, true, true, true, true, true, true, true, false] rfl rfl (by kernel_rfl) (fun _ _ _ h => h) (Or.inl ⟨by rfl, ?_⟩) ?_ ?_
  rotate_left
  · intro w'
    first | (go_simp; done) | (go_simp; with_reducible rfl)
  rotate_left
  · simp only [Act.put, List.setIfInBounds_toArray, List.set_cons_zero, List.set_cons_succ, i64_w, i32_w]
    rfl
  refine pure_ (i := 28) (N := some 4) (v := ?_) (a' := ?_) #[true, true, true, true, true, true, true, true, true, true, true, true, true, true, true, true, true, true, true, true, true, true, true, true, true, true, true, true, true] rfl rfl (by kernel_rfl) (fun _ _ _ h => h) (Or.inl ⟨by rfl, ?_⟩) ?_ ?_
  rotate_left
  · intro w'
    first | (go_simp; done) | (go_simp; with_reducible rfl)
  rotate_left
  · simp only [Act.put, List.setIfInBounds_toArray, List.set_cons_zero, List.set_cons_succ, i64_w, i32_w]
    rfl
  refine done_ (by kernel_rfl) ?_
  try go_wp2
  go_ret
  exact ⟨rfl, HB6.out⟩
theorem WordBack (a0 : Int) (xs : List Int) (w : World) (hn : xs.length = 8) (w0 : (Lit.int .u64 a0).wf = true) (w1 : ∀ x ∈ xs, (Lit.int .u8 x).wf = true) :
    Calls Try.prog 9 #[.int .u64 a0, .agg (xs.map (Value.int .u8)).toArray] w fun e w' => e = .returned (.bool true) ∧ Below w.heap.size w w' := by
  have u0 := u64_lit w0
  obtain ⟨x, rfl⟩ := Int.eq_ofNat_of_zero_le u0.1
  have hx := nat_lt u0.2
  obtain ⟨bs, rfl, hb⟩ := ints_of w1
  rw [ints_length] at hn
  match bs, hn, hb with
  | [b0, b1, b2, b3, b4, b5, b6, b7], _, hb => exact back_any x b0 b1 b2 b3 b4 b5 b6 b7 w hx hb
end Go.Proofs.Ytpbgehgbonilgaa.Pu
