/- The document's memory beside the reference's: what a deed does to both. Conditions: those each lemma names. -/
import Derived.Test.YtpkffpcdmglleaaR2
set_option linter.unusedVariables false
set_option linter.unusedSimpArgs false
namespace Go.Proofs.Ytpkffpcdmglleaa.RM
open Go.RowKit Go.Proofs.Ytpkffpcdmglleaa.Fn Go.Proofs.YtpkffpcdmglleaaW.PrintWords Go.Proofs.YtpkffpcdmglleaaW.PrintMore Go.Proofs.YtpkffpcdmglleaaW.PrintLast
section
variable {P : Program} {ops : Array Oper} {rest : List Oper} {o : Oper} {a : Act} {Q : Exit → Act → World → Prop} {w : World}
theorem run_store_op (ty : TypeId) (x y : Operand) (ho : o.op = .store ty x y) (g i : Nat) (u : Value) (seg : List Value) (hx : a.eval x = .pointer (some ⟨g, i, none⟩)) (hy : a.eval y = u) (hu : u.cells.toList = seg)
    (t : TypeId) (old : Array Value) (hg : w.heap[g]? = some (.cells old t (0, 0))) (hi : (P.info? ty).map (·.size) = some seg.length) (hfit : i + seg.length ≤ old.size) (h1 : ∀ q ∈ seg, q.oneCell' = true) :
    (execOp a.eval o).run P w = .ok .skip (w.setCells g i seg) := by
  unfold execOp
  simp only [ho, hx, hy, Sem.run_bind, run_store_run ty u seg hg hu hi hfit h1, Result.andThen_ok]
  rfl
theorem grown_cells (w : World) (g i : Nat) (seg : List Value) : w.grownBy (w.setCells g i seg) (some g) := by
  induction seg generalizing w i with
  | nil => exact ⟨rfl, rfl, rfl, Nat.le_refl _, fun _ _ _ => rfl⟩
  | cons v r ih =>
    have h1 := ih (w.setCell ⟨g, i, none⟩ v) (i + 1)
    have h0 : w.grownBy (w.setCell ⟨g, i, none⟩ v) (some g) := ⟨rfl, rfl, rfl, by simp [World.setCell], fun k _ hk => Below.heap_setCell w ⟨g, i, none⟩ v k (fun e => hk (by rw [e]))⟩
    exact ⟨h1.1.trans h0.1, h1.2.trans h0.2, h1.3.trans h0.3, Nat.le_trans h0.4 h1.4, fun k hk hne => (h1.5 k (Nat.lt_of_lt_of_le hk h0.4) hne).trans (h0.5 k hk hne)⟩
end
/-- The reference's slots and trace are the document's. -/
def Rel (m : Me.Wt) (r : Rm) : Prop := (∀ s, wN r.sl (8 * s) = m.wd s) ∧ m.tr = r.tr ∧ Ok r.sl
theorem Rel.put {m : Me.Wt} {r : Rm} (h : Rel m r) (s x : Nat) (hs : 8 * s < 18446744073709551616) (hx : x < 18446744073709551616) : Rel ⟨Me.put m.wd s x, m.tr⟩ ⟨sN' r.sl (8 * s) x false, r.tr⟩ := by
  refine ⟨fun t => ?_, h.2.1, sN_ok h.2.2 hs hx false⟩
  show wN (sN' r.sl (8 * s) x false) (8 * t) = Me.put m.wd s x t
  rw [sN_word]
  unfold Me.put
  by_cases e : t = s
  · subst e; simp
  · rw [if_neg (by omega), if_neg e]; exact h.1 t
theorem rel_step {m : Me.Wt} {r : Rm} (h : Rel m r) (n : Nat) (k : Int) (q x : Nat) (hq : q < 18446744073709551616) (hx : x < 18446744073709551616) :
    (Me.did n m k q x).y = (wantN n r k q x).y ∧ (Me.did n m k q x).er = (wantN n r k q x).er ∧ Rel (Me.did n m k q x).m (wantN n r k q x).m ∧ (wantN n r k q x).m.sl.length ≤ r.sl.length + 1 ∧ (wantN n r k q x).m.tr.length ≤ r.tr.length + 1 := by
  have e8 : q / 8 * 8 = 8 * (q / 8) := Nat.mul_comm _ _
  unfold Me.did wantN
  by_cases k1 : k = 1
  · rw [if_pos k1, if_pos k1]
    by_cases hb : q < 2 ^ n
    · rw [if_pos hb, if_pos hb, e8, h.1]; exact ⟨rfl, rfl, h, Nat.le_succ _, Nat.le_succ _⟩
    · rw [if_neg hb, if_neg hb]; exact ⟨rfl, rfl, h, Nat.le_succ _, Nat.le_succ _⟩
  rw [if_neg k1, if_neg k1]
  by_cases k2 : k = 2
  · rw [if_pos k2, if_pos k2]
    by_cases hb : q < 2 ^ n
    · rw [if_pos hb, if_pos hb, e8, h.1]
      exact ⟨rfl, rfl, h.put (q / 8) _ (by omega) (NL.sN_lt (by omega) (by rw [← h.1]; exact wN_lt h.2.2 _)), sN_len _ _ _ _, by show r.tr.length ≤ _; omega⟩
    · rw [if_neg hb, if_neg hb]; exact ⟨rfl, rfl, h, Nat.le_succ _, Nat.le_succ _⟩
  rw [if_neg k2, if_neg k2]
  by_cases k3 : k = 3
  · rw [if_pos k3, if_pos k3]
    by_cases hb : q < 2 ^ n
    · rw [if_pos hb, if_pos hb]
      by_cases h8 : q % 8 = 0
      · rw [if_pos h8, if_pos h8]
        have e9 : wN r.sl q = m.wd (q / 8) := by rw [← h.1 (q / 8), show 8 * (q / 8) = q by omega]
        exact ⟨e9.symm, rfl, ⟨h.1, by show _ ++ _ = _ ++ _; rw [h.2.1], h.2.2⟩, by show r.sl.length ≤ _; omega, by show (r.tr ++ _).length ≤ _; simp⟩
      · rw [if_neg h8, if_neg h8]; exact ⟨rfl, rfl, h, Nat.le_succ _, Nat.le_succ _⟩
    · rw [if_neg hb, if_neg hb]; exact ⟨rfl, rfl, h, Nat.le_succ _, Nat.le_succ _⟩
  rw [if_neg k3, if_neg k3]
  by_cases k4 : k = 4
  · rw [if_pos k4, if_pos k4]
    by_cases hb : q < 2 ^ n
    · rw [if_pos hb, if_pos hb]
      by_cases h8 : q % 8 = 0
      · rw [if_pos h8, if_pos h8]
        have e9 : wN r.sl q = m.wd (q / 8) := by rw [← h.1 (q / 8), show 8 * (q / 8) = q by omega]
        exact ⟨e9.symm, rfl, h, Nat.le_succ _, Nat.le_succ _⟩
      · rw [if_neg h8, if_neg h8]; exact ⟨rfl, rfl, h, Nat.le_succ _, Nat.le_succ _⟩
    · rw [if_neg hb, if_neg hb]; exact ⟨rfl, rfl, h, Nat.le_succ _, Nat.le_succ _⟩
  rw [if_neg k4, if_neg k4]
  by_cases k5 : k = 5
  · rw [if_pos k5, if_pos k5]
    by_cases hb : q < 2 ^ n
    · rw [if_pos hb, if_pos hb]
      by_cases h8 : q % 8 = 0
      · rw [if_pos h8, if_pos h8]
        have e9 := h.put (q / 8) x (by omega) hx
        rw [show 8 * (q / 8) = q by omega] at e9
        exact ⟨rfl, rfl, e9, sN_len _ _ _ _, by show r.tr.length ≤ _; omega⟩
      · rw [if_neg h8, if_neg h8]; exact ⟨rfl, rfl, h, Nat.le_succ _, Nat.le_succ _⟩
    · rw [if_neg hb, if_neg hb]; exact ⟨rfl, rfl, h, Nat.le_succ _, Nat.le_succ _⟩
  rw [if_neg k5, if_neg k5]
  exact ⟨rfl, rfl, ⟨h.1, rfl, h.2.2⟩, by show r.sl.length ≤ _; omega, by show 0 ≤ _; omega⟩
theorem same_l (l : List Int) (hl : l.length ≤ 1000000) (d : Nat) : ∀ k i : Nat, i + d = l.length → d < k → dormerref04_Same.l0 k l l (i : Int) = some true := by
  induction d with
  | zero =>
    intro k i hd hk
    obtain ⟨k, rfl⟩ : ∃ m, k = m + 1 := ⟨k - 1, by omega⟩
    simp only [dormerref04_Same.l0]
    rw [if_neg (by omega)]
  | succ d ih =>
    intro k i hd hk
    obtain ⟨k, rfl⟩ : ∃ m, k = m + 1 := ⟨k - 1, by omega⟩
    simp only [dormerref04_Same.l0]
    rw [if_pos (by omega), if_pos (by omega), if_pos (by omega), if_pos trivial, w1 (by omega), ih k (i + 1) (by omega) (by omega)]
theorem same_f {k : Nat} (l : List Int) (hl : l.length ≤ 1000000) (hk : l.length < k) : dormerref04_Same.f k l l = some true := by
  unfold dormerref04_Same.f
  rw [if_pos rfl]
  exact same_l l hl l.length k 0 (by omega) hk
/-- Both memories, and the block of the reference's. -/
structure St (w0 w : World) (base g mp n X i : Nat) (m : Me.Wt) (r : Rm) (v1 v2 : Value) (O P : Nat → Prop) : Prop where
  mem : Me.MemO base w g mp n i m O
  blk : w.heap[X]? = some (.cells #[.int .i64 (n : Int), v1, v2] 29 (0, 0))
  rm : RmAt w w0.heap.size P v1 v2 r
  dis : ∀ k, O k → ¬ P k
  oX : ¬ O X
  pX : ¬ P X
  leX : w0.heap.size ≤ X
  b : Below w0.heap.size w0 w
  base0 : w0.heap.size ≤ base
  rel : Rel m r
  sl : r.sl.length ≤ i
  tr : r.tr.length ≤ i
variable {w0 w w1 w2 w3 W : World} {base g mp n X i : Nat} {m m' : Me.Wt} {r r' : Rm} {v1 v2 u1 u2 : Value} {O P : Nat → Prop}
theorem MemO_below (h : Me.MemO base w g mp n i m O) (hb : Below w.heap.size w W) : Me.MemO base W g mp n i m O := by
  obtain ⟨pg, N, A, c, h, h1, h2, h3⟩ := h
  exact ⟨pg, N, A, c, h.below hb, h1, h2, h3⟩
theorem RmAt.below {b0 : Nat} (h : RmAt w b0 P v1 v2 r) (hb : Below w.heap.size w W) : RmAt W b0 P v1 v2 r := ⟨Kd.R_below h.1 hb, Kd.R_below h.2 hb⟩
theorem RmAt.bound {b0 : Nat} (h : RmAt w b0 P v1 v2 r) : RmAt w b0 (fun k => P k ∧ k < w.heap.size) v1 v2 r :=
  ⟨Kd.R_mono (Kd.R_bound h.1) (fun k hk => ⟨hk.1, hk.2.2.1⟩), Kd.R_mono (Kd.R_bound h.2) (fun k hk => ⟨hk.1, hk.2.2.1⟩)⟩
theorem RmAt.kept {b0 : Nat} {S : Nat → Prop} (h : RmAt w b0 P v1 v2 r) (hk : Kept w W S) (hd : ∀ k, P k → ¬ S k) : RmAt W b0 P v1 v2 r := ⟨Kd.R_kept h.1 hk hd, Kd.R_kept h.2 hk hd⟩
theorem RmAt.mono {b0 : Nat} {Q : Nat → Prop} (h : RmAt w b0 P v1 v2 r) (hd : ∀ k, P k → Q k) : RmAt w b0 Q v1 v2 r := ⟨Kd.R_mono h.1 hd, Kd.R_mono h.2 hd⟩
theorem St.below (h : St w0 w base g mp n X i m r v1 v2 O P) (hb : Below w.heap.size w W) : St w0 W base g mp n X i m r v1 v2 O P :=
  ⟨MemO_below h.mem hb, blk_below h.blk hb, h.rm.below hb, h.dis, h.oX, h.pX, h.leX, below_step h.b hb, h.base0, h.rel, h.sl, h.tr⟩
/-- Behind the document's deed: the reference's memory stands. -/
theorem St.mid (h : St w0 w base g mp n X i m r v1 v2 O P) (hk : Kept w w1 O) (hb : ∀ b0, b0 ≤ base → Below b0 w w1) :
    w1.heap[X]? = some (.cells #[.int .i64 (n : Int), v1, v2] 29 (0, 0)) ∧ RmAt w1 w0.heap.size (fun k => P k ∧ k < w.heap.size) v1 v2 r ∧ Below w0.heap.size w0 w1 :=
  ⟨(hk.2 X (blk_lt h.blk) h.oX).trans h.blk, h.rm.bound.kept hk (fun k hp ho => h.dis k ho hp.1), h.b.trans (hb _ h.base0)⟩
/-- Behind both deeds, the reference's block written anew. -/
theorem St.next (h : St w0 w base g mp n X i m r v1 v2 O P) (hm : Me.MemO base w1 g mp n (i + 1) m' (fun k => O k ∨ w.heap.size ≤ k)) (hk : Kept w w1 O)
    (hr : RmAt w2 w0.heap.size (fun k => (P k ∧ k < w.heap.size) ∨ w1.heap.size ≤ k) u1 u2 r') (hb2 : Below w0.heap.size w0 w2) (hk2 : Kept w1 w2 (fun k => P k ∧ k < w.heap.size))
    (hx : w3.heap[X]? = some (.cells #[.int .i64 (n : Int), u1, u2] 29 (0, 0))) (hg : w2.grownBy w3 (some X))
    (hrel : Rel m' r') (hs : r'.sl.length ≤ r.sl.length + 1) (ht : r'.tr.length ≤ r.tr.length + 1) :
    St w0 w3 base g mp n X (i + 1) m' r' u1 u2 (fun k => (O k ∨ w.heap.size ≤ k) ∧ k < w1.heap.size ∧ k ≠ X) (fun k => (P k ∧ k < w.heap.size) ∨ w1.heap.size ≤ k) := by
  have hX := blk_lt h.blk
  have hw1 := hk.1
  have hw2 := hk2.1
  have hoX : ∀ k, (O k ∨ w.heap.size ≤ k) → k ≠ X := fun k ho e => by
    subst e
    rcases ho with ho | ho
    · exact h.oX ho
    · omega
  have hpX : ∀ k, ((P k ∧ k < w.heap.size) ∨ w1.heap.size ≤ k) → k ≠ X := fun k ho e => by
    subst e
    rcases ho with ho | ho
    · exact h.pX ho.1
    · omega
  have m2 := hm.kept hk2 (fun k ho hlt hp => by
    rcases ho with ho | ho
    · exact h.dis k ho hp.1
    · omega)
  have m3 := m2.kept (Kept.of_grown hg (Kept.refl _ (fun k => k = X)) (fun k hk => .inl (Option.some.inj hk).symm)) (fun k ho _ => hoX k ho.1)
  refine ⟨?_, hx, ?_, ?_, fun ho => hoX X ho.1 rfl, fun hp => hpX X hp rfl, h.leX, ?_, h.base0, hrel, by have := h.sl; omega, by have := h.tr; omega⟩
  · obtain ⟨pg, N, A, c, h1, h2, h3, h4⟩ := m3
    exact ⟨pg, N, A, c, h1, h2, h3, fun k hk => ⟨(h4 k hk).1.1, (h4 k hk).1.2, hoX k (h4 k hk).1.1⟩⟩
  · exact hr.kept (Kept.of_grown hg (Kept.refl _ (fun k => k = X)) (fun k hk => .inl (Option.some.inj hk).symm)) (fun k hp => hpX k hp)
  · rintro k ⟨ho, hlt, _⟩ hp
    rcases hp with hp | hp
    · rcases ho with ho | ho
      · exact h.dis k ho hp.1
      · omega
    · omega
  · have hs2 := hb2.size
    exact hb2.grown hg (by omega) (fun k hk => by cases hk; exact h.leX)
/-- What a region of two deeds leaves: the reference's new memory, beside a block that is written next. -/
structure Behind (w0 w1 w2 : World) (P1 : Nat → Prop) (X n Y : Nat) (v1 v2 u1 u2 : Value) (r' : Rm) : Prop where
  rm : RmAt w2 w0.heap.size (fun k => (P1 k ∨ w1.heap.size ≤ k) ∧ k ≠ Y) u1 u2 r'
  b : Below w0.heap.size w0 w2
  kept : Kept w1 w2 P1
  y : w2.heap[Y]? = some (.cells #[.int .i64 0, .slice none 0 0, .slice none 0 0] 29 (0, 0))
  ly : w1.heap.size ≤ Y
  x : w2.heap[X]? = some (.cells #[.int .i64 (n : Int), v1, v2] 29 (0, 0))
theorem Behind.a {P1 : Nat → Prop} {X n : Nat} (hR : RmAt w2 w0.heap.size (fun k => P1 k ∨ w1.heap.size ≤ k) u1 u2 r') (hB : Below w0.heap.size w0 w2) (hK : Kept w1 w2 P1) (hX : w2.heap[X]? = some (.cells #[.int .i64 (n : Int), v1, v2] 29 (0, 0)))
    {Y : Nat} (eY : Y = w2.heap.size) (hY : w3.heap[Y]? = some (.cells #[.int .i64 0, .slice none 0 0, .slice none 0 0] 29 (0, 0))) (hb : Below w2.heap.size w2 w3) : Behind w0 w1 w3 P1 X n Y v1 v2 u1 u2 r' := by
  have := hK.1
  exact ⟨(hR.bound.below hb).mono (fun k hk => ⟨hk.1, by omega⟩), below_step hB hb, hK.below hb, hY, by omega, blk_below hX hb⟩
theorem Behind.of {P1 : Nat → Prop} {X n : Nat} {Y : Nat} (eY : Y = w1.heap.size) (hp : ∀ k, P1 k → k < w1.heap.size) (hb : Below w1.heap.size w1 w2) (hY : w2.heap[Y]? = some (.cells #[.int .i64 0, .slice none 0 0, .slice none 0 0] 29 (0, 0)))
    (hR : RmAt w3 w0.heap.size (fun k => P1 k ∨ w2.heap.size ≤ k) u1 u2 r') (hB : Below w0.heap.size w0 w3) (hK : Kept w2 w3 P1) (hX : w3.heap[X]? = some (.cells #[.int .i64 (n : Int), v1, v2] 29 (0, 0))) : Behind w0 w1 w3 P1 X n Y v1 v2 u1 u2 r' := by
  have hY2 := blk_lt hY
  have hs := hb.size
  refine ⟨hR.mono (fun k hk => ?_), hB, (Kept.of_below hb P1).then_ hK (fun k hk => .inl hk), (hK.2 Y hY2 (fun h => by have := hp _ h; omega)).trans hY, by omega, hX⟩
  rcases hk with hk | hk
  · have := hp k hk
    exact ⟨.inl hk, by omega⟩
  · exact ⟨.inr (by omega), by omega⟩
/-- The block beside it written. -/
theorem Behind.put {P1 : Nat → Prop} {X n Y : Nat} (h : Behind w0 w1 w2 P1 X n Y v1 v2 u1 u2 r') (hXY : X ≠ Y) (hw : w0.heap.size ≤ w1.heap.size) (hg : w2.grownBy w3 (some Y)) :
    RmAt w3 w0.heap.size (fun k => P1 k ∨ w1.heap.size ≤ k) u1 u2 r' ∧ Below w0.heap.size w0 w3 ∧ Kept w1 w3 P1 ∧ w3.heap[X]? = some (.cells #[.int .i64 (n : Int), v1, v2] 29 (0, 0)) := by
  have ly := h.ly
  refine ⟨(h.rm.kept (Kept.of_grown hg (Kept.refl _ (fun k => k = Y)) (fun k hk => .inl (Option.some.inj hk).symm)) (fun k hp => hp.2)).mono (fun k hk => hk.1), h.b.grown hg h.b.size (fun k hk => by cases hk; omega), Kept.of_grown hg h.kept (fun k hk => .inr (by cases hk; exact ly)), blk_grown h.x hg (fun e => hXY (Option.some.inj e))⟩
end Go.Proofs.Ytpkffpcdmglleaa.RM
