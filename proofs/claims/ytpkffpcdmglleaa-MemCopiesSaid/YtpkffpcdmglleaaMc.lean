/- Contracts of package mem: set. Conditions: those each contract names. -/
import Derived.Test.YtpkffpcdmglleaaMb
set_option linter.unusedVariables false
set_option linter.unusedSimpArgs false
namespace Go.Proofs.Ytpkffpcdmglleaa.Me
open Go.RowKit Go.Maps Go.Proofs.YtpkffpcdmglleaaW.PrintWords Go.Proofs.YtpkffpcdmglleaaW.PrintMore
variable {base : Nat} {w : World} {g mp bits N c : Nat} {pg : Nat → Option Nat} {wd : Nat → Nat} {A : Option Addr} {Tr : List Int}
theorem grown_set (w : World) (a : Addr) (u : Value) : w.grownBy (w.setCell a u) (some a.block) :=
  ⟨rfl, rfl, rfl, by simp [World.setCell], fun k _ hk => Below.heap_setCell w a u k (fun e => hk (by rw [e]))⟩
/-- The blocks that are a memory's. -/
def MS (g mp : Nat) (pg : Nat → Option Nat) (v : Value) (k : Nat) : Prop := k = g ∨ k = mp ∨ (∃ n, pg n = some k) ∨ v.ownBlock = some k
/-- Words with one of them another. -/
def put (wd : Nat → Nat) (s x : Nat) : Nat → Nat := fun t => if t = s then x else wd t
theorem put_same (wd : Nat → Nat) (s x : Nat) : put wd s x s = x := by simp [put]
theorem put_other (wd : Nat → Nat) {s t : Nat} (x : Nat) (h : t ≠ s) : put wd s x t = wd t := by simp [put, h]
theorem MAt.store (h : MAt base w g mp bits pg wd N A c Tr) {n b q x : Nat} (hp : pg n = some b) (hq : q < 512) (hx : x < 18446744073709551616) :
    MAt base (w.setCell ⟨b, q, none⟩ (.int .u64 (x : Int))) g mp bits pg (put wd (n * 512 + q) x) N A c Tr := by
  obtain ⟨hbg, hbm, hbb⟩ := h.far n b hp
  have hh : ∀ k, k ≠ b → (w.setCell ⟨b, q, none⟩ (.int .u64 (x : Int))).heap[k]? = w.heap[k]? := fun k hk => Below.heap_setCell w ⟨b, q, none⟩ _ k hk
  obtain ⟨D, ho, hD, hF⟩ := h.own
  obtain ⟨cs, hb, hsz, hcs⟩ := h.page n b hp
  refine ⟨(hh g (Ne.symm hbg)).trans h.blk, ⟨D, ho.setCell (Ne.symm hbm) _, hD, hF⟩, ?_, ?_, h.inj, h.far, h.gm, ?_, ?_⟩
  · intro n' b' hn'
    by_cases hbb' : b' = b
    · subst hbb'
      obtain rfl := h.inj _ _ _ hp hn'
      refine ⟨_, blk_put hb q _ rfl, by simpa using hsz, fun i hi => ?_⟩
      by_cases hiq : i = q
      · subst hiq
        rw [put_same, Array.getElem?_setIfInBounds_self_of_lt (by omega)]
      · rw [put_other _ _ (by omega), Array.getElem?_setIfInBounds_ne (Ne.symm hiq)]
        exact hcs i hi
    · obtain ⟨cs', h1, h2, h3⟩ := h.page n' b' hn'
      refine ⟨cs', (hh b' hbb').trans h1, h2, fun i hi => ?_⟩
      rw [put_other _ _ ?_]
      · exact h3 i hi
      · intro e
        have : n' = n := by omega
        subst this
        rw [hp] at hn'
        injection hn' with e2
        exact hbb' e2.symm
  · intro n' hn' i hi
    rw [put_other _ _ ?_]
    · exact h.zero n' hn' i hi
    · intro e
      have : n' = n := by omega
      subst this
      rw [hp] at hn'
      cases hn'
  · exact Kd.R_far h.tr (fun k hk e => hk.2.2 n (by rw [e]; exact hp)) _
  · intro s
    by_cases hs : s = n * 512 + q
    · subst hs
      rw [put_same]
      exact hx
    · rw [put_other _ _ hs]
      exact h.fits s
theorem set_some (h : MAt base w g mp bits pg wd N A c Tr) (a x : Nat) (ha : a < 18446744073709551616) (hx : x < 18446744073709551616) (b : Nat) (hp : pg (a / 4096) = some b) :
    Calls Try.prog 36 #[.pointer (some ⟨g, 0, none⟩), .int .u64 (a : Int), .int .u64 (x : Int)] w fun e w' => e = .returned (.tuple #[]) ∧ MAt base w' g mp bits pg (put wd (a / 8) x) N A c Tr ∧ Kept w w' (MS g mp pg (.slice A Tr.length c)) ∧ ∀ b0, b0 ≤ base → Below b0 w w' := by
  have c1 := h.c1
  have hz : (zeroValue 80).run Try.prog w = .ok (.pointer none) w := by kernel_rfl
  obtain ⟨D, ho, hD, hF⟩ := h.own
  have hk : keyOf Try.prog 30 (.int .u64 ((a / 4096 : Nat) : Int)) = some (key (a / 4096)) := keyOf_int_mk Try.underlying30 (u64_wf _ (by omega))
  have hr := hD (a / 4096)
  have e1 : ((a / 4096 : Nat) : Int) = (a : Int) / 4096 := by omega
  rw [e1] at hk
  replace hk := Lib.hid hk
  clear e1
  rw [hp] at hr
  replace hr := Lib.hid hr
  have hpp := Lib.hid hp
  obtain ⟨cs, hb, hsz, hcs⟩ := h.page _ _ hp
  have hv := hcs (a % 4096 / 8) (by omega)
  have hst := h.store hp (q := a % 4096 / 8) (x := x) (by omega) hx
  rw [show a / 4096 * 512 + a % 4096 / 8 = a / 8 by omega] at hst
  replace hst := Lib.hid hst
  have hfar := (h.far _ _ hp).2.2
  have hc := (blk_cell hb (a % 4096 / 8)).trans hv
  have hf := blk_frozen hb (a % 4096 / 8)
  have hi : ((a : Int) % 4096) / 8 = ((a % 4096 / 8 : Nat) : Int) := by omega
  have hi2 : (a % 4096 / 8) < 512 := by omega
  clear hF hD hp hv h hcs hsz hb
  generalize a % 4096 / 8 = q at *
  go_enter Try.func36, Try.ntmps36
  go_wp2_with (at_lookup; refine wpList_lookup_ptr _ rfl _ _ 64 rfl 30 80 law30 Try.underlying64 hz mp _ D rfl ho _ _ rfl hk.out (some b) hr.out ?_; simp only [ptr])
  go_end0
  exact ⟨rfl, hst.out, (Kept.refl w _).setCell (.inl (.inr (.inr (.inl ⟨_, hpp.out⟩)))) _, fun b0 h0 => (Below.refl _ _).setCell (Nat.le_trans h0 hfar) _⟩
theorem zero82 (w : World) : (zeroValue 82).run Try.prog w = .ok (.agg (Array.replicate 512 (.int .u64 0))) w := by kernel_rfl
/-- Pages with one more. -/
def pgs (pg : Nat → Option Nat) (n b : Nat) : Nat → Option Nat := fun k => if k = n then some b else pg k
/-- A page of zeros has been made (block b), and the map bears it. -/
theorem MAt.paged (h : MAt base w g mp bits pg wd N A c Tr) {n : Nat} (hp : pg n = none) {Z : Array Value} (hZ : Z = Array.replicate 512 (.int .u64 0)) {w1 : World} {D : DataW Unit} (hM : IsMap D) (hD : ∀ n, D.atKey (key n) (code none) = code (pg n)) (hF : ∀ n, pg n = none → Maps.has D (key n) = false)
    (hown : w1.ownsMap Try.prog 30 ptrElem mp (N + 1) (D.put (key n) (code (some w.heap.size)))) (hg : (w.alloc (.cells Z 82)).grownBy w1 (some mp)) :
    MAt base w1 g mp bits (pgs pg n w.heap.size) wd (N + 1) A c Tr := by
  obtain ⟨D0, ho, hD0⟩ := h.own
  have hgl := blk_lt h.blk
  have hml := ho.lt
  have hbase := h.gm.2.1
  have hh : ∀ k, k < w.heap.size → k ≠ mp → w1.heap[k]? = w.heap[k]? := fun k hk hne =>
    (hg.block k (by simp; omega) (by simpa using hne)).trans (Below.heap_alloc w _ k hk)
  have hbl : ∀ k b, pg k = some b → b < w.heap.size := fun k b hk => by
    obtain ⟨cs, h1, _⟩ := h.page k b hk
    exact blk_lt h1
  have hnew : w1.heap[w.heap.size]? = some (.cells Z 82 (0, 0)) := (hg.block _ (by simp) (by simp; omega)).trans (blk_new w _)
  refine ⟨(hh g hgl h.gm.1).trans h.blk, ⟨_, hown, fun k => ?_, fun k hk => ?_⟩, ?_, ?_, ?_, ?_, h.gm, ?_, h.fits⟩
  · by_cases hk : k = n
    · subst hk
      rw [Maps.atKey_put_same hM (by trivial), pgs, if_pos rfl]
    · rw [Maps.atKey_put_other (fun e => hk (by simp only [key, Lit.int.injEq] at e; omega)), hD, pgs, if_neg hk]
  · rw [pgs] at hk
    split at hk
    · cases hk
    · rename_i hkn
      rw [Maps.has_put_other (fun e => hkn (by simp only [key, Lit.int.injEq] at e; omega))]
      exact hF k hk
  · intro k b hk
    rw [pgs] at hk
    split at hk
    · rename_i hkn
      injection hk with hk
      subst hk hkn
      refine ⟨Z, hnew, by rw [hZ]; simp, fun i hi => ?_⟩
      rw [hZ, h.zero _ hp i hi]
      simp [hi]
    · obtain ⟨cs, h1, h2⟩ := h.page k b hk
      exact ⟨cs, (hh b (blk_lt h1) (h.far k b hk).2.1).trans h1, h2⟩
  · intro k hk i hi
    rw [pgs] at hk
    split at hk
    · cases hk
    · exact h.zero k hk i hi
  · intro k k' b hk hk'
    rw [pgs] at hk hk'
    split at hk <;> split at hk'
    · omega
    · injection hk with hk
      have := hbl _ _ hk'
      omega
    · injection hk' with hk'
      have := hbl _ _ hk
      omega
    · exact h.inj _ _ _ hk hk'
  · intro k b hk
    rw [pgs] at hk
    split at hk
    · injection hk with hk
      exact ⟨by omega, by omega, by omega⟩
    · exact h.far k b hk
  · have h1 := Kd.R_step (w1 := w1) (Kd.R_bound h.tr) (fun q hq hlt => hh q hlt hq.1.2.1)
    refine Kd.R_mono h1 (fun q hq => ⟨hq.1.1, hq.1.2.1, fun k e => ?_⟩)
    rw [pgs] at e
    split at e
    · injection e with e
      have := hq.2.2.1
      omega
    · exact hq.1.2.2 k e
set_option maxHeartbeats 400000 in
theorem set_none (h : MAt base w g mp bits pg wd N A c Tr) (a x : Nat) (ha : a < 18446744073709551616) (hx : x < 18446744073709551616) (hp : pg (a / 4096) = none) (hN : N < 1000000) :
    Calls Try.prog 36 #[.pointer (some ⟨g, 0, none⟩), .int .u64 (a : Int), .int .u64 (x : Int)] w fun e w' => e = .returned (.tuple #[]) ∧ MAt base w' g mp bits (pgs pg (a / 4096) w.heap.size) (put wd (a / 8) x) (N + 1) A c Tr ∧ Kept w w' (MS g mp pg (.slice A Tr.length c)) ∧ ∀ b0, b0 ≤ base → Below b0 w w' := by
  have c1 := h.c1
  have hz : (zeroValue 80).run Try.prog w = .ok (.pointer none) w := by kernel_rfl
  obtain ⟨D, ho, hD, hF⟩ := h.own
  have hk : keyOf Try.prog 30 (.int .u64 ((a / 4096 : Nat) : Int)) = some (key (a / 4096)) := keyOf_int_mk Try.underlying30 (u64_wf _ (by omega))
  have hr := hD (a / 4096)
  have e1 : ((a / 4096 : Nat) : Int) = (a : Int) / 4096 := by omega
  rw [e1] at hk
  replace hk := Lib.hid hk
  clear e1
  rw [hp] at hr
  replace hr := Lib.hid hr
  have h82 := zero82 w
  obtain ⟨Z, hZ⟩ : ∃ Z : Array Value, Z = Array.replicate 512 (.int .u64 0) := ⟨_, rfl⟩
  rw [← hZ] at h82
  have hgl := blk_lt h.blk
  have hi : ((a : Int) % 4096) / 8 = ((a % 4096 / 8 : Nat) : Int) := by omega
  have hi2 : (a % 4096 / 8) < 512 := by omega
  have hi3 : a / 4096 * 512 + a % 4096 / 8 = a / 8 := by omega
  replace hi3 := Lib.hid hi3
  generalize hq : a % 4096 / 8 = q at *
  have hM := Lib.hid ho.isMap
  replace hD := Lib.hid hD
  replace hF := Lib.hid hF
  replace h := Lib.hid h
  replace hp := Lib.hid hp
  replace hZ := Lib.hid hZ
  have hml := ho.lt
  have hN2 : N < maxLen := by unfold maxLen; omega
  clear hq
  go_enter Try.func36, Try.ntmps36
  go_wp2_with (first | (at_lookup; refine wpList_lookup_ptr _ rfl _ _ 64 rfl 30 80 law30 Try.underlying64 hz mp _ D rfl ho _ _ rfl hk.out none hr.out ?_; simp only [ptr]) | (at_mapUpdate; refine wpList_mapUpdate_own _ rfl _ _ _ 64 rfl 30 80 law30 Try.underlying64 _ mp N D rfl (ho.alloc _) hN2 _ _ _ rfl rfl hk.out (code (some w.heap.size)) [] (ptr_reads (some w.heap.size)) ?_; intro w1 hown1 hgrow1; have hPg := MAt.paged h.out hp.out hZ.out hM.out hD.out hF.out hown1 hgrow1; have hsame : pgs pg (a / 4096) w.heap.size (a / 4096) = some w.heap.size := (by rw [pgs, if_pos rfl]); obtain ⟨cs, hb, hsz, hcs⟩ := hPg.page _ _ hsame; have hc := (blk_cell hb q).trans (hcs q hi2); have hf := blk_frozen hb q; replace hPg := Lib.hid hPg; replace hsame := Lib.hid hsame; replace hgrow1 := Lib.hid hgrow1; clear hb hsz hcs hown1 ho hml))
  have hst := hPg.out.store hsame.out hi2 hx
  rw [hi3.out] at hst
  go_end0
  have hgl := h.out.gm
  refine ⟨rfl, hst, ?_, fun b0 h0 => ?_⟩
  · exact (Kept.of_grown hgrow1.out ((Kept.refl w _).alloc _) (fun k hk => .inl (.inr (.inl (Option.some.inj hk).symm)))).setCell (.inr (Nat.le_refl _)) _
  · have hlt : b0 ≤ w.heap.size := Nat.le_trans h0 (Nat.le_trans hgl.2.1 (Nat.le_of_lt (blk_lt h.out.blk)))
    exact (((Below.refl _ _).alloc hlt _).grown hgrow1.out (by simp; omega) (fun k hk => by cases hk; exact Nat.le_trans h0 hgl.2.2)).setCell hlt _
/-- Pages that come to more. -/
def More (w : World) (pg pg' : Nat → Option Nat) : Prop := (∀ n b, pg n = some b → pg' n = some b) ∧ ∀ n b, pg' n = some b → pg n = some b ∨ w.heap.size ≤ b
theorem set_any (h : MAt base w g mp bits pg wd N A c Tr) (a x : Nat) (ha : a < 18446744073709551616) (hx : x < 18446744073709551616) (hN : N < 1000000) :
    Calls Try.prog 36 #[.pointer (some ⟨g, 0, none⟩), .int .u64 (a : Int), .int .u64 (x : Int)] w fun e w' => e = .returned (.tuple #[]) ∧ ∃ pg', MAt base w' g mp bits pg' (put wd (a / 8) x) (N + 1) A c Tr ∧ More w pg pg' ∧ Kept w w' (MS g mp pg (.slice A Tr.length c)) ∧ ∀ b0, b0 ≤ base → Below b0 w w' := by
  cases hp : pg (a / 4096) with
  | none =>
    refine (set_none h a x ha hx hp hN).mono fun e w' hh => ⟨hh.1, _, hh.2.1, ⟨fun n b hn => ?_, fun n b hn => ?_⟩, hh.2.2⟩
    · rw [pgs, if_neg (fun e => by subst e; rw [hp] at hn; cases hn)]
      exact hn
    · rw [pgs] at hn
      split at hn
      · injection hn with hn
        exact .inr (by omega)
      · exact .inl hn
  | some b => exact (set_some h a x ha hx b hp).mono fun e w' hh => ⟨hh.1, pg, hh.2.1.mono (by omega), ⟨fun _ _ hn => hn, fun _ _ hn => .inl hn⟩, hh.2.2⟩
end Go.Proofs.Ytpkffpcdmglleaa.Me
