/- Contracts of package mem: Load, Trace, Forget, New. Conditions: those each contract names. -/
import Derived.Test.YtpkffpcdmglleaaMd
set_option linter.unusedVariables false
set_option linter.unusedSimpArgs false
namespace Go.Proofs.Ytpkffpcdmglleaa.Me
open Go.RowKit Go.Maps Go.Proofs.YtpkffpcdmglleaaW.PrintWords Go.Proofs.YtpkffpcdmglleaaW.PrintMore
variable {base : Nat} {w : World} {g mp bits N c : Nat} {pg : Nat → Option Nat} {wd : Nat → Nat} {A : Option Addr} {Tr : List Int}
theorem info30 : (Try.prog.info? 30).map (fun i => (i.zero, i.size, i.bytes)) = some (some (.int .u64 0), 1, 8) := by kernel_rfl
/-- Another trace. -/
theorem MAt.traced (h : MAt base w g mp bits pg wd N A c Tr) {w1 : World} (hg : w.grownBy w1 (Value.slice A Tr.length c).ownBlock) {A' : Option Addr} {c' : Nat} {Tr' : List Int}
    (hR : Kd.R (Kd.int .u64) 30 w1 base (fun q => q ≠ g ∧ q ≠ mp ∧ ∀ n, pg n ≠ some q) (.slice A' Tr'.length c') Tr') : MAt base (w1.setCell ⟨g, 2, none⟩ (.slice A' Tr'.length c')) g mp bits pg wd N A' c' Tr' := by
  have hok := h.tr.1
  have h1 : w1.heap[g]? = some (.cells #[.int .i64 (bits : Int), .map (some mp), .slice A Tr.length c] 66 (0, 0)) := blk_grown h.blk hg (fun e => (hok g e.symm).1 rfl)
  have hh : ∀ k, k ≠ g → (w1.setCell ⟨g, 2, none⟩ (.slice A' Tr'.length c')).heap[k]? = w1.heap[k]? := fun k hk => Below.heap_setCell w1 ⟨g, 2, none⟩ _ k hk
  obtain ⟨D, ho, hD, hF⟩ := h.own
  refine ⟨blk_put h1 2 _ rfl, ⟨D, (ho.kept hg (fun e => (hok mp e.symm).2.1 rfl)).setCell (Ne.symm h.gm.1) _, hD, hF⟩, ?_, h.zero, h.inj, h.far, h.gm, Kd.R_far hR (fun q hq => hq.1) _, h.fits⟩
  intro n b hn
  obtain ⟨cs, h2, h3⟩ := h.page n b hn
  exact ⟨cs, (hh b (h.far n b hn).1).trans (blk_grown h2 hg (fun e => (hok b e.symm).2.2 n hn)), h3⟩
theorem forget_nil (w : World) : Calls Try.prog 24 #[.pointer none] w fun e w' => e = .returned (.tuple #[]) ∧ w = w' := by
  go_enter Try.func24, Try.ntmps24
  go_wp2_with fail
  go_end0
  exact ⟨rfl, rfl⟩
theorem forget_any (h : MAt base w g mp bits pg wd N A c Tr) : Calls Try.prog 24 #[.pointer (some ⟨g, 0, none⟩)] w fun e w' => e = .returned (.tuple #[]) ∧ MAt base w' g mp bits pg wd N none 0 [] ∧ Kept w w' (MS g mp pg (.slice A Tr.length c)) ∧ ∀ b0, b0 ≤ base → Below b0 w w' := by
  have c2 := h.c2
  have hf := h.frozen 2
  have hst := h.traced (w1 := w) ⟨rfl, rfl, rfl, Nat.le_refl _, fun _ _ _ => rfl⟩ (A' := none) (c' := 0) (Tr' := []) (Kd.R_nil _ _ _ _ _)
  have hst := Lib.hid hst
  have hbg := h.gm.2.1
  clear h
  go_enter Try.func24, Try.ntmps24
  go_wp2_with fail
  go_end0
  exact ⟨rfl, hst.out, (Kept.refl w _).setCell (.inl (.inl rfl)) _, fun b0 h0 => (Below.refl _ _).setCell (Nat.le_trans h0 hbg) _⟩
theorem load_of {m : Value} {a k : Int} (hk : k ≠ 0) (T : Calls Try.prog 17 #[m, .int .u64 a] w fun e w' => e = .returned (.tuple #[.int .u64 0, .int .i64 k]) ∧ w = w') : Calls Try.prog 19 #[m, .int .u64 a] w fun e w' => e = .returned (.tuple #[.int .u64 0, .int .i64 k]) ∧ w = w' := by
  have T1 := Lib.hid T
  clear T
  go_enter Try.func19, Try.ntmps19
  go_wp2_with (first | (go_at_call 17; with_reducible refine T1.out.mono ?_; rintro e w' ⟨rfl, rfl⟩))
  go_ret2
  exact ⟨rfl, rfl⟩
theorem load_ok (h : MAt base w g mp bits pg wd N A c Tr) (hb : bits ≤ 22) (a : Nat) (ha : a < 2 ^ bits) (h8 : a % 8 = 0) (hT : Tr.length < 1000000) : Calls Try.prog 19 #[.pointer (some ⟨g, 0, none⟩), .int .u64 (a : Int)] w fun e w' =>
    e = .returned (.tuple #[.int .u64 (wd (a / 8) : Int), .int .i64 0]) ∧ ∃ A' c', MAt base w' g mp bits pg wd N A' c' (Tr ++ [(a : Int)]) ∧ Kept w w' (MS g mp pg (.slice A Tr.length c)) ∧ ∀ b0, b0 ≤ base → Below b0 w w' := by
  have T1 := Lib.hid (peek_ok h hb a ha h8)
  have hgl := blk_lt h.blk
  have c2 := h.c2
  have hf := h.frozen 2
  obtain ⟨D, ho, _⟩ := h.own
  have hml := ho.lt
  have hpl : Hid (∀ n b, pg n = some b → b < w.heap.size) := Lib.hid fun n b hn => by
    obtain ⟨cs, h1, _⟩ := h.page n b hn
    exact blk_lt h1
  have hbg : base ≤ w.heap.size := Nat.le_trans h.gm.2.1 (Nat.le_of_lt hgl)
  have HH := Lib.hid h
  clear h hb ha h8 ho
  go_enter Try.func19, Try.ntmps19
  go_wp2_with (first | (go_at_call 17; with_reducible refine T1.out.mono ?_; rintro e w' ⟨rfl, rfl⟩) | ((with_reducible refine gate_builtin (b := .append) (xs := #[.tmp 20, .tmp 22]) rfl ?_); at_builtin; refine Kd.R_append (Kd.int .u64) (w0 := w) base rfl (.tmp 20) (.tmp 22) 27 30 (.int .u64 0) 8 rfl Try.underlying27 info30 rfl (by decide) (by omega) (.slice A Tr.length c) Tr (a : Int) [.int .u64 (a : Int)] (fun q => q ≠ g ∧ q ≠ mp ∧ ∀ n, pg n ≠ some q) (fun _ => False) rfl rfl rfl (fun _ hk => hk.elim) ?aF HH.out.tr (Below.refl _ _) hbg ?aL ?_; (case aF => intro k hk; exact ⟨by omega, by omega, fun n e => by have := hpl.out n k e; omega⟩); (case aL => omega); intro v5 w5 hR5 hB5 hg5 hn5; obtain ⟨A', c', rfl⟩ := Kd.R_slice hR5; have hst := HH.out.traced hg5 hR5; have hx5 := blk_grown HH.out.blk hg5 (fun e => (HH.out.tr.1 _ e.symm).1 rfl); have hc5 : w5.cell? ⟨g, 2, none⟩ = some (.slice A Tr.length c) := (blk_cell hx5 2).trans rfl; have hf5 := blk_frozen hx5 2; replace hst := Lib.hid hst; replace hg5 := Lib.hid hg5; replace hB5 := Aside0.mk hB5; clear hR5 hn5 hx5))
  have hst := hst.out
  rw [show (Tr ++ [(a : Int)]).length = Tr.length + 1 by simp] at hst
  go_ret2
  refine ⟨rfl, A', c', hst, ?_, fun b0 h0 => ?_⟩
  · exact (Kept.of_grown hg5.out (Kept.refl w _) (fun k hk => .inl (.inr (.inr (.inr hk))))).setCell (.inl (.inl rfl)) _
  · exact (hB5.out.mono h0).setCell (Nat.le_trans h0 HH.out.gm.2.1) _
/-- What New lays. -/
theorem MAt.new (w : World) (bits : Nat) : MAt w.heap.size ((w.alloc (.map #[] 0)).alloc (.cells #[.int .i64 (bits : Int), .map (some w.heap.size), .slice none 0 0] 66)) (w.heap.size + 1) w.heap.size bits (fun _ => none) (fun _ => 0) 0 none 0 [] := by
  refine ⟨?_, ⟨_, (World.ownsMap_made w Try.prog 30 ptrElem).alloc _, fun n => rfl, fun n _ => rfl⟩, (fun n b hn => by cases hn), fun _ _ _ _ => rfl, (fun _ _ _ hn => by cases hn), (fun _ _ hn => by cases hn), ⟨by omega, by omega, by omega⟩, Kd.R_nil _ _ _ _ _, (fun _ => by decide)⟩
  have := blk_new (w.alloc (.map #[] 0)) (.cells #[.int .i64 (bits : Int), .map (some w.heap.size), .slice none 0 0] 66)
  simpa using this
theorem new_bad (b : Int) (w : World) (h : b < 14 ∨ 22 < b) : Calls Try.prog 10 #[.int .i64 b] w fun e w' => e = .returned (.pointer none) ∧ w = w' := by
  rcases h with h | h
  · go_enter Try.func10, Try.ntmps10
    go_wp2_with fail
    go_ret
    exact ⟨rfl, rfl⟩
  · have h2 : ¬ b < 14 := by omega
    go_enter Try.func10, Try.ntmps10
    go_wp2_with fail
    go_ret
    exact ⟨rfl, rfl⟩
theorem new_ok (k : Nat) (w : World) (h1 : 14 ≤ k) (h2 : k ≤ 22) : Calls Try.prog 10 #[.int .i64 (k : Int)] w fun e w' => e = .returned (.pointer (some ⟨w.heap.size + 1, 0, none⟩)) ∧ MAt w.heap.size w' (w.heap.size + 1) w.heap.size k (fun _ => none) (fun _ => 0) 0 none 0 [] ∧ Below w.heap.size w w' := by
  have hmm := @run_makeMap Try.prog
  have h3 : ¬ (k : Int) < 14 := by omega
  have h4 : ¬ (22 : Int) < k := by omega
  go_enter Try.func10, Try.ntmps10
  go_wp2_with fail
  go_ret
  exact ⟨by simp, MAt.new w k, below_alloc (below_alloc (Below.refl _ _) _) _⟩
end Go.Proofs.Ytpkffpcdmglleaa.Me
