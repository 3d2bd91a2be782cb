/- The contract of (*Mem).page: a page's words, or zeros. Conditions: those it names. -/
import Derived.Test.YtpkffpcdmglleaaMq
import Derived.Test.YtpkffpcdmglleaaR2
import Derived.Laws.Rows
set_option linter.unusedVariables false
set_option linter.unusedSimpArgs false
namespace Go.Proofs.Ytpkffpcdmglleaa.Me
open Go.RowKit Go.Maps Go.Proofs.Ytpkffpcdmglleaa.RM Go.Proofs.YtpkffpcdmglleaaW.PrintWords Go.Proofs.YtpkffpcdmglleaaW.PrintMore
variable {base : Nat} {w w' : World} {g mp bits N c : Nat} {pg : Nat → Option Nat} {wd : Nat → Nat} {A : Option Addr} {Tr : List Int}
/-- A page's words. -/
def PG (wd : Nat → Nat) (n : Nat) : Array Value := ((List.range 512).map fun q => Value.int .u64 (wd (n * 512 + q) : Int)).toArray
theorem PG_size (wd : Nat → Nat) (n : Nat) : (PG wd n).size = 512 := by simp [PG]
theorem PG_at (wd : Nat → Nat) (n q : Nat) (h : q < 512) : (PG wd n)[q]? = some (.int .u64 (wd (n * 512 + q) : Int)) := by simp [PG, h]
theorem PG_of {cs : Array Value} {n : Nat} (hs : cs.size = 512) (h : ∀ i, i < 512 → cs[i]? = some (.int .u64 (wd (n * 512 + i) : Int))) : cs = PG wd n := by
  apply Array.ext_getElem?
  intro i
  by_cases hi : i < 512
  · rw [h i hi, PG_at wd n i hi]
  · rw [Array.getElem?_eq_none (by omega), Array.getElem?_eq_none (by rw [PG_size]; omega)]
theorem PG_one (wd : Nat → Nat) (n : Nat) : (PG wd n).all (·.oneCell') = true := by
  rw [Array.all_eq_true]
  intro i hi
  have h := PG_at wd n i (by rw [PG_size] at hi; exact hi)
  rw [Array.getElem?_eq_getElem hi] at h
  rw [Option.some.inj h]
  rfl
theorem PG_zero {n : Nat} (h : ∀ i, i < 512 → wd (n * 512 + i) = 0) : PG wd n = Array.replicate 512 (.int .u64 0) := by
  refine (PG_of (by simp) fun i hi => ?_).symm
  rw [h i hi]
  simp [hi]
theorem size82 : (Try.prog.info? 82).map (·.size) = some 512 := by kernel_rfl
set_option maxHeartbeats 1000000 in
theorem page_any (h : MAt base w g mp bits pg wd N A c Tr) (n : Nat) (hn : n < 18446744073709551616) : Calls Try.prog 41 #[.pointer (some ⟨g, 0, none⟩), .int .u64 (n : Int)] w fun e w' => e = .returned (.agg (PG wd n)) ∧ Below w.heap.size w w' := by
  have hz : ∀ w, (zeroValue 80).run Try.prog w = .ok (.pointer none) w := fun w => by kernel_rfl
  have hk : keyOf Try.prog 30 (.int .u64 (n : Int)) = some (key n) := keyOf_int_mk Try.underlying30 (u64_wf _ hn)
  replace hk := Lib.hid hk
  replace hz := Lib.hid hz
  obtain ⟨Z, hZ⟩ : ∃ Z : Array Value, Z = Array.replicate 512 (.int .u64 0) := ⟨_, rfl⟩
  have hZs : Hid (Z.size = 512) := Lib.hid (by rw [hZ]; simp)
  have h82 := zero82 w
  rw [← hZ] at h82
  have hZ0 := Lib.hid hZ
  have s82 := Lib.hid (fun cs (h : Array.size cs = 512) => (by rw [h]; exact size82 : (Try.prog.info? 82).map (·.size) = some (Array.size (α := Value) cs)))
  clear hZ
  replace h := Lib.hid h
  go_enter Try.func41, Try.ntmps41
  go_upto_region 1 with ((with_reducible refine gate_dst (N := 4) rfl ?_); refine box_event ?hg (N := 4) ?hd (cs := Z) (t := 82) ?hr ?_; (case hd => rfl); (case hg => rfl); (case hr => first | (go_simp; done) | (go_simp; rfl)); intro g4 hg4 w2 hb2 hB2; replace hg4 := Lib.hid hg4; have R2 := Lib.hid hb2; have L2 := Lib.hid hB2; clear hb2 hB2)
  have h2 := h.out.below L2.out
  have c1 := h2.c1
  have h82b := zero82 w2
  rw [← hZ0.out] at h82b
  have le4 : w.heap.size ≤ g4 := Nat.le_of_eq hg4.out.symm
  clear h82
  obtain ⟨D, ho, hD, hF⟩ := h2.own
  have hr := hD n
  cases hp : pg n with
  | none =>
    rw [hp] at hr
    have hr := Lib.hid hr
    have hpg := Lib.hid ((PG_zero (wd := wd) (n := n) (h2.zero _ hp)).trans hZ0.out.symm)
    have o1 : Hid (Z.all (·.oneCell') = true) := Lib.hid (by rw [← hpg.out]; exact PG_one _ _)
    clear hF hD hp h2 h
    go_wp2_with (first | (at_lookup; refine wpList_lookup_ptr _ rfl _ _ 64 rfl 30 80 law30 Try.underlying64 (hz.out _) mp _ D rfl ho _ _ rfl hk.out none hr.out ?_; simp only [ptr]) | (refine ev_store rfl 82 (.tmp 4) (.tmp 17) rfl g4 Z rfl rfl 82 _ R2.out (s82.out _ hZs.out) rfl o1.out ?_; intro w3 hb3 hg3; have R3 := Lib.hid hb3; have G3 := Lib.hid hg3; clear hb3 hg3))
    refine bodyPost_ret (results_cell_row rfl _ _ g4 82 Z (0, 0) _ rfl R3.out Try.underlying82 rfl (s82.out _ hZs.out)) rfl ?_
    rw [hpg.out]
    exact ⟨rfl, L2.out.grown G3.out L2.out.size (fun k hk => by cases hk; exact le4)⟩
  | some b =>
    rw [hp] at hr
    have hr := Lib.hid hr
    obtain ⟨cs, hb, hsz, hcs⟩ := h2.page _ _ hp
    have e := PG_of hsz hcs
    subst e
    replace hb := Lib.hid hb
    clear hF hD hp h2 h hcs hsz
    generalize hPe : PG wd n = Q at *
    have q1 : Hid (Q.size = 512) := Lib.hid (by rw [← hPe]; exact PG_size _ _)
    have q2 : Hid (Q.all (·.oneCell') = true) := Lib.hid (by rw [← hPe]; exact PG_one _ _)
    replace hPe := Lib.hid hPe
    go_wp2_with (first | (at_lookup; refine wpList_lookup_ptr _ rfl _ _ 64 rfl 30 80 law30 Try.underlying64 (hz.out _) mp _ D rfl ho _ _ rfl hk.out (some b) hr.out ?_; simp only [ptr]) | (refine ev_load rfl 82 (.tmp 15) rfl b Q rfl hb.out _ Try.underlying82 rfl (s82.out _ q1.out) ?_) | (refine ev_store rfl 82 (.tmp 4) (.tmp 16) rfl g4 Q rfl rfl 82 _ R2.out (s82.out _ q1.out) (by rw [hZs.out, q1.out]) q2.out ?_; intro w3 hb3 hg3; have R3 := Lib.hid hb3; have G3 := Lib.hid hg3; clear hb3 hg3))
    refine bodyPost_ret (results_cell_row rfl _ _ g4 82 Q (0, 0) _ rfl R3.out Try.underlying82 rfl (s82.out _ q1.out)) rfl ?_
    exact ⟨by rw [hPe.out], L2.out.grown G3.out L2.out.size (fun k hk => by cases hk; exact le4)⟩
end Go.Proofs.Ytpkffpcdmglleaa.Me
