/- Contracts of slices.Clone and mem.Trace. Conditions: those each contract names. -/
import Derived.Test.YtpkffpcdmglleaaMf
import Derived.WalkLawsBesides
set_option linter.unusedVariables false
set_option linter.unusedSimpArgs false
namespace Go.Proofs.Ytpkffpcdmglleaa.Me
open Go.RowKit Go.Maps Go.Proofs.YtpkffpcdmglleaaW.PrintWords Go.Proofs.YtpkffpcdmglleaaW.PrintMore
variable {base : Nat} {w : World} {g mp bits N c : Nat} {pg : Nat → Option Nat} {wd : Nat → Nat} {A : Option Addr} {Tr : List Int}
theorem clone_any (xs : List Int) (hC : Kd.C (Kd.int .u64) w A xs.length xs) (hl : xs.length < 1000000) : Calls Try.prog 33 #[.slice A xs.length c] w fun e w' => ∃ v, e = .returned v ∧ Kd.R (Kd.int .u64) 30 w' w.heap.size (fun _ => True) v xs ∧ Below w.heap.size w w' := by
  cases A with
  | none =>
    have h0 : xs.length = 0 := by
      rcases Nat.eq_zero_or_pos xs.length with h | h
      · exact h
      · obtain ⟨ad, e, _⟩ := hC.2.2 h
        cases e
    have hx : xs = [] := List.length_eq_zero_iff.1 h0
    subst hx
    have hnil := Go.Lib.run_eql_slice_nil (P := Try.prog) w 27 30 none 0 c 0 0 Try.underlying27
    clear hC hl h0
    go_enter Try.func33, Try.ntmps33
    go_wp2_with fail
    go_ret
    exact ⟨_, rfl, Kd.R_nil _ _ _ _ _, Below.refl _ _⟩
  | some x =>
    replace hC := Lib.hid hC
    have hnil := Go.Lib.run_eql_slice_nil (P := Try.prog) w 27 30 (some x) xs.length c 0 0 Try.underlying27
    go_enter Try.func33, Try.ntmps33
    go_wp2_with (first | ((with_reducible refine gate_dst (N := 5) rfl ?_); refine Kd.R_lit (Kd.int .u64) w.heap.size 30 rfl (N := 5) rfl (xs := []) (inner := []) (ok := fun _ => True) (okp := fun _ => False) ?hr (Reps.none _ _) (fun _ hk => hk.elim) trivial (Below.refl _ _) (Nat.le_refl _) (by simp) ?_; (case hr => first | (go_simp; done) | (go_simp; rfl)); intro v5 w5 hR5 hB5 hg5 hn5; replace hR5 := Lib.hid hR5; replace hB5 := Aside0.mk hB5; clear hg5 hn5; obtain ⟨A5, c5, e5⟩ := Kd.R_slice hR5.out; subst e5) | ((with_reducible refine gate_builtin (b := .append) (xs := #[.tmp 5, .tmp 6]) rfl ?_); at_builtin; refine Kd.R_append_rows (Kd.int .u64) (Rr := (Kd.int .u64).K w5) (w0 := w) w.heap.size rfl (.tmp 5) (.tmp 6) 27 30 (.int .u64 0) 8 rfl Try.underlying27 info30 rfl (by decide) (by omega) (.slice A5 0 c5) [] xs (some x) xs.length c (fun _ => True) (fun _ => False) rfl rfl hR5.out ?aR (fun _ _ h => h) (fun _ h => h.elim) (fun _ _ => trivial) hB5.out hB5.out.size ?aL ?_; (case aR => exact Kd.C_below hC.out hB5.out); (case aL => simp; omega); intro v6 w6 hR6 hB6 hg6 hn6; replace hR6 := Lib.hid hR6; replace hB6 := Aside0.mk hB6; clear hg6 hn6; obtain ⟨A6, c6, e6⟩ := Kd.R_slice hR6.out; subst e6))
    go_ret
    have hR6 := hR6.out
    exact ⟨_, rfl, hR6, hB6.out⟩
theorem trace_nil (w : World) : Calls Try.prog 14 #[.pointer none] w fun e w' => e = .returned (.slice none 0 0) ∧ w = w' := by
  go_enter Try.func14, Try.ntmps14
  go_wp2_with fail
  go_ret
  exact ⟨rfl, rfl⟩
theorem MAt.C (h : MAt base w g mp bits pg wd N A c Tr) : Kd.C (Kd.int .u64) w A Tr.length Tr := by
  obtain ⟨A', c', e, hl, hC⟩ := Kd.R_reads h.tr
  injection e with e1 e2 e3
  subst e1
  exact hC
theorem trace_any (h : MAt base w g mp bits pg wd N A c Tr) (hT : Tr.length < 1000000) : Calls Try.prog 14 #[.pointer (some ⟨g, 0, none⟩)] w fun e w' => ∃ v, e = .returned v ∧ Kd.R (Kd.int .u64) 30 w' w.heap.size (fun _ => True) v Tr ∧ Below w.heap.size w w' := by
  have c2 := h.c2
  have T1 := Lib.hid (clone_any (c := c) Tr h.C hT)
  clear h
  go_enter Try.func14, Try.ntmps14
  go_wp2_with fail
  refine T1.out.mono ?_
  rintro e w1 ⟨v, rfl, hR, hB⟩
  replace hR := Lib.hid hR
  replace hB := Aside0.mk hB
  obtain ⟨A', c', rfl⟩ := Kd.R_slice hR.out
  go_wp2_with fail
  go_ret
  exact ⟨_, rfl, hR.out, hB.out⟩
end Go.Proofs.Ytpkffpcdmglleaa.Me
