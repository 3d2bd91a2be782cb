/- Contracts of package frames: a memory's frames lie in a struct's block and a map's block, and read as a list of marks. Conditions: those each contract names. -/
import Derived.Test.YtekfcbgndjmhnaaFrP
import Derived.Test.YtekfcbgndjmhnaaWMore
import Derived.Test.YtekfcbgndjmhnaaWWords
import Derived.Test.YtekfcbgndjmhnaaProg
import Derived.Maps.OwnSet
import Derived.Maps.OwnOps
import Derived.WalkKit
import Derived.KernelRfl
import Derived.BigQuiet
import Derived.Deep.QuietTactic
import Derived.Lib.Hide
set_option linter.unusedVariables false
set_option linter.unusedSimpArgs false
namespace Go.Proofs.Ytekfcbgndjmhnaa.Fr
open Go.RowKit Go.Maps Go.Proofs.Ytekfcbgndjmhnaa.FrP Go.Proofs.YtekfcbgndjmhnaaW.PrintWords

theorem law30 : Keyed Try.prog 30 := int_keyed Try.underlying30
theorem zero3 (w : World) : (zeroValue 3).run Try.prog w = .ok (.int .i64 0) w := by kernel_rfl

theorem own_tight {w : World} {P : Program} {k : TypeId} {R : Value → Option (DataW Unit × List MemPlace)} {b n : Nat} {D : DataW Unit} (h : w.ownsMap P k R b n D) : w.ownsMap P k R b (Maps.size D) D := by
  obtain ⟨es, clock, hb, F, _, rfl⟩ := h
  refine ⟨es, clock, hb, F, ?_, rfl⟩
  rw [Maps.size_eq, length_read]
  exact Nat.le_refl _

/-- Block g is frames' struct, block m its map; the marks are S. -/
structure FrAt (w : World) (g m : Nat) (S : List Bool) : Prop where
  c0 : w.cell? ⟨g, 0, none⟩ = some (.map (some m))
  c1 : w.cell? ⟨g, 1, none⟩ = some (.int .i64 (S.length : Int))
  few : S.length ≤ 1023
  own : ∃ D : DataW Unit, w.ownsMap Try.prog 30 (plainElem Try.prog 3) m (Maps.size D) D ∧ Is D S
theorem FrAt.lt {w : World} {g m : Nat} {S : List Bool} (h : FrAt w g m S) : g < w.heap.size ∧ m < w.heap.size := by
  obtain ⟨D, ho, _⟩ := h.own
  exact ⟨World.block_lt_of_cell? w _ h.c0, ho.lt⟩
theorem FrAt.ne {w : World} {g m : Nat} {S : List Bool} (h : FrAt w g m S) : g ≠ m := by
  obtain ⟨D, ⟨es, clock, hb, _⟩, _⟩ := h.own
  rintro rfl
  have h0 := h.c0
  simp [World.cell?, hb] at h0
/-- What is written is elsewhere. -/
theorem FrAt.kept {w w' : World} {g m : Nat} {S : List Bool} (h : FrAt w g m S) {row : Option Nat} (hg : w.grownBy w' row) (h1 : some g ≠ row) (h2 : some m ≠ row) : FrAt w' g m S := by
  obtain ⟨hl1, hl2⟩ := h.lt
  obtain ⟨D, ho, hi⟩ := h.own
  refine ⟨?_, ?_, h.few, D, ho.kept hg h2, hi⟩
  · rw [World.cell?_of_block (a := ⟨g, 0, none⟩) (hg.block g hl1 h1)]; exact h.c0
  · rw [World.cell?_of_block (a := ⟨g, 1, none⟩) (hg.block g hl1 h1)]; exact h.c1
theorem FrAt.below {w w' : World} {g m : Nat} {S : List Bool} (h : FrAt w g m S) (hb : Below w.heap.size w w') : FrAt w' g m S := h.kept (grown_of_below hb none) (by simp) (by simp)
theorem FrAt.drewN {w : World} {g m : Nat} {S : List Bool} (h : FrAt w g m S) (n : Nat) : FrAt (w.drewN n) g m S := h.below (pw_below_drewN (Below.refl _ _) n)

theorem room_any {w : World} {g m : Nat} {S : List Bool} (h : FrAt w g m S) : Calls Try.prog 20 #[.pointer (some ⟨g, 0, none⟩)] w fun e w' => e = .returned (.int .i64 (S.length : Int)) ∧ w = w' := by
  have c1 := h.c1
  clear h
  go_enter Try.func20, Try.ntmps20
  go_wp2
  go_ret
  exact ⟨rfl, rfl⟩
theorem room_nil (w : World) : Calls Try.prog 20 #[.pointer none] w fun e w' => e = .returned (.int .i64 0) ∧ w = w' := by
  go_enter Try.func20, Try.ntmps20
  go_wp2
  go_ret
  exact ⟨rfl, rfl⟩
theorem taken_nil (a : Int) (w : World) : Calls Try.prog 16 #[.pointer none, .int .u64 a] w fun e w' => e = .returned (.bool false) ∧ w = w' := by
  go_enter Try.func16, Try.ntmps16
  go_wp2
  go_ret
  exact ⟨rfl, rfl⟩
theorem free_nil (w : World) : Calls Try.prog 18 #[.pointer none] w fun e w' => e = .returned (.int .i64 0) ∧ w = w' := by
  go_enter Try.func18, Try.ntmps18
  go_wp2
  go_ret
  exact ⟨rfl, rfl⟩
theorem taken_any {w : World} {g m : Nat} {S : List Bool} (h : FrAt w g m S) (a : Nat) (ha : a < 18446744073709551616) : Calls Try.prog 16 #[.pointer (some ⟨g, 0, none⟩), .int .u64 (a : Int)] w fun e w' => e = .returned (.bool (tk S a)) ∧ w = w' := by
  have c0 := h.c0
  obtain ⟨D, ho, hi⟩ := h.own
  have hwf : (Lit.int .u64 (a : Int)).wf = true := by
    have h1 : IntKind.u64.min = 0 := by decide
    have h2 : IntKind.u64.max = 18446744073709551615 := by decide
    simp only [Lit.wf, Bool.and_eq_true, decide_eq_true_eq]
    omega
  have hrun := ho.lookup_int law30 Try.underlying51 Try.underlying3 (zero3 _) (keyOf_int_mk Try.underlying30 hwf)
  obtain ⟨c, hrun, hat, _⟩ := hrun
  have hat2 := hi.at_ a
  rw [hat] at hat2
  injection hat2 with hat2
  injection hat2 with _ hc
  clear h ho hi hat
  cases ht : tk S a
  · rw [ht] at hc
    simp only [Bool.false_eq_true, if_false] at hc
    subst hc
    clear ht
    go_enter Try.func16, Try.ntmps16
    go_wp2
    go_ret
    exact ⟨rfl, rfl⟩
  · rw [ht] at hc
    simp only [if_true] at hc
    subst hc
    clear ht
    go_enter Try.func16, Try.ntmps16
    go_wp2
    go_ret
    exact ⟨rfl, rfl⟩
theorem u64_wf (a : Nat) (ha : a < 18446744073709551616) : (Lit.int .u64 (a : Int)).wf = true := by
  have h1 : IntKind.u64.min = 0 := by decide
  have h2 : IntKind.u64.max = 18446744073709551615 := by decide
  simp only [Lit.wf, Bool.and_eq_true, decide_eq_true_eq]
  omega
theorem count_le (S : List Bool) : S.count true ≤ S.length := List.count_le_length

theorem free_any {w : World} {g m : Nat} {S : List Bool} (h : FrAt w g m S) : Calls Try.prog 18 #[.pointer (some ⟨g, 0, none⟩)] w fun e w' => e = .returned (.int .i64 ((S.length : Int) - (S.count true : Int))) ∧ Drawn0 w w' := by
  have c0 := h.c0
  have c1 := h.c1
  obtain ⟨D, ho, hi⟩ := h.own
  have hlen : ∀ (ty : TypeId) (n : Nat), (Builtin.len_ #[51] ty #[.map (some m)]).run Try.prog (w.drewN n) = .ok (.int .i64 (S.count true)) (w.drewN n) := fun ty n => by
    have := World.ownsMap.len (w := w.drewN n) ho Try.underlying51 ty
    rw [hi.size_] at this
    exact this
  have b1 := count_le S
  have b2 := h.few
  clear h ho hi
  go_enter Try.func18, Try.ntmps18
  go_wp2
  go_quiet (fail)
  go_wp2
  go_ret
  exact ⟨rfl, ⟨⟨_, rfl⟩⟩⟩

/-- What is written is frames' own map alone. -/
theorem give_bad {w : World} {g m : Nat} {S : List Bool} (h : FrAt w g m S) (a : Nat) (ha : a < 18446744073709551616) (hf : tk S a = false) : Calls Try.prog 14 #[.pointer (some ⟨g, 0, none⟩), .int .u64 (a : Int)] w fun e w' => e = .returned (.int .i64 7) ∧ w = w' := by
  have ht := taken_any h a ha
  rw [hf] at ht
  have H := Lib.hid ht
  clear ht h hf
  go_enter Try.func14, Try.ntmps14
  go_wp2_with (first | (go_at_call 16; with_reducible refine H.out.mono ?_; rintro e w' ⟨rfl, rfl⟩))
  go_ret
  exact ⟨rfl, rfl⟩
theorem give_ok {w : World} {g m : Nat} {S : List Bool} (h : FrAt w g m S) (i : Nat) (hi : i < S.length) (hf : S.getD i false = true) : Calls Try.prog 14 #[.pointer (some ⟨g, 0, none⟩), .int .u64 (((i + 1) * 4096 : Nat) : Int)] w fun e w' =>
    e = .returned (.int .i64 0) ∧ FrAt w' g m (S.set i false) ∧ w.grownBy w' (some m) := by
  have hfew := h.few
  have ha : (i + 1) * 4096 < 18446744073709551616 := by omega
  have ht := taken_any h _ ha
  rw [tk_at, hf] at ht
  have H := Lib.hid ht
  have c0 := h.c0
  have hne := h.ne
  have HF := Lib.hid h
  obtain ⟨D, ho, hD⟩ := h.own
  have HD := Lib.hid (is_del hD hi hf)
  have hkey := keyOf_int_mk Try.underlying30 (u64_wf _ ha)
  clear ht h hf hD
  generalize (i + 1) * 4096 = a at *
  go_enter Try.func14, Try.ntmps14
  go_wp2_with (first | (go_at_call 16; with_reducible refine H.out.mono ?_; rintro e w' ⟨rfl, rfl⟩) | (at_delete; refine wpList_delete_own _ rfl _ _ 51 30 rfl 3 law30 Try.underlying51 _ m _ D rfl ho _ _ rfl hkey ?_; intro w1 hown1 hturn1))
  go_ret
  refine ⟨rfl, ?_, hturn1.grown⟩
  obtain ⟨hl1, _⟩ := HF.out.lt
  have hg := hturn1.grown
  have hb := hg.block g hl1 (by simp [hne])
  exact ⟨by rw [World.cell?_of_block (a := ⟨g, 0, none⟩) hb]; exact HF.out.c0, by rw [World.cell?_of_block (a := ⟨g, 1, none⟩) hb, List.length_set]; exact HF.out.c1, by rw [List.length_set]; exact hfew, _, own_tight hown1, HD.out⟩
end Go.Proofs.Ytekfcbgndjmhnaa.Fr
