-- PRINTED by print.py (a twelfth state) out of the translation. Not trusted: Lean checks it.
import Derived.Test.YtlccjklljlddhaaProg
import Derived.Below
import Derived.Deep.Draws
import Derived.Deep.AppendLies
import Derived.Maps.AppendAt
import Derived.OwnWalk
import Derived.Laws.BytesArg
import Derived.Laws.MakeOwn
import Derived.Laws.OwnMore
import Derived.Deep.OwnRows
import Derived.Tactics
import Derived.Lib.ConvBytes
import Derived.Laws.Slices
import Derived.WalkKit
import Derived.KernelRfl
import Derived.RowKit3
import Derived.Deep.LoopGhost
import Derived.Deep.QuietTactic
import Derived.BigQuiet
import Derived.WideLaws
import Derived.Deep.DeepCutAuto
import Derived.Deep.CutBlock
import Derived.Deep.RegionHeld3
import Derived.Laws.Rows
import Derived.Lib.AppendStr
import Derived.ArgAppend
import Derived.Laws.IdiomCopy
import Derived.OrdersHeld
import Derived.Laws.BitsLemmas
import Derived.RowKit
import Derived.Test.YtlccjklljlddhaaWWords
import Derived.Test.YtlccjklljlddhaaWLast
import Derived.Test.YtlccjklljlddhaaWTab
import Derived.Test.YtlccjklljlddhaaWFour
import Derived.Test.YtlccjklljlddhaaWQPut
import Derived.Test.YtlccjklljlddhaaWApart
import Derived.Test.YtlccjklljlddhaaWArr
import Derived.Test.YtlccjklljlddhaaWZeros
import Derived.Test.YtlccjklljlddhaaWFoot
import Derived.Test.YtlccjklljlddhaaWKept
import Derived.Test.YtlccjklljlddhaaWShare
import Derived.Test.YtlccjklljlddhaaWN
import Derived.Test.YtlccjklljlddhaaWFootNe
import Derived.Test.YtlccjklljlddhaaWAt
import Derived.Test.YtlccjklljlddhaaWEqStruct
import Derived.Test.YtlccjklljlddhaaWRepsOne
import Derived.Test.YtlccjklljlddhaaWInv
import Derived.Test.YtlccjklljlddhaaWInvWords
import Derived.Test.YtlccjklljlddhaaWGuard
import Derived.Test.YtlccjklljlddhaaWNEv
import Derived.Test.YtlccjklljlddhaaWMore
namespace Go.Proofs.Ytlccjklljlddhaa.Fn
open Go.RowKit Go.Proofs.YtlccjklljlddhaaW.PrintWords Go.Proofs.YtlccjklljlddhaaW.PrintLast Go.Proofs.YtlccjklljlddhaaW.PrintMore
attribute [local go_sem] max2_int min2_int max_two min_two max_three min_three max_four min_four   -- for this text's walks alone
set_option linter.unusedVariables false
set_option linter.unusedSimpArgs false



def errW : Option Int → Value
  | none => .nilIface
  | some c => .iface 0 (.int .i64 c)
theorem errW_none : errW none = .nilIface := rfl
theorem errW_some (c : Int) : errW (some c) = .iface 0 (.int .i64 c) := rfl

theorem info3 : (Try.prog.info? 3).map (fun i => (i.zero, i.size, i.bytes)) = some (some (.int .i64 0), 1, 8) := by kernel_rfl
theorem info5 : (Try.prog.info? 5).map (fun i => (i.zero, i.size, i.bytes)) = some (some (.int .u8 0), 1, 1) := by kernel_rfl
theorem info23 : (Try.prog.info? 23).map (fun i => (i.zero, i.size, i.bytes)) = some (some (.slice none 0 0), 1, 24) := by kernel_rfl
theorem info36 : (Try.prog.info? 36).map (fun i => (i.zero, i.size, i.bytes)) = some (some (.agg #[(.int .i64 0), (.int .u64 0), (.int .i64 0), (.int .u64 0), (.int .i64 0), (.bool false), (.bool false), (.slice none 0 0)]), 8, 72) := by kernel_rfl
-- the values' own types
def rd_L2 (xs : List (List Int)) (i : Int) : (List Int) := xs.getD i.toNat ([] : List Int)
theorem at_L2 {w : World} {A : Option Addr} {n : Nat} {xs : List (List Int)} (h : Kd.C (Kd.slice 5 (Kd.int .u8)) w A n xs) (i : Int) (h0 : 0 ≤ i) (h1 : i < n) : ∃ ad A0 c0, A = some ad ∧ w.cell? (ad.add i.toNat) = some (.slice A0 (rd_L2 xs i).length c0) ∧ (rd_L2 xs i).length ≤ c0 ∧ (Kd.int .u8).C w A0 (rd_L2 xs i).length (rd_L2 xs i) := by
  obtain ⟨ad, c, e, _, hK, hc0⟩ := Kd.C_get h ([] : List Int) i h0 h1
  have hc : ∀ j u, c[j]? = some u → w.cell? (ad.add (i.toNat * 1 + j)) = some u := hc0
  obtain ⟨A0, c0, rfl, l0, g0⟩ := hK
  exact ⟨ad, A0, c0, e, by have hq := hc 0 _ rfl; rwa [Nat.mul_one, Nat.add_zero] at hq, l0, g0⟩

/-! #### struct type 33 -/
structure S33 where
  f0 : Int
  f1 : Bool
  f2 : Bool
def z33 : S33 := ⟨(0 : Int), false, false⟩
def k33 : Kd S33 := Kd.iso (Kd.pair (Kd.int .i64) (Kd.pair Kd.bool Kd.bool)) (fun x : S33 => (x.f0, x.f1, x.f2))
theorem k33_heap : Kd.Heap k33 := Kd.heap_iso _ (Kd.heap_pair (Kd.heap_int .i64) (Kd.heap_pair Kd.heap_bool Kd.heap_bool))
theorem k33_open {w : World} {x : S33} {cs : List Value} (h : k33.K w x cs) : cs = [.int .i64 x.f0, .bool x.f1, .bool x.f2] := by
  obtain ⟨_, _, rfl, rfl, ⟨_, _, rfl, rfl, rfl⟩⟩ := h
  exact rfl
theorem k33_openM {w : World} {base : Nat} {ok : Nat → Prop} {x : S33} {cs : List Value} (h : k33.M w base ok x cs) : cs = [.int .i64 x.f0, .bool x.f1, .bool x.f2] := by
  obtain ⟨_, _, rfl, rfl, ⟨_, _, rfl, rfl, rfl⟩⟩ := h
  exact rfl
theorem k33_mk (w : World) (x : S33)  : k33.K w x [.int .i64 x.f0, .bool x.f1, .bool x.f2] := ⟨[.int .i64 x.f0], [.bool x.f1, .bool x.f2], rfl, rfl, ⟨[.bool x.f1], [.bool x.f2], rfl, rfl, rfl⟩⟩
theorem k33_mkM (w : World) (base : Nat) (ok : Nat → Prop) (x : S33)  : k33.M w base ok x [.int .i64 x.f0, .bool x.f1, .bool x.f2] := ⟨[.int .i64 x.f0], [.bool x.f1, .bool x.f2], rfl, rfl, ⟨[.bool x.f1], [.bool x.f2], rfl, rfl, rfl⟩⟩
theorem k33_mkF (W : World) (ok : Nat → Prop) (x : S33) : Kd.FK k33 W ok x [.int .i64 x.f0, .bool x.f1, .bool x.f2] := fun W2 _ => k33_mk W2 x
def rd_T33 (xs : List S33) (i : Int) : S33 := xs.getD i.toNat z33
theorem at_T33 {w : World} {A : Option Addr} {n : Nat} {xs : List S33} (h : Kd.C k33 w A n xs) (i : Int) (h0 : 0 ≤ i) (h1 : i < n) : ∃ ad , A = some ad ∧ w.cell? (ad.add (i.toNat * 3)) = some (.int .i64 (rd_T33 xs i).f0) ∧ w.cell? ⟨(ad.add (i.toNat * 3)).block, (ad.add (i.toNat * 3)).off + 1, none⟩ = some (.bool (rd_T33 xs i).f1) ∧ w.cell? ⟨(ad.add (i.toNat * 3)).block, (ad.add (i.toNat * 3)).off + 2, none⟩ = some (.bool (rd_T33 xs i).f2) := by
  obtain ⟨ad, c, e, _, hK, hc0⟩ := Kd.C_get h z33 i h0 h1
  have hc : ∀ j u, c[j]? = some u → w.cell? (ad.add (i.toNat * 3 + j)) = some u := hc0
  obtain rfl := k33_open hK
  exact ⟨ad, e, hc 0 _ rfl, by rw [← add_field _ _ 1 (by omega)]; exact hc 1 _ rfl, by rw [← add_field _ _ 2 (by omega)]; exact hc 2 _ rfl⟩

def rd_L6 (xs : List (List Int)) (i : Int) : (List Int) := xs.getD i.toNat ([] : List Int)
theorem at_L6 {w : World} {A : Option Addr} {n : Nat} {xs : List (List Int)} (h : Kd.C (Kd.slice 3 (Kd.int .i64)) w A n xs) (i : Int) (h0 : 0 ≤ i) (h1 : i < n) : ∃ ad A0 c0, A = some ad ∧ w.cell? (ad.add i.toNat) = some (.slice A0 (rd_L6 xs i).length c0) ∧ (rd_L6 xs i).length ≤ c0 ∧ (Kd.int .i64).C w A0 (rd_L6 xs i).length (rd_L6 xs i) := by
  obtain ⟨ad, c, e, _, hK, hc0⟩ := Kd.C_get h ([] : List Int) i h0 h1
  have hc : ∀ j u, c[j]? = some u → w.cell? (ad.add (i.toNat * 1 + j)) = some u := hc0
  obtain ⟨A0, c0, rfl, l0, g0⟩ := hK
  exact ⟨ad, A0, c0, e, by have hq := hc 0 _ rfl; rwa [Nat.mul_one, Nat.add_zero] at hq, l0, g0⟩

/-! #### struct type 36 -/
structure S36 where
  f0 : Int
  f1 : Int
  f2 : Int
  f3 : Int
  f4 : S33
  f5 : (List Int)
def z36 : S36 := ⟨(0 : Int), (0 : Int), (0 : Int), (0 : Int), z33, ([] : List Int)⟩
def k36 : Kd S36 := Kd.iso (Kd.pair (Kd.int .i64) (Kd.pair (Kd.int .u64) (Kd.pair (Kd.int .i64) (Kd.pair (Kd.int .u64) (Kd.pair k33 (Kd.slice 3 (Kd.int .i64))))))) (fun x : S36 => (x.f0, x.f1, x.f2, x.f3, x.f4, x.f5))
theorem k36_heap : Kd.Heap k36 := Kd.heap_iso _ (Kd.heap_pair (Kd.heap_int .i64) (Kd.heap_pair (Kd.heap_int .u64) (Kd.heap_pair (Kd.heap_int .i64) (Kd.heap_pair (Kd.heap_int .u64) (Kd.heap_pair k33_heap (Kd.heap_slice 3 (Kd.heap_int .i64)))))))
theorem k36_open {w : World} {x : S36} {cs : List Value} (h : k36.K w x cs) : ∃ A7 c7, cs = [.int .i64 x.f0, .int .u64 x.f1, .int .i64 x.f2, .int .u64 x.f3, .int .i64 x.f4.f0, .bool x.f4.f1, .bool x.f4.f2, .slice A7 x.f5.length c7] ∧ x.f5.length ≤ c7 ∧ (Kd.int .i64).C w A7 x.f5.length x.f5 := by
  obtain ⟨_, _, rfl, rfl, ⟨_, _, rfl, rfl, ⟨_, _, rfl, rfl, ⟨_, _, rfl, rfl, ⟨_, _, rfl, s4, ⟨A7, c7, rfl, l7, g7⟩⟩⟩⟩⟩⟩ := h
  obtain rfl := k33_open s4
  exact ⟨A7, c7, rfl, l7, g7⟩
theorem k36_openM {w : World} {base : Nat} {ok : Nat → Prop} {x : S36} {cs : List Value} (h : k36.M w base ok x cs) : ∃ v7, cs = [.int .i64 x.f0, .int .u64 x.f1, .int .i64 x.f2, .int .u64 x.f3, .int .i64 x.f4.f0, .bool x.f4.f1, .bool x.f4.f2, v7] ∧ (Kd.int .i64).R 3 w base ok v7 x.f5 := by
  obtain ⟨_, _, rfl, rfl, ⟨_, _, rfl, rfl, ⟨_, _, rfl, rfl, ⟨_, _, rfl, rfl, ⟨_, _, rfl, s4, ⟨v7, rfl, g7⟩⟩⟩⟩⟩⟩ := h
  obtain rfl := k33_openM s4
  exact ⟨v7, rfl, g7⟩
theorem k36_mk (w : World) (x : S36) {A7 : Option Addr} {c7 : Nat} (l7 : x.f5.length ≤ c7) (g7 : (Kd.int .i64).C w A7 x.f5.length x.f5) : k36.K w x [.int .i64 x.f0, .int .u64 x.f1, .int .i64 x.f2, .int .u64 x.f3, .int .i64 x.f4.f0, .bool x.f4.f1, .bool x.f4.f2, .slice A7 x.f5.length c7] := ⟨[.int .i64 x.f0], [.int .u64 x.f1, .int .i64 x.f2, .int .u64 x.f3, .int .i64 x.f4.f0, .bool x.f4.f1, .bool x.f4.f2, .slice A7 x.f5.length c7], rfl, rfl, ⟨[.int .u64 x.f1], [.int .i64 x.f2, .int .u64 x.f3, .int .i64 x.f4.f0, .bool x.f4.f1, .bool x.f4.f2, .slice A7 x.f5.length c7], rfl, rfl, ⟨[.int .i64 x.f2], [.int .u64 x.f3, .int .i64 x.f4.f0, .bool x.f4.f1, .bool x.f4.f2, .slice A7 x.f5.length c7], rfl, rfl, ⟨[.int .u64 x.f3], [.int .i64 x.f4.f0, .bool x.f4.f1, .bool x.f4.f2, .slice A7 x.f5.length c7], rfl, rfl, ⟨[.int .i64 x.f4.f0, .bool x.f4.f1, .bool x.f4.f2], [.slice A7 x.f5.length c7], rfl, (k33_mk w x.f4 ), ⟨A7, c7, rfl, l7, g7⟩⟩⟩⟩⟩⟩
theorem k36_mkM (w : World) (base : Nat) (ok : Nat → Prop) (x : S36) {v7 : Value} (g7 : (Kd.int .i64).R 3 w base ok v7 x.f5) : k36.M w base ok x [.int .i64 x.f0, .int .u64 x.f1, .int .i64 x.f2, .int .u64 x.f3, .int .i64 x.f4.f0, .bool x.f4.f1, .bool x.f4.f2, v7] := ⟨[.int .i64 x.f0], [.int .u64 x.f1, .int .i64 x.f2, .int .u64 x.f3, .int .i64 x.f4.f0, .bool x.f4.f1, .bool x.f4.f2, v7], rfl, rfl, ⟨[.int .u64 x.f1], [.int .i64 x.f2, .int .u64 x.f3, .int .i64 x.f4.f0, .bool x.f4.f1, .bool x.f4.f2, v7], rfl, rfl, ⟨[.int .i64 x.f2], [.int .u64 x.f3, .int .i64 x.f4.f0, .bool x.f4.f1, .bool x.f4.f2, v7], rfl, rfl, ⟨[.int .u64 x.f3], [.int .i64 x.f4.f0, .bool x.f4.f1, .bool x.f4.f2, v7], rfl, rfl, ⟨[.int .i64 x.f4.f0, .bool x.f4.f1, .bool x.f4.f2], [v7], rfl, (k33_mkM w base ok x.f4 ), ⟨v7, rfl, g7⟩⟩⟩⟩⟩⟩
theorem k36_openF {W : World} {ok : Nat → Prop} {x : S36} {cs : List Value} (h : Kd.FK k36 W ok x cs) : ∃ A7 c7, cs = [.int .i64 x.f0, .int .u64 x.f1, .int .i64 x.f2, .int .u64 x.f3, .int .i64 x.f4.f0, .bool x.f4.f1, .bool x.f4.f2, .slice A7 x.f5.length c7] ∧ x.f5.length ≤ c7 ∧ Kd.F (Kd.int .i64) W ok A7 x.f5.length x.f5 := by
  obtain ⟨A7, c7, rfl, l7, _⟩ := k36_open (Kd.FK_now h)
  exact ⟨A7, c7, rfl, l7, (fun W' hW => by obtain ⟨A7_, c7_, he, l7_, g7_⟩ := k36_open (h W' hW); injection (Option.some.inj (show some (Value.slice A7 x.f5.length c7) = some (Value.slice A7_ x.f5.length c7_) from congrArg (fun l => l[7]?) he)) with ha_ _ _; rw [ha_]; exact g7_)⟩
theorem k36_mkF (W : World) (ok : Nat → Prop) (x : S36) {A7 : Option Addr} {c7 : Nat} (l7 : x.f5.length ≤ c7) (g7 : Kd.F (Kd.int .i64) W ok A7 x.f5.length x.f5) : Kd.FK k36 W ok x [.int .i64 x.f0, .int .u64 x.f1, .int .i64 x.f2, .int .u64 x.f3, .int .i64 x.f4.f0, .bool x.f4.f1, .bool x.f4.f2, .slice A7 x.f5.length c7] := fun W2 hW => k36_mk W2 x l7 (g7 W2 hW)
def rd_T36 (xs : List S36) (i : Int) : S36 := xs.getD i.toNat z36
theorem at_T36 {w : World} {A : Option Addr} {n : Nat} {xs : List S36} (h : Kd.C k36 w A n xs) (i : Int) (h0 : 0 ≤ i) (h1 : i < n) : ∃ ad A7 c7, A = some ad ∧ w.cell? (ad.add (i.toNat * 8)) = some (.int .i64 (rd_T36 xs i).f0) ∧ w.cell? ⟨(ad.add (i.toNat * 8)).block, (ad.add (i.toNat * 8)).off + 1, none⟩ = some (.int .u64 (rd_T36 xs i).f1) ∧ w.cell? ⟨(ad.add (i.toNat * 8)).block, (ad.add (i.toNat * 8)).off + 2, none⟩ = some (.int .i64 (rd_T36 xs i).f2) ∧ w.cell? ⟨(ad.add (i.toNat * 8)).block, (ad.add (i.toNat * 8)).off + 3, none⟩ = some (.int .u64 (rd_T36 xs i).f3) ∧ w.cell? ⟨(ad.add (i.toNat * 8)).block, (ad.add (i.toNat * 8)).off + 4, none⟩ = some (.int .i64 (rd_T36 xs i).f4.f0) ∧ w.cell? ⟨(ad.add (i.toNat * 8)).block, (ad.add (i.toNat * 8)).off + 5, none⟩ = some (.bool (rd_T36 xs i).f4.f1) ∧ w.cell? ⟨(ad.add (i.toNat * 8)).block, (ad.add (i.toNat * 8)).off + 6, none⟩ = some (.bool (rd_T36 xs i).f4.f2) ∧ w.cell? ⟨(ad.add (i.toNat * 8)).block, (ad.add (i.toNat * 8)).off + 7, none⟩ = some (.slice A7 (rd_T36 xs i).f5.length c7) ∧ (rd_T36 xs i).f5.length ≤ c7 ∧ (Kd.int .i64).C w A7 (rd_T36 xs i).f5.length (rd_T36 xs i).f5 := by
  obtain ⟨ad, c, e, _, hK, hc0⟩ := Kd.C_get h z36 i h0 h1
  have hc : ∀ j u, c[j]? = some u → w.cell? (ad.add (i.toNat * 8 + j)) = some u := hc0
  obtain ⟨A7, c7, rfl, l7, g7⟩ := k36_open hK
  exact ⟨ad, A7, c7, e, hc 0 _ rfl, by rw [← add_field _ _ 1 (by omega)]; exact hc 1 _ rfl, by rw [← add_field _ _ 2 (by omega)]; exact hc 2 _ rfl, by rw [← add_field _ _ 3 (by omega)]; exact hc 3 _ rfl, by rw [← add_field _ _ 4 (by omega)]; exact hc 4 _ rfl, by rw [← add_field _ _ 5 (by omega)]; exact hc 5 _ rfl, by rw [← add_field _ _ 6 (by omega)]; exact hc 6 _ rfl, by rw [← add_field _ _ 7 (by omega)]; exact hc 7 _ rfl, l7, g7⟩

end Go.Proofs.Ytlccjklljlddhaa.Fn
