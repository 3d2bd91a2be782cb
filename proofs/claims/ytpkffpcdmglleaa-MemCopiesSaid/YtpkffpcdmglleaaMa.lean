/- A physical memory in the machine's memory: its struct, its map of pages, its pages, its trace; what other writes leave alone. No walk in it. -/
import Derived.Test.YtpkffpcdmglleaaWMore
import Derived.Test.YtpkffpcdmglleaaWWords
import Derived.Test.YtpkffpcdmglleaaProg
import Derived.Maps.OwnSet
import Derived.Maps.OwnOps
import Derived.WalkKit
import Derived.KernelRfl
import Derived.BigQuiet
import Derived.Deep.QuietTactic
import Derived.Lib.Hide
set_option linter.unusedVariables false
set_option linter.unusedSimpArgs false
namespace Go.Proofs.Ytpkffpcdmglleaa.Me
open Go.RowKit Go.Maps Go.Proofs.YtpkffpcdmglleaaW.PrintWords Go.Proofs.YtpkffpcdmglleaaW.PrintMore
theorem law30 : Keyed Try.prog 30 := int_keyed Try.underlying30
/-- How an element reads that is a block's pointer, or nil. -/
def ptrElem : Value → Option (DataW Unit × List MemPlace)
  | .pointer none => some (.lit (.bool false), [])
  | .pointer (some ⟨b, 0, none⟩) => some (.lit (.int .u64 (b : Int)), [])
  | _ => none
def code : Option Nat → DataW Unit
  | none => .lit (.bool false)
  | some b => .lit (.int .u64 (b : Int))
def ptr : Option Nat → Value
  | none => .pointer none
  | some b => .pointer (some ⟨b, 0, none⟩)
theorem ptr_reads (o : Option Nat) : ptrElem (ptr o) = some (code o, []) := by cases o <;> rfl
theorem ptr_inv {v : Value} {o : Option Nat} {ps : List MemPlace} (h : ptrElem v = some (code o, ps)) : v = ptr o := by
  unfold ptrElem at h
  split at h
  · cases o with
    | none => rfl
    | some b => simp [code] at h
  · rename_i b
    cases o with
    | none => simp [code] at h
    | some b' =>
      simp [code] at h
      obtain ⟨h1, _⟩ := h
      have : b = b' := by omega
      subst this
      rfl
  · cases h
def key (n : Nat) : Lit := .int .u64 (n : Int)
/-- Block g is a memory's struct, block mp its map; pg are its pages' blocks, wd its words, slot by slot; Tr the trace. -/
structure MAt (base : Nat) (w : World) (g mp bits : Nat) (pg : Nat → Option Nat) (wd : Nat → Nat) (N : Nat) (A : Option Addr) (c : Nat) (Tr : List Int) : Prop where
  blk : w.heap[g]? = some (.cells #[.int .i64 (bits : Int), .map (some mp), .slice A Tr.length c] 66 (0, 0))
  own : ∃ D, w.ownsMap Try.prog 30 ptrElem mp N D ∧ (∀ n, D.atKey (key n) (code none) = code (pg n)) ∧ ∀ n, pg n = none → Maps.has D (key n) = false
  page : ∀ n b, pg n = some b → ∃ cs : Array Value, w.heap[b]? = some (.cells cs 82 (0, 0)) ∧ cs.size = 512 ∧ ∀ i, i < 512 → cs[i]? = some (.int .u64 (wd (n * 512 + i) : Int))
  zero : ∀ n, pg n = none → ∀ i, i < 512 → wd (n * 512 + i) = 0
  inj : ∀ n n' b, pg n = some b → pg n' = some b → n = n'
  far : ∀ n b, pg n = some b → b ≠ g ∧ b ≠ mp ∧ base ≤ b
  gm : g ≠ mp ∧ base ≤ g ∧ base ≤ mp
  tr : Kd.R (Kd.int .u64) 30 w base (fun q => q ≠ g ∧ q ≠ mp ∧ ∀ n, pg n ≠ some q) (.slice A Tr.length c) Tr
  fits : ∀ s, wd s < 18446744073709551616
section
variable {base : Nat} {w w' : World} {g mp bits N c : Nat} {pg : Nat → Option Nat} {wd : Nat → Nat} {A : Option Addr} {Tr : List Int}
theorem MAt.c0 (h : MAt base w g mp bits pg wd N A c Tr) : w.cell? ⟨g, 0, none⟩ = some (.int .i64 (bits : Int)) := (blk_cell h.blk 0).trans rfl
theorem MAt.c1 (h : MAt base w g mp bits pg wd N A c Tr) : w.cell? ⟨g, 1, none⟩ = some (.map (some mp)) := (blk_cell h.blk 1).trans rfl
theorem MAt.c2 (h : MAt base w g mp bits pg wd N A c Tr) : w.cell? ⟨g, 2, none⟩ = some (.slice A Tr.length c) := (blk_cell h.blk 2).trans rfl
theorem MAt.frozen (h : MAt base w g mp bits pg wd N A c Tr) (i : Nat) : w.frozen? ⟨g, i, none⟩ = false := blk_frozen h.blk i
/-- What is made, or written elsewhere. -/
theorem MAt.kept (h : MAt base w g mp bits pg wd N A c Tr) (hb : ∀ k, k < w.heap.size → (k = g ∨ k = mp ∨ (∃ n, pg n = some k) ∨ (Value.slice A Tr.length c).ownBlock = some k) → w'.heap[k]? = w.heap[k]?) : MAt base w' g mp bits pg wd N A c Tr := by
  obtain ⟨D, ho, hD, hF⟩ := h.own
  have hmp := ho.lt
  refine ⟨(hb g (blk_lt h.blk) (.inl rfl)).trans h.blk, ⟨D, ?_, hD, hF⟩, ?_, h.zero, h.inj, h.far, h.gm, ?_, h.fits⟩
  · obtain ⟨es, clock, h1, h2⟩ := ho
    exact ⟨es, clock, (hb mp hmp (.inr (.inl rfl))).trans h1, h2⟩
  · intro n b hn
    obtain ⟨cs, h1, h2⟩ := h.page n b hn
    exact ⟨cs, (hb b (blk_lt h1) (.inr (.inr (.inl ⟨n, hn⟩)))).trans h1, h2⟩
  · exact Kd.R_mono (Kd.R_step (Kd.R_tight2 rfl h.tr) (fun k hk hlt => hb k hlt (.inr (.inr (.inr hk.1.symm))))) (fun k hk => hk.2)
theorem MAt.below (h : MAt base w g mp bits pg wd N A c Tr) (hb : Below w.heap.size w w') : MAt base w' g mp bits pg wd N A c Tr := h.kept (fun k hk _ => hb.block k hk)
theorem MAt.mono (h : MAt base w g mp bits pg wd N A c Tr) {N' : Nat} (hN : N ≤ N') : MAt base w g mp bits pg wd N' A c Tr := by
  obtain ⟨D, ho, hD, hF⟩ := h.own
  exact ⟨h.blk, ⟨D, ho.mono hN, hD, hF⟩, h.page, h.zero, h.inj, h.far, h.gm, h.tr, h.fits⟩
end
/-- 'm[k]' over pointers. -/
theorem wpList_lookup_ptr {P : Program} (w : World) {ops : Array Oper} {rest : List Oper} {o : Oper} {a : Act} {Q : Exit → Act → World → Prop}
    (hg : o.guard = none) (m x : Operand) (t : TypeId) (hop : o.op = Op.lookup t m x false)
    (k e : TypeId) (K : Keyed P k) (ht : P.underlying t = some (.map k e)) (hz : (zeroValue e).run P w = .ok (.pointer none) w) (b n : Nat) (D : DataW Unit)
    (hm : a.eval m = .map (some b)) (hown : w.ownsMap P k ptrElem b n D) (key : Value) (kl : Lit) (hx : a.eval x = key) (hkey : keyOf P k key = some kl) (r : Option Nat) (hr : D.atKey kl (code none) = code r)
    (hK : wpList P ops Q rest (a.put o.dst (ptr r)) w) : wpList P ops Q (o :: rest) a w := by
  refine wpList_plain hg fun K' hK' => ?_
  obtain ⟨v, ps, hrun, hat⟩ := hown.lookup K ht hz (ptr_reads none) hkey
  rw [hr] at hat
  obtain rfl := ptr_inv hat
  unfold Oper.wp
  simp [execOp, hop, hm, hx, hrun, Result.andThen]
  exact hK' _ _ hK
end Go.Proofs.Ytpkffpcdmglleaa.Me
