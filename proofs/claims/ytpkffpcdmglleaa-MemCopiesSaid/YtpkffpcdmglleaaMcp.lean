/- The contract of (*Mem).Copy: a memory of the same words. Conditions: those it names. -/
import Derived.Test.YtpkffpcdmglleaaPg
import Derived.Maps.RangeWalk
import Derived.Maps.Views
set_option linter.unusedVariables false
set_option linter.unusedSimpArgs false
namespace Go.Proofs.Ytpkffpcdmglleaa.Me
open Go.RowKit Go.Maps Go.Proofs.Ytpkffpcdmglleaa.RM Go.Proofs.YtpkffpcdmglleaaW.PrintWords Go.Proofs.YtpkffpcdmglleaaW.PrintMore
variable {base : Nat} {w w' : World} {g mp bits N c : Nat} {pg : Nat → Option Nat} {wd : Nat → Nat} {A : Option Addr} {Tr : List Int}
theorem ranges_of {P : Program} {k : TypeId} {R : Value → Option (DataW Unit × List MemPlace)} {b r n : Nat} {D : DataW Unit} {left : Lit → Bool} {cnt : Nat} (h : w.ranges P k R b r n D left cnt) (hb : w'.heap[b]? = w.heap[b]?) (hr : w'.heap[r]? = w.heap[r]?) : w'.ranges P k R b r n D left cnt := by
  obtain ⟨es, clock, since, seen, c0, h1, h2, h3, h4, h5, h6⟩ := h
  exact ⟨es, clock, since, seen, c0, hb.trans h1, h2, h3, h4, hr.trans h5, h6⟩
theorem own_size {P : Program} {k : TypeId} {R : Value → Option (DataW Unit × List MemPlace)} {b n : Nat} {D : DataW Unit} (h : w.ownsMap P k R b n D) : Maps.size D ≤ n := by
  obtain ⟨es, clock, _, _, hs, rfl⟩ := h
  simp only [Maps.size, length_sorted, List.length_map, Array.length_toList]
  exact hs
/-- A page has been made (block b), and the map bears it. -/
theorem MAt.adopt (h : MAt base w g mp bits pg wd N A c Tr) {n b : Nat} (hp : pg n = none) {W1 w1 : World} {Q : Array Value} (hB : Below w.heap.size w W1) (hb : w.heap.size ≤ b) (hQ : W1.heap[b]? = some (.cells Q 82 (0, 0))) (hs : Q.size = 512)
    (u : Nat → Nat) (hu : ∀ s, u s < 18446744073709551616) (hq : ∀ i, i < 512 → Q[i]? = some (.int .u64 (u (n * 512 + i) : Int))) {D : DataW Unit} (hM : IsMap D) (hD : ∀ n, D.atKey (key n) (code none) = code (pg n)) (hF : ∀ n, pg n = none → Maps.has D (key n) = false)
    (hown : w1.ownsMap Try.prog 30 ptrElem mp (N + 1) (D.put (key n) (code (some b)))) (hg : W1.grownBy w1 (some mp)) :
    MAt base w1 g mp bits (pgs pg n b) (fun s => if s / 512 = n then u s else wd s) (N + 1) A c Tr := by
  obtain ⟨D0, ho, hD0⟩ := h.own
  have hgl := blk_lt h.blk
  have hml := ho.lt
  have hbase := h.gm.2.1
  have hsz := hB.size
  have hh : ∀ k, k < w.heap.size → k ≠ mp → w1.heap[k]? = w.heap[k]? := fun k hk hne =>
    (hg.block k (by omega) (by simpa using hne)).trans (hB.block k hk)
  have hbl : ∀ k b, pg k = some b → b < w.heap.size := fun k b hk => by
    obtain ⟨cs, h1, _⟩ := h.page k b hk
    exact blk_lt h1
  have hnew : w1.heap[b]? = some (.cells Q 82 (0, 0)) := (hg.block _ (blk_lt hQ) (by simp; omega)).trans hQ
  refine ⟨(hh g hgl h.gm.1).trans h.blk, ⟨_, hown, fun k => ?_, fun k hk => ?_⟩, ?_, ?_, ?_, ?_, h.gm, ?_, ?_⟩
  · by_cases hk : k = n
    · subst hk
      rw [Maps.atKey_put_same hM (by trivial), pgs, if_pos rfl]
    · rw [Maps.atKey_put_other (fun e => hk (by simp only [key, Lit.int.injEq] at e; omega)), hD, pgs, if_neg hk]
  · rw [pgs] at hk
    split at hk
    · cases hk
    · rename_i hkn
      rw [Maps.has_put_other (fun e => hkn (by simp only [key, Lit.int.injEq] at e; omega))]
      exact hF k hk
  · intro k b' hk
    rw [pgs] at hk
    split at hk
    · rename_i hkn
      injection hk with hk
      subst hk hkn
      refine ⟨Q, hnew, hs, fun i hi => ?_⟩
      rw [if_pos (by omega)]
      exact hq i hi
    · rename_i hkn
      obtain ⟨cs, h1, h2, h3⟩ := h.page k b' hk
      refine ⟨cs, (hh b' (blk_lt h1) (h.far k b' hk).2.1).trans h1, h2, fun i hi => ?_⟩
      rw [if_neg (by omega)]
      exact h3 i hi
  · intro k hk i hi
    rw [pgs] at hk
    split at hk
    · cases hk
    · rename_i hkn
      rw [if_neg (by omega)]
      exact h.zero k hk i hi
  · intro k k' b' hk hk'
    rw [pgs] at hk hk'
    split at hk <;> split at hk'
    · omega
    · injection hk with hk
      have := hbl _ _ hk'
      omega
    · injection hk' with hk'
      have := hbl _ _ hk
      omega
    · exact h.inj _ _ _ hk hk'
  · intro k b' hk
    rw [pgs] at hk
    split at hk
    · injection hk with hk
      exact ⟨by omega, by omega, by omega⟩
    · exact h.far k b' hk
  · have h1 := Kd.R_step (w1 := w1) (Kd.R_bound h.tr) (fun q hq hlt => hh q hlt hq.1.2.1)
    refine Kd.R_mono h1 (fun q hq => ⟨hq.1.1, hq.1.2.1, fun k e => ?_⟩)
    rw [pgs] at e
    split at e
    · injection e with e
      have := hq.2.2.1
      omega
    · exact hq.1.2.2 k e
  · intro s
    split
    · exact hu s
    · exact h.fits s
theorem key_inj {m n : Nat} (h : key m = key n) : m = n := by simp only [key, Lit.int.injEq] at h; omega
theorem key_same (m n : Nat) : (key m).sameKey (key n) = decide (m = n) := by
  by_cases h : m = n
  · subst h
    rw [decide_eq_true rfl]
    exact WideAt.sameKey_self (by trivial)
  · rw [decide_eq_false h]
    exact Bool.eq_false_iff.2 fun e => h (key_inj (WideAt.sameKey_eq e))
theorem ptr_shape (v : Value) (y : DataW Unit × List MemPlace) (h : ptrElem v = some y) : ∃ o, v = ptr o := by
  unfold ptrElem at h
  split at h
  · exact ⟨none, rfl⟩
  · exact ⟨some _, rfl⟩
  · cases h
theorem code_inj {a b : Option Nat} (h : code a = code b) : a = b := by
  cases a <;> cases b <;> simp [code] at h ⊢
  omega
end Go.Proofs.Ytpkffpcdmglleaa.Me
