/- By hand: the law's own example (awake), and what the functions that build ops come to in the laws' printed texts. Conditions: those each contract names. -/
import Derived.Test.YtlccjklljlddhaaFnDe
import Derived.Test.YtlccjklljlddhaaS2
namespace Go.Proofs.Ytlccjklljlddhaa.Fn
open Go.RowKit Go.Proofs.Ytlccjklljlddhaa.NL Go.Proofs.YtlccjklljlddhaaW.PrintWords Go.Proofs.YtlccjklljlddhaaW.PrintLast Go.Proofs.YtlccjklljlddhaaW.PrintMore
set_option linter.unusedVariables false
set_option linter.unusedSimpArgs false
/-- Are these bytes? -/
def okB (l : List Int) : Bool := decide (l.length ≤ 1000000000) && l.all fun x => decide (0 ≤ x ∧ x < 256)
def natsOf (l : List Int) : List Nat := l.map Int.toNat
theorem okB_ints {l : List Int} (h : okB l = true) : l = ints (natsOf l) ∧ (∀ b ∈ natsOf l, b < 256) ∧ (natsOf l).length ≤ 1000000000 := by
  unfold okB at h
  rw [Bool.and_eq_true, decide_eq_true_iff, List.all_eq_true] at h
  obtain ⟨h1, h2⟩ := h
  refine ⟨?_, ?_, by simpa [natsOf] using h1⟩
  · unfold ints natsOf
    rw [List.map_map]
    have : ∀ x ∈ l, x = ((fun b : Nat => (b : Int)) ∘ Int.toNat) x := fun x hx => by
      have := of_decide_eq_true (h2 x hx)
      show x = ((x.toNat : Nat) : Int)
      omega
    conv => lhs; rw [← List.map_id l]
    exact List.map_congr_left this
  · intro b hb
    unfold natsOf at hb
    obtain ⟨x, hx, rfl⟩ := List.mem_map.1 hb
    have := of_decide_eq_true (h2 x hx)
    omega
theorem okB_of {bs : List Nat} (hb : ∀ b ∈ bs, b < 256) (hl : bs.length ≤ 1000000000) : okB (ints bs) = true := by
  unfold okB
  rw [Bool.and_eq_true, decide_eq_true_iff, List.all_eq_true, ints_length]
  refine ⟨hl, fun x hx => ?_⟩
  unfold ints at hx
  obtain ⟨b, hb', rfl⟩ := List.mem_map.1 hx
  have := hb b hb'
  exact decide_eq_true (by omega)
theorem nats_ints (bs : List Nat) : natsOf (ints bs) = bs := by
  unfold natsOf ints
  rw [List.map_map]
  conv => rhs; rw [← List.map_id bs]
  exact List.map_congr_left fun x _ => rfl
def script_Decode.f (k : Nat) (l0 : List Int) : Option (List S36) := if okB l0 = true then some (decN (natsOf l0)) else none
theorem script_Decode.mono : ∀ a0 k, LeO (script_Decode.f k a0) (script_Decode.f (k + 1) a0) := fun _ _ => LeO.refl _
theorem script_Decode.calls (k : Nat) (P0_ : Nat → Prop) (A0 : Option Addr) (c0 : Nat) (l0 : List Int) (r : List (S36)) (w : World) (hs0 : Kd.V (Kd.int .u8) 5 w w.heap.size (fun k_ => P0_ k_) (.slice A0 l0.length c0) l0) (h : script_Decode.f k l0 = some r) :
    Calls Try.prog 17 #[.slice A0 l0.length c0] w fun e w' => ∃ v0_ : Value, e = .returned (v0_) ∧ Kd.S k36 36 w' w.heap.size (fun k_ => (w.heap.size ≤ k_)) v0_ r ∧ Below w.heap.size w w' := by
  unfold script_Decode.f at h
  split at h
  · rename_i hok
    injection h with h
    subst h
    obtain ⟨A, c, he, hl, hF⟩ := hs0
    injection he with e1 e2 e3
    subst e1 e3
    have hC := Kd.F_now hF
    obtain ⟨hi, hb, hlen⟩ := okB_ints hok
    generalize natsOf l0 = bs at *
    subst hi
    have T := decode_any bs hb hlen A0 c0 (by rw [ints_length] at hl; exact hl) w hC
    rw [ints_length]
    refine T.mono ?_
    rintro e w' ⟨v, rfl, hS, hB⟩
    exact ⟨v, rfl, Kd.S_mono (Kd.S_bound hS) (fun k hk => hk.2.1), hB⟩
  · cases h
def lenOK (l : List S36) : Bool := decide ((quietN l).length ≤ 1954687338268)
def script_Quiet.f (k : Nat) (l0 : List S36) : Option (List S36) := if lenOK l0 = true then some (quietN l0) else none
theorem script_Quiet.mono : ∀ a0 k, LeO (script_Quiet.f k a0) (script_Quiet.f (k + 1) a0) := fun _ _ => LeO.refl _
theorem script_Quiet.calls (k : Nat) (A0 : Option Addr) (c0 : Nat) (l0 : List (S36)) (r : List (S36)) (w : World) (hr0 : Kd.C k36 w A0 l0.length l0) (hc0 : l0.length ≤ c0) (h : script_Quiet.f k l0 = some r) :
    Calls Try.prog 19 #[.slice A0 l0.length c0] w fun e w' => ∃ v0_ : Value, e = .returned (v0_) ∧ Kd.S k36 36 w' w.heap.size (fun _ => True) v0_ r ∧ Below w.heap.size w w' := by
  unfold script_Quiet.f at h
  split at h
  · rename_i hok
    injection h with h
    subst h
    exact quiet_any A0 c0 l0 w hr0 (of_decide_eq_true hok)
  · cases h
end Go.Proofs.Ytlccjklljlddhaa.Fn
