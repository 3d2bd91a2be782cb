/- By hand: the contracts of the reference's Decode and Quiet, in the form the print uses. Conditions: those each contract names. -/
import Derived.Test.YtlccjklljlddhaaFnR
import Derived.Test.YtlccjklljlddhaaFnA
namespace Go.Proofs.Ytlccjklljlddhaa.Fn
open Go.RowKit Go.Proofs.Ytlccjklljlddhaa.NL Go.Proofs.YtlccjklljlddhaaW.PrintWords Go.Proofs.YtlccjklljlddhaaW.PrintLast Go.Proofs.YtlccjklljlddhaaW.PrintMore
set_option linter.unusedVariables false
def dormerref20_Decode.f (k : Nat) (l0 : List Int) : Option (List S36) := if okB l0 = true then some (decN (natsOf l0)) else none
theorem dormerref20_Decode.mono : ∀ a0 k, LeO (dormerref20_Decode.f k a0) (dormerref20_Decode.f (k + 1) a0) := fun _ _ => LeO.refl _
theorem dormerref20_Decode.calls (k : Nat) (A0 : Option Addr) (c0 : Nat) (l0 : List Int) (r : List (S36)) (w : World) (hr0 : Kd.C (Kd.int .u8) w A0 l0.length l0) (hc0 : l0.length ≤ c0) (h : dormerref20_Decode.f k l0 = some r) :
    Calls Try.prog 18 #[.slice A0 l0.length c0] w fun e w' => ∃ v0_ : Value, e = .returned (v0_) ∧ Kd.S k36 36 w' w.heap.size (fun _ => True) v0_ r ∧ Below w.heap.size w w' := by
  unfold dormerref20_Decode.f at h
  split at h
  · rename_i hok
    injection h with h
    subst h
    obtain ⟨hi, hb, hlen⟩ := okB_ints hok
    generalize natsOf l0 = bs at *
    subst hi
    have T := rdecode_any bs hb hlen A0 c0 (by rw [ints_length] at hc0; exact hc0) w hr0
    rw [ints_length]
    exact T
  · cases h
def dormerref20_Quiet.f (k : Nat) (l0 : List S36) : Option (List S36) := if lenOK l0 = true then some (quietN l0) else none
theorem dormerref20_Quiet.mono : ∀ a0 k, LeO (dormerref20_Quiet.f k a0) (dormerref20_Quiet.f (k + 1) a0) := fun _ _ => LeO.refl _
theorem dormerref20_Quiet.calls (k : Nat) (A0 : Option Addr) (c0 : Nat) (l0 : List (S36)) (r : List (S36)) (w : World) (hr0 : Kd.C k36 w A0 l0.length l0) (hc0 : l0.length ≤ c0) (h : dormerref20_Quiet.f k l0 = some r) :
    Calls Try.prog 20 #[.slice A0 l0.length c0] w fun e w' => ∃ v0_ : Value, e = .returned (v0_) ∧ Kd.S k36 36 w' w.heap.size (fun _ => True) v0_ r ∧ Below w.heap.size w w' := by
  unfold dormerref20_Quiet.f at h
  split at h
  · rename_i hok
    injection h with h
    subst h
    exact rquiet_any A0 c0 l0 w hr0 (of_decide_eq_true hok)
  · cases h
end Go.Proofs.Ytlccjklljlddhaa.Fn
