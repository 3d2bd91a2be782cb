/- Of any word, any bytes and any place: bytes, word, byte and with a byte are as the reference has them. No condition. -/
import Derived.Test.YtpbgehgbonilgaaFlWordTells
import Derived.Test.YtpbgehgbonilgaaNF
namespace Go.Proofs.Ytpbgehgbonilgaa.Pu
open Go.RowKit Go.Proofs.Ytpbgehgbonilgaa.NL Go.Proofs.Ytpbgehgbonilgaa.Fn Go.Proofs.YtpbgehgbonilgaaW.PrintWords Go.Proofs.YtpbgehgbonilgaaW.PrintMore
theorem awake2 : dormerlaw02_awake.f 200 = some true := by decide +kernel
theorem tells_end {x c : Nat} (a2 : Int) (hx : x < 2 ^ 64) (hc : c < 256) :
    ((word_Byte.f x a2).bind fun t154 => (dormerref02_Byte.f 200 x a2).bind fun t155 => if t154 = t155 then (word_Put.f x a2 c).bind fun t156 => (dormerref02_Put.f 200 x a2 c).bind fun t157 => some (t156 == t157) else some false) = some true := by
  by_cases h : a2 < 0 ∨ 8 ≤ a2
  · rw [NF.byte_bad h, Option.bind_some, NF.rbyte_bad h, Option.bind_some, if_pos rfl, NF.put_bad h, Option.bind_some, NF.rput_bad (by omega) hx h, Option.bind_some]
    exact congrArg some (beq_self_eq_true _)
  · obtain ⟨i, rfl⟩ := Int.eq_ofNat_of_zero_le (show 0 ≤ a2 by omega)
    rw [NF.byte hx (by omega), Option.bind_some, NF.rbyte (by omega) hx (by omega), Option.bind_some, if_pos rfl, NF.put hx hc (by omega), Option.bind_some, NF.rput (by omega) hx hc (by omega), Option.bind_some]
    exact congrArg some (beq_self_eq_true _)
theorem WordTells : dormerlaw02_WordTells.Pure := by
  intro a0 l1 a2 w0 _ _ hl w2
  have u0 := u64_lit w0
  obtain ⟨x, rfl⟩ := Int.eq_ofNat_of_zero_le u0.1
  have hx := nat_lt u0.2
  obtain ⟨bs, rfl, hb⟩ := ints_of hl
  have he := tells_end (c := x / 512 % 256) a2 hx (Nat.mod_lt _ (by decide))
  have e : (x : Int) / 512 % 256 = ((x / 512 % 256 : Nat) : Int) := by omega
  refine ⟨200, ?_⟩
  unfold dormerlaw02_WordTells.f
  rw [awake2, Option.bind_some, e]
  by_cases h8 : bs.length = 8
  · rw [NF.from_ (by omega) h8 hb, Option.bind_some, NF.rfrom (by omega) h8 hb, Option.bind_some, if_pos rfl, NF.bytes (by omega) hx, Option.bind_some, NF.rbytes (by omega) hx, Option.bind_some, if_pos rfl, if_pos rfl, if_pos rfl]
    exact he
  · rw [NF.from_bad h8, Option.bind_some, NF.rfrom_bad h8, Option.bind_some, if_pos rfl, NF.bytes (by omega) hx, Option.bind_some, NF.rbytes (by omega) hx, Option.bind_some, if_pos rfl, if_pos rfl, if_pos rfl]
    exact he
end Go.Proofs.Ytpbgehgbonilgaa.Pu
