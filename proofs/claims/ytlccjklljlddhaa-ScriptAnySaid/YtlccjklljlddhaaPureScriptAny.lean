/- Of every bytes the printed function of the law ScriptAny comes to true. No condition. -/
import Derived.Test.YtlccjklljlddhaaFlScriptAny
import Derived.Test.YtlccjklljlddhaaS3
set_option linter.unusedVariables false
set_option linter.unusedSimpArgs false
namespace Go.Proofs.Ytlccjklljlddhaa.Pure
open Go.RowKit Go.Proofs.Ytlccjklljlddhaa.NL Go.Proofs.Ytlccjklljlddhaa.Fn Go.Proofs.Ytlccjklljlddhaa.SC Go.Proofs.YtlccjklljlddhaaW.PrintWords Go.Proofs.YtlccjklljlddhaaW.PrintLast
theorem any_l (x0 : List Int) (l : List S36) (hw : ∀ o ∈ l, Wf o) (hm : ∀ o ∈ l, mayB o = true) (hl : l.length ≤ 1000) (hx : (l.length : Int) = wrap64 ((x0.length : Int) / 23)) (d : Nat) : ∀ k i : Nat, i + d = l.length → d + 2000 < k → dormerlaw20_ScriptAny.l0 k x0 true l (i : Int) = some true := by
  induction d with
  | zero =>
    intro k i hd hk
    obtain ⟨k, rfl⟩ : ∃ m, k = m + 1 := ⟨k - 1, by omega⟩
    obtain ⟨b1, b2, b3⟩ := back_f (k := k) l hw hm (by omega)
    have h5 : ∀ o ∈ l, o.f5.length ≤ 4 := fun o ho => by have := (mayB_iff o).1 (hm o ho); omega
    simp only [dormerlaw20_ScriptAny.l0]
    rw [if_neg (by omega), enc_f l hw (by omega) (by omega), Option.bind_some, if_pos trivial, if_pos b3, if_pos hx, b1, Option.bind_some, list_f l 4 h5 (by decide) (by omega) (by omega)]
    rfl
  | succ d ih =>
    intro k i hd hk
    obtain ⟨k, rfl⟩ : ∃ m, k = m + 1 := ⟨k - 1, by omega⟩
    have hi : i < l.length := by omega
    have ho : l.getD i z36 ∈ l := by
      rw [List.getD_eq_getElem?_getD, List.getElem?_eq_getElem hi]
      exact List.getElem_mem hi
    have h1 := hw _ ho
    have h2 := hm _ ho
    simp only [dormerlaw20_ScriptAny.l0]
    rw [if_pos (by omega), if_pos (by omega), rd36]
    generalize l.getD i z36 = o at *
    rw [may_f o h1 (by omega), Option.bind_some, if_pos h2, w1 (by omega), ih k (i + 1) (by omega) (by omega)]
theorem ScriptAny : dormerlaw20_ScriptAny.Pure := by
  intro l0 _ _ hb
  obtain ⟨bs, rfl, hb2⟩ := ints_of hb
  refine ⟨5000, ?_⟩
  unfold dormerlaw20_ScriptAny.f dormerlaw20_awake.f
  rw [Option.bind_some]
  by_cases h : ((ints bs).length : Int) > 2000
  · rw [if_pos h]
  · rw [if_neg h]
    rw [ints_length] at h
    unfold script_Decode.f
    rw [if_pos (okB_of hb2 (by omega)), Option.bind_some, nats_ints]
    have hd := dec_ok hb2
    have hl := dec_len bs
    exact any_l _ _ (fun o ho => (hd o ho).2) (fun o ho => (hd o ho).1) (by omega) (by rw [ints_length, hl]; unfold wrap64; omega) (decN bs).length 5000 0 (by omega) (by omega)
end Go.Proofs.Ytlccjklljlddhaa.Pure
