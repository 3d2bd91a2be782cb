/- Of every two rows of bytes the printed function of the law ScriptJoins comes to true. No condition. -/
import Derived.Test.YtlccjklljlddhaaFlScriptJoins
import Derived.Test.YtlccjklljlddhaaS3
set_option linter.unusedVariables false
set_option linter.unusedSimpArgs false
namespace Go.Proofs.Ytlccjklljlddhaa.Pure
open Go.RowKit Go.Proofs.Ytlccjklljlddhaa.NL Go.Proofs.Ytlccjklljlddhaa.Fn Go.Proofs.Ytlccjklljlddhaa.SC Go.Proofs.YtlccjklljlddhaaW.PrintWords Go.Proofs.YtlccjklljlddhaaW.PrintLast
theorem ints_take (b : List Nat) (n : Nat) : (ints b).take n = ints (b.take n) := by simp [ints, List.map_take]
theorem joins_j (a b : List Nat) (ha : ∀ x ∈ a, x < 256) (hb : ∀ x ∈ b, x < 256) (la : a.length ≤ 2000) (lb : b.length ≤ 2000) : dormerlaw20_ScriptJoins.j0 5000 (ints a) (ints b) true false = some true := by
  have hw : wrap64 ((wrap64 (((ints a).length : Int) / 23)) * 23) = ((a.length / 23 * 23 : Nat) : Int) := by
    rw [ints_length]; unfold wrap64; omega
  have hle : a.length / 23 * 23 ≤ a.length := by omega
  simp only [dormerlaw20_ScriptJoins.j0]
  rw [hw, if_neg (by decide), Option.bind_some, if_pos (by omega), if_pos (by rw [ints_length]; omega), Int.toNat_natCast, ints_take, List.nil_append]
  have l1 : (a.take (a.length / 23 * 23)).length = a.length / 23 * 23 := by rw [List.length_take]; omega
  rw [if_pos (by rw [ints_length, l1]; simp; omega), Option.bind_some, if_pos (by rw [ints_length, ints_length, l1]; omega), ← ints_app]
  have hc : ∀ x ∈ a.take (a.length / 23 * 23) ++ b, x < 256 := by
    intro x hx
    rcases List.mem_append.1 hx with h | h
    · exact ha x (List.mem_of_mem_take h)
    · exact hb x h
  have hd := dec_app a.length a b (Nat.le_refl _)
  have hA := dec_ok ha
  have hB := dec_ok hb
  have dA := dec_len a
  have dB := dec_len b
  have h5 : ∀ o ∈ decN a ++ decN b, o.f5.length ≤ 4 := fun o ho => by
    have hm : mayB o = true := by
      rcases List.mem_append.1 ho with h | h
      · exact (hA o h).1
      · exact (hB o h).1
    have := (mayB_iff o).1 hm; omega
  have lc : (a.take (a.length / 23 * 23) ++ b).length ≤ 1000000000 := by rw [List.length_append, l1]; omega
  unfold script_Decode.f
  simp only [nats_ints]
  rw [if_pos (okB_of hc lc), Option.bind_some, if_pos trivial, if_pos (okB_of ha (by omega)), Option.bind_some, if_pos (okB_of hb (by omega)), Option.bind_some, if_pos (by omega), hd,
    list_f _ 4 h5 (by decide) (by rw [List.length_append]; omega) (by rw [List.length_append]; omega)]
  rfl
theorem ScriptJoins : dormerlaw20_ScriptJoins.Pure := by
  intro l0 l1 _ _ hb0 _ _ hb1
  obtain ⟨a, rfl, ha⟩ := ints_of hb0
  obtain ⟨b, rfl, hb⟩ := ints_of hb1
  refine ⟨5000, ?_⟩
  unfold dormerlaw20_ScriptJoins.f dormerlaw20_awake.f
  rw [Option.bind_some]
  have yes : dormerlaw20_ScriptJoins.j0 5000 (ints a) (ints b) true true = some true := by simp only [dormerlaw20_ScriptJoins.j0]; rfl
  by_cases h : ((ints a).length : Int) > 2000
  · rw [if_pos h]; exact yes
  · rw [if_neg h]
    by_cases h2 : ((ints b).length : Int) > 2000
    · rw [decide_eq_true h2]; exact yes
    · rw [decide_eq_false h2]
      rw [ints_length] at h h2
      exact joins_j a b ha hb (by omega) (by omega)
end Go.Proofs.Ytlccjklljlddhaa.Pure
