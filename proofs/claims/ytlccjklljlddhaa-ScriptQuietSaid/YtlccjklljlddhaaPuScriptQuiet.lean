/- Of every ops the law ScriptQuiet returns true. No condition. -/
import Derived.Test.YtlccjklljlddhaaFlScriptQuiet
import Derived.Test.YtlccjklljlddhaaS3
set_option linter.unusedVariables false
set_option linter.unusedSimpArgs false
namespace Go.Proofs.Ytlccjklljlddhaa.Pu
open Go.RowKit Go.Proofs.Ytlccjklljlddhaa.NL Go.Proofs.Ytlccjklljlddhaa.Fn Go.Proofs.Ytlccjklljlddhaa.SC Go.Proofs.YtlccjklljlddhaaW.PrintWords Go.Proofs.YtlccjklljlddhaaW.PrintLast
theorem quiet_twice (l : List S36) : quietN (quietN l) = quietN l := by
  unfold quietN
  rw [List.filter_map, List.map_map]
  have e : (List.filter (qk ∘ clr) (List.filter qk l)) = List.filter qk l := by
    rw [List.filter_filter]
    congr 1
    funext o
    show (qk (clr o) && qk o) = qk o
    have : qk (clr o) = qk o := rfl
    rw [this, Bool.and_self]
  rw [e]
  rfl
theorem quiet_len (l : List S36) : (quietN l).length ≤ l.length := by
  unfold quietN
  rw [List.length_map]
  exact List.length_filter_le _ _
theorem quiet_at (l : List S36) (i : Nat) (hi : i < l.length) (h6 : ¬ (l.getD i z36).f0 = 6) (h7 : ¬ (l.getD i z36).f0 = 7) : (quietN (l.take i)).length < (quietN l).length ∧ (quietN l).getD (quietN (l.take i)).length z36 = clr (l.getD i z36) ∧ (quietN (l.take (i + 1))).length = (quietN (l.take i)).length + 1 := by
  have hsn : l.take (i + 1) = l.take i ++ [l.getD i z36] := take_snoc (by rw [List.getElem?_eq_getElem hi, List.getD_eq_getElem?_getD, List.getElem?_eq_getElem hi]; rfl)
  have hq := quietN_yes (l := l.take i) h6 h7
  have hall : quietN l = quietN (l.take (i + 1)) ++ quietN (l.drop (i + 1)) := by
    conv => lhs; rw [← List.take_append_drop (i + 1) l]
    unfold quietN
    rw [List.filter_append, List.map_append]
  rw [hall, hsn, hq, List.length_append, List.length_append, List.length_singleton]
  refine ⟨by omega, ?_, rfl⟩
  rw [List.getD_eq_getElem?_getD, List.append_assoc, List.getElem?_append_right (Nat.le_refl _), Nat.sub_self]
  rfl
theorem quiet_no (l : List S36) (i : Nat) (hi : i < l.length) (h : (l.getD i z36).f0 = 6 ∨ (l.getD i z36).f0 = 7) : (quietN (l.take (i + 1))).length = (quietN (l.take i)).length := by
  have hsn : l.take (i + 1) = l.take i ++ [l.getD i z36] := take_snoc (by rw [List.getElem?_eq_getElem hi, List.getD_eq_getElem?_getD, List.getElem?_eq_getElem hi]; rfl)
  rw [hsn, quietN_no h]
theorem quiet_five (l : List S36) : ∀ o ∈ quietN l, o.f5.length ≤ 0 := by
  intro o ho
  unfold quietN at ho
  obtain ⟨x, _, rfl⟩ := List.mem_map.1 ho
  exact Nat.le_refl _
theorem quiet_l (l : List S36) (hl : l.length ≤ 100) (d : Nat) : ∀ k i : Nat, i + d = l.length → 2 * d + 2000 < k → dormerlaw20_ScriptQuiet.l0 k l true (quietN l) ((quietN (l.take i)).length : Int) (i : Int) = some true := by
  have hql := quiet_len l
  induction d with
  | zero =>
    intro k i hd hk
    obtain ⟨k, rfl⟩ : ∃ m, k = m + 1 := ⟨k - 1, by omega⟩
    simp only [dormerlaw20_ScriptQuiet.l0]
    rw [if_neg (by omega), List.take_of_length_le (by omega), if_pos trivial, if_pos rfl]
    unfold script_Quiet.f
    have hok : lenOK (quietN l) = true := by
      unfold lenOK
      rw [quiet_twice]
      exact decide_eq_true (by omega)
    rw [if_pos hok, Option.bind_some, quiet_twice, list_f _ 0 (quiet_five l) (by decide) (by omega) (by omega)]
    rfl
  | succ d ih =>
    intro k i hd hk
    obtain ⟨k, rfl⟩ : ∃ m, k = m + 2 := ⟨k - 2, by omega⟩
    have hi : i < l.length := by omega
    have hr := ih k (i + 1) (by omega) (by omega)
    simp only [dormerlaw20_ScriptQuiet.l0]
    rw [if_pos (by omega), if_pos (by omega), rd36]
    by_cases h6 : (l.getD i z36).f0 = 6
    · rw [if_pos h6]
      simp only [dormerlaw20_ScriptQuiet.j1]
      rw [if_pos trivial, w1 (by omega)]
      rw [quiet_no l i hi (.inl h6)] at hr
      exact hr
    · rw [if_neg h6]
      by_cases h7 : (l.getD i z36).f0 = 7
      · rw [beq_iff_eq.2 h7]
        simp only [dormerlaw20_ScriptQuiet.j1]
        rw [if_pos trivial, w1 (by omega)]
        rw [quiet_no l i hi (.inr h7)] at hr
        exact hr
      · rw [beq_eq_false_iff_ne.2 h7]
        obtain ⟨q1, q2, q3⟩ := quiet_at l i hi h6 h7
        have hql' := quiet_len (l.take i)
        have htl : (l.take i).length ≤ 100 := by rw [List.length_take]; omega
        simp only [dormerlaw20_ScriptQuiet.j1]
        rw [if_neg (by decide), if_pos (by omega), if_pos (by omega), if_neg (by omega), if_pos (by omega), if_pos (by omega), rd36, rd36, q2]
        have hs := same_f (k := k) (clr (l.getD i z36)) (clr (l.getD i z36)) (by show (0 : Nat) ≤ _; omega) (by show 0 < k; omega)
        rw [(sameB_iff _ _).2 rfl] at hs
        have hs' : script_Same.f k (clr (l.getD i z36)).f0 (clr (l.getD i z36)).f1 (clr (l.getD i z36)).f2 (clr (l.getD i z36)).f3 (clr (l.getD i z36)).f4.f0 (clr (l.getD i z36)).f4.f1 (clr (l.getD i z36)).f4.f2 (clr (l.getD i z36)).f5 (l.getD i z36).f0 (l.getD i z36).f1 (l.getD i z36).f2 (l.getD i z36).f3 (l.getD i z36).f4.f0 (l.getD i z36).f4.f1 (l.getD i z36).f4.f2 ([] : List Int) = some true := hs
        rw [hs', Option.bind_some, if_pos rfl, w1 (by omega), w1 (by omega)]
        rw [q3] at hr
        exact hr
theorem quiet_val (l : List S36) : dormerlaw20_ScriptQuiet.f 5000 l = some true := by
  unfold dormerlaw20_ScriptQuiet.f dormerlaw20_awake.f
  rw [Option.bind_some]
  by_cases h : (l.length : Int) > 100
  · rw [if_pos h]
  · rw [if_neg h]
    have hql := quiet_len l
    unfold script_Quiet.f
    rw [if_pos (show lenOK l = true from decide_eq_true (by omega)), Option.bind_some]
    exact quiet_l l (by omega) l.length 5000 0 (by omega) (by omega)
theorem ScriptQuiet (a : Option Addr) (len cap : Nat) (l : List S36) (w : World) (hl : l.length = len) (hc : len ≤ cap) (hC : Kd.C k36 w a l.length l) (hw : ∀ o ∈ l, Wf o) :
    Calls Try.prog 7 #[.slice a len cap] w fun e w' => e = .returned (.bool true) ∧ Below w.heap.size w w' := by
  subst hl
  exact dormerlaw20_ScriptQuiet.calls 5000 a cap l true w hC hc (quiet_val l)
end Go.Proofs.Ytlccjklljlddhaa.Pu
