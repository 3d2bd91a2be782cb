/- Bytes and ops, there and back: plain lists. Conditions: those each lemma names. -/
import Derived.Test.YtlccjklljlddhaaFnB
set_option linter.unusedVariables false
set_option linter.unusedSimpArgs false
namespace Go.Proofs.Ytlccjklljlddhaa.SC
open Go.RowKit Go.Proofs.Ytlccjklljlddhaa.NL Go.Proofs.Ytlccjklljlddhaa.Fn Go.Proofs.YtlccjklljlddhaaW.PrintWords Go.Proofs.YtlccjklljlddhaaW.PrintLast Go.Proofs.YtlccjklljlddhaaW.PrintMore
/-- An op's bytes, as natural numbers. -/
def recB (o : S36) : List Nat := [(o.f0 - 1).toNat, (accN o).toNat, o.f2.toNat] ++ bytesN o.f1.toNat ++ bytesN o.f3.toNat ++ o.f5.map Int.toNat
theorem ints_app (a b : List Nat) : ints (a ++ b) = ints a ++ ints b := by simp [ints]
theorem recB_len {o : S36} (h : mayB o = true) : (recB o).length = 23 := by
  have h := (mayB_iff o).1 h
  simp [recB, bytesN_length, h.2.2.2.2.2.2.1]
theorem picks_back {l : List Int} (h : ∀ p ∈ l, 0 ≤ p ∧ p ≤ 255) : ints (l.map Int.toNat) = l := by
  unfold ints
  rw [List.map_map]
  conv => rhs; rw [← List.map_id l]
  refine List.map_congr_left fun x hx => ?_
  have := h x hx
  show ((x.toNat : Nat) : Int) = x
  omega
theorem recB_ints {o : S36} (h : mayB o = true) : ints (recB o) = recN o := by
  have hb := acc_bd h
  have h := (mayB_iff o).1 h
  unfold recB recN
  rw [ints_app, ints_app, ints_app, picks_back h.2.2.2.2.2.2.2]
  congr 3
  simp only [ints, List.map_cons, List.map_nil]
  rw [show (((o.f0 - 1).toNat : Nat) : Int) = o.f0 - 1 by omega, show (((accN o).toNat : Nat) : Int) = accN o by omega, show ((o.f2.toNat : Nat) : Int) = o.f2 by omega]
theorem recB_lt {o : S36} (h : mayB o = true) : ∀ b ∈ recB o, b < 256 := by
  have hb := acc_bd h
  have h := (mayB_iff o).1 h
  intro b hm
  unfold recB at hm
  rw [List.mem_append, List.mem_append, List.mem_append] at hm
  rcases hm with ((hm | hm) | hm) | hm
  · simp only [List.mem_cons, List.not_mem_nil, or_false] at hm
    omega
  · exact bytesN_lt _ b hm
  · exact bytesN_lt _ b hm
  · obtain ⟨p, hp, rfl⟩ := List.mem_map.1 hm
    have := h.2.2.2.2.2.2.2 p hp
    omega
theorem mid_of (a b c d : List Nat) (ha : a.length = 3) (hb : b.length = 8) (hc : c.length = 8) : ((a ++ b ++ c ++ d).take 11).drop 3 = b ∧ ((a ++ b ++ c ++ d).take 19).drop 11 = c ∧ (a ++ b ++ c ++ d).drop 19 = d := by
  refine ⟨?_, ?_, ?_⟩
  · rw [List.append_assoc, List.append_assoc, List.take_append, List.take_of_length_le (by omega), List.drop_append, List.drop_of_length_le (by omega), List.nil_append, ha, List.drop_zero, List.take_append, hb, List.take_of_length_le (by omega)]
    simp
  · rw [List.append_assoc, List.take_append, List.take_of_length_le (by rw [List.length_append]; omega), List.drop_append, List.drop_of_length_le (by rw [List.length_append]; omega), List.nil_append, List.length_append, ha, hb, List.drop_zero, List.take_append, hc, List.take_of_length_le (by omega)]
    simp
  · rw [List.drop_append, List.drop_of_length_le (by simp only [List.length_append]; omega), List.nil_append]
    simp only [List.length_append, ha, hb, hc]
    simp
theorem said_rec {o : S36} (h : Wf o) (hm : mayB o = true) : saidN (recB o) = o := by
  have hb := acc_bd hm
  have hm' := (mayB_iff o).1 hm
  have ha := u64c h.a
  have hv := u64c h.v
  obtain ⟨m1, m2, m3⟩ := mid_of [(o.f0 - 1).toNat, (accN o).toNat, o.f2.toNat] (bytesN o.f1.toNat) (bytesN o.f3.toNat) (o.f5.map Int.toNat) rfl (bytesN_length _) (bytesN_length _)
  have e : recB o = [(o.f0 - 1).toNat, (accN o).toNat, o.f2.toNat] ++ bytesN o.f1.toNat ++ bytesN o.f3.toNat ++ o.f5.map Int.toNat := rfl
  rw [← e] at m1 m2 m3
  have g0 : (recB o).getD 0 0 = (o.f0 - 1).toNat := rfl
  have g1 : (recB o).getD 1 0 = (accN o).toNat := rfl
  have g2 : (recB o).getD 2 0 = o.f2.toNat := rfl
  unfold saidN
  rw [m1, m2, m3, g0, g1, g2, val_bytes ha.1, val_bytes hv.1, picks_back hm'.2.2.2.2.2.2.2, ha.2, hv.2]
  obtain ⟨f0, f1, f2, f3, ⟨f4, u, a⟩, ps⟩ := o
  simp only [accN, acc1] at *
  have e0 : (((f0 - 1).toNat : Nat) : Int) % 8 + 1 = f0 := by omega
  have e2 : ((f2.toNat : Nat) : Int) = f2 := by omega
  cases u <;> cases a <;> simp only [Bool.false_eq_true, if_false, if_true] at * <;> (rw [e0, e2]; congr 2 <;> first | omega | (rw [decide_eq_false_iff_not]; omega) | (rw [decide_eq_true_iff]; omega))
theorem said_ok {bs : List Nat} (hl : bs.length = 23) (hb : ∀ b ∈ bs, b < 256) : mayB (saidN bs) = true ∧ Wf (saidN bs) := by
  have k0 := getD_lt hb 0
  have k1 := getD_lt hb 1
  have k2 := getD_lt hb 2
  have l1 : ((bs.take 11).drop 3).length = 8 := by rw [List.length_drop, List.length_take]; omega
  have l2 : ((bs.take 19).drop 11).length = 8 := by rw [List.length_drop, List.length_take]; omega
  have v1 := valN_lt64 l1 (fun b h => hb b (List.mem_of_mem_take (List.mem_of_mem_drop h)))
  have v2 := valN_lt64 l2 (fun b h => hb b (List.mem_of_mem_take (List.mem_of_mem_drop h)))
  constructor
  · rw [mayB_iff]
    unfold saidN
    refine ⟨by show 1 ≤ _ % 8 + 1; omega, by show _ % 8 + 1 ≤ 8; omega, by show 0 ≤ _ % 64; omega, by show _ % 64 ≤ 63; omega, by show (0 : Int) ≤ (_ : Nat); omega, by show ((_ : Nat) : Int) ≤ 255; omega, by show (ints (bs.drop 19)).length = 4; rw [ints_length, List.length_drop]; omega, ?_⟩
    intro p hp
    have hp : p ∈ ints (bs.drop 19) := hp
    unfold ints at hp
    obtain ⟨b, hb', rfl⟩ := List.mem_map.1 hp
    have := hb b (List.mem_of_mem_drop hb')
    exact ⟨by omega, by omega⟩
  · refine ⟨⟨by show (_ : Int) ≤ _ % 8 + 1; omega, by show _ % 8 + 1 < (_ : Int); omega⟩, ⟨by show (0 : Int) ≤ (_ : Nat); omega, ?_⟩, ⟨by show (0 : Int) ≤ (_ : Nat); omega, ?_⟩, by show (ints (bs.drop 19)).length ≤ _; rw [ints_length, List.length_drop]; omega⟩
    · show ((_ : Nat) : Int) < 18446744073709551616
      exact cast_lt v1
    · show ((_ : Nat) : Int) < 18446744073709551616
      exact cast_lt v2
theorem dec_short {bs : List Nat} (h : bs.length < 23) : decN bs = [] := by
  unfold decN
  rw [Nat.div_eq_of_lt h]
  rfl
theorem dec_cons {b r : List Nat} (h : b.length = 23) : decN (b ++ r) = saidN b :: decN r := by
  unfold decN decT
  rw [List.length_append, h, show (23 + r.length) / 23 = r.length / 23 + 1 by omega, List.range_succ_eq_map, List.map_cons, List.map_map]
  congr 1
  · rw [Nat.mul_zero, List.drop_zero, List.take_append, h]
    simp [List.take_of_length_le (Nat.le_of_eq h)]
  · refine List.map_congr_left fun i _ => ?_
    show saidN (((b ++ r).drop (23 * (i + 1))).take 23) = saidN ((r.drop (23 * i)).take 23)
    rw [List.drop_append, List.drop_of_length_le (by omega), List.nil_append, h, show 23 * (i + 1) - 23 = 23 * i by omega]
theorem dec_flat (l : List S36) (hw : ∀ o ∈ l, Wf o) (hm : ∀ o ∈ l, mayB o = true) : decN (l.flatMap recB) = l := by
  induction l with
  | nil => rfl
  | cons o l ih =>
    rw [List.flatMap_cons, dec_cons (recB_len (hm o (by simp))), said_rec (hw o (by simp)) (hm o (by simp)), ih (fun o h => hw o (by simp [h])) (fun o h => hm o (by simp [h]))]
theorem flat_ints (l : List S36) (hm : ∀ o ∈ l, mayB o = true) : l.flatMap recN = ints (l.flatMap recB) := by
  induction l with
  | nil => rfl
  | cons o l ih => rw [List.flatMap_cons, List.flatMap_cons, ints_app, recB_ints (hm o (by simp)), ih (fun o h => hm o (by simp [h]))]
theorem flat_lt (l : List S36) (hm : ∀ o ∈ l, mayB o = true) : ∀ b ∈ l.flatMap recB, b < 256 := by
  intro b hb
  obtain ⟨o, ho, hb⟩ := List.mem_flatMap.1 hb
  exact recB_lt (hm o ho) b hb
theorem flat_len (l : List S36) (hm : ∀ o ∈ l, mayB o = true) : (l.flatMap recB).length = 23 * l.length := by
  induction l with
  | nil => rfl
  | cons o l ih => rw [List.flatMap_cons, List.length_append, recB_len (hm o (by simp)), ih (fun o h => hm o (by simp [h])), List.length_cons]; omega
theorem dec_len (bs : List Nat) : (decN bs).length = bs.length / 23 := by unfold decN; exact decT_len _ _
theorem dec_ok {bs : List Nat} (hb : ∀ b ∈ bs, b < 256) : ∀ o ∈ decN bs, mayB o = true ∧ Wf o := by
  intro o ho
  unfold decN decT at ho
  obtain ⟨i, hi, rfl⟩ := List.mem_map.1 ho
  have hi := List.mem_range.1 hi
  exact said_ok (by rw [List.length_take, List.length_drop]; omega) (fun b h => hb b (List.mem_of_mem_drop (List.mem_of_mem_take h)))
theorem dec_app (n : Nat) : ∀ b c : List Nat, b.length ≤ n → decN (b.take (b.length / 23 * 23) ++ c) = decN b ++ decN c := by
  induction n with
  | zero =>
    intro b c h
    have : b = [] := List.length_eq_zero_iff.1 (by omega)
    subst this
    rfl
  | succ n ih =>
    intro b c h
    by_cases h23 : b.length < 23
    · rw [dec_short h23, Nat.div_eq_of_lt h23, Nat.zero_mul, List.take_zero, List.nil_append, List.nil_append]
    · have hx : (b.take 23).length = 23 := by rw [List.length_take]; omega
      have hb : b = b.take 23 ++ b.drop 23 := (List.take_append_drop 23 b).symm
      have e1 : b.take (b.length / 23 * 23) = b.take 23 ++ (b.drop 23).take ((b.drop 23).length / 23 * 23) := by
        conv => lhs; rw [hb]
        rw [List.take_append, hx, ← hb, List.take_of_length_le (by omega), List.length_drop]
        congr 2
        omega
      have e2 : decN b = saidN (b.take 23) :: decN (b.drop 23) := by
        conv => lhs; rw [hb]
        exact dec_cons hx
      rw [e1, List.append_assoc, dec_cons hx, e2, ih _ c (by rw [List.length_drop]; omega)]
      rfl
theorem all_may {l : List S36} (h : ∀ o ∈ l, mayB o = true) : l.all mayB = true := List.all_eq_true.2 h
/-- What Encode and Decode, in one, come to. -/
theorem back_f {k : Nat} (l : List S36) (hw : ∀ o ∈ l, Wf o) (hm : ∀ o ∈ l, mayB o = true) (hl : l.length ≤ 10000) : script_Decode.f k (encN [] l).1 = some l ∧ (encN [] l).1.length = 23 * l.length ∧ (encN [] l).2 = 0 := by
  unfold encN
  rw [if_pos (all_may hm), List.nil_append]
  show script_Decode.f k (l.flatMap recN) = some l ∧ (l.flatMap recN).length = 23 * l.length ∧ (0 : Int) = 0
  rw [flat_ints l hm, ints_length, flat_len l hm]
  refine ⟨?_, rfl, rfl⟩
  unfold script_Decode.f
  rw [if_pos (okB_of (flat_lt l hm) (by rw [flat_len l hm]; omega)), nats_ints, dec_flat l hw hm]
end Go.Proofs.Ytlccjklljlddhaa.SC
