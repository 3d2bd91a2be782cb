/- Ops' bytes: what the printed functions come to. Conditions: those each lemma names. -/
import Derived.Test.YtlccjklljlddhaaS1
set_option linter.unusedVariables false
set_option linter.unusedSimpArgs false
namespace Go.Proofs.Ytlccjklljlddhaa.SC
open Go.RowKit Go.Proofs.Ytlccjklljlddhaa.NL Go.Proofs.Ytlccjklljlddhaa.Fn Go.Proofs.YtlccjklljlddhaaW.PrintWords Go.Proofs.YtlccjklljlddhaaW.PrintLast Go.Proofs.YtlccjklljlddhaaW.PrintMore
theorem or64_d : ∀ a : Fin 64, Go.bits .or .i64 ((a.val : Nat) : Int) 64 = ((a.val + 64 : Nat) : Int) := by decide +kernel
theorem or128_d : ∀ a : Fin 128, Go.bits .or .i64 ((a.val : Nat) : Int) 128 = ((a.val + 128 : Nat) : Int) := by decide +kernel
theorem or64 {a : Int} (h0 : 0 ≤ a) (h1 : a < 64) : Go.bits .or .i64 a 64 = a + 64 := by
  have := or64_d ⟨a.toNat, by omega⟩
  simp only at this
  rw [show ((a.toNat : Nat) : Int) = a by omega, show ((a.toNat + 64 : Nat) : Int) = a + 64 by omega] at this
  exact this
theorem or128 {a : Int} (h0 : 0 ≤ a) (h1 : a < 128) : Go.bits .or .i64 a 128 = a + 128 := by
  have := or128_d ⟨a.toNat, by omega⟩
  simp only at this
  rw [show ((a.toNat : Nat) : Int) = a by omega, show ((a.toNat + 128 : Nat) : Int) = a + 128 by omega] at this
  exact this
def acc1 (o : S36) : Int := if o.f4.f1 = true then o.f4.f0 + 64 else o.f4.f0
def accN (o : S36) : Int := if o.f4.f2 = true then acc1 o + 128 else acc1 o
/-- An op's bytes. -/
def recN (o : S36) : List Int := [o.f0 - 1, accN o, o.f2] ++ ints (bytesN o.f1.toNat) ++ ints (bytesN o.f3.toNat) ++ o.f5
theorem recN_len {o : S36} (h : mayB o = true) : (recN o).length = 23 := by
  have h := (mayB_iff o).1 h
  simp [recN, ints_length, bytesN_length, h.2.2.2.2.2.2.1]
theorem cat_f {k : Nat} (a b c : List Int) (h : a.length + b.length + c.length < 1000) (hk : 10 ≤ k) : slices_Concat_byte_byte.f k [a, b, c] = some (a ++ b ++ c) := by
  obtain ⟨k, rfl⟩ : ∃ m, k = m + 10 := ⟨k - 10, by omega⟩
  unfold slices_Concat_byte_byte.f
  have l3 : (([a, b, c] : List (List Int)).length : Int) = 3 := rfl
  rw [l3]
  have e0 : rd_L2 [a, b, c] 0 = a := rfl
  have e1 : rd_L2 [a, b, c] 1 = b := rfl
  have e2 : rd_L2 [a, b, c] 2 = c := rfl
  have wa : wrap64 (0 + (a.length : Int)) = (a.length : Int) := by unfold wrap64; omega
  have wb : wrap64 ((a.length : Int) + (b.length : Int)) = ((a.length + b.length : Nat) : Int) := by unfold wrap64; omega
  have wc : wrap64 (((a.length + b.length : Nat) : Int) + (c.length : Int)) = ((a.length + b.length + c.length : Nat) : Int) := by unfold wrap64; omega
  rw [slices_Concat_byte_byte.l0, l3, if_pos (by decide), if_pos (by decide), if_pos (by decide), e0, wa, if_neg (by omega), show wrap64 (0 + 1) = 1 by unfold wrap64; omega]
  rw [slices_Concat_byte_byte.l0, l3, if_pos (by decide), if_pos (by decide), if_pos (by decide), e1, wb, if_neg (by omega), show wrap64 (1 + 1) = 2 by unfold wrap64; omega]
  rw [slices_Concat_byte_byte.l0, l3, if_pos (by decide), if_pos (by decide), if_pos (by decide), e2, wc, if_neg (by omega), show wrap64 (2 + 1) = 3 by unfold wrap64; omega]
  rw [slices_Concat_byte_byte.l0, if_neg (by decide), slices_Grow_byte_byte.f, if_pos (by omega), if_pos (by omega), Option.bind_some]
  rw [slices_Concat_byte_byte.l1, l3, if_pos (by decide), if_pos (by decide), if_pos (by decide), e0, if_pos (by simp; omega), show wrap64 (0 + 1) = 1 by unfold wrap64; omega, List.nil_append]
  rw [slices_Concat_byte_byte.l1, l3, if_pos (by decide), if_pos (by decide), if_pos (by decide), e1, if_pos (by omega), show wrap64 (1 + 1) = 2 by unfold wrap64; omega]
  rw [slices_Concat_byte_byte.l1, l3, if_pos (by decide), if_pos (by decide), if_pos (by decide), e2, if_pos (by simp; omega), show wrap64 (2 + 1) = 3 by unfold wrap64; omega]
  rw [slices_Concat_byte_byte.l1, if_neg (by decide)]
theorem rec_l (l : List Int) (hp : ∀ p ∈ l, 0 ≤ p ∧ p ≤ 255) (d : Nat) : ∀ (k i : Nat) (x : List Int), i + d = l.length → d < k → l.length ≤ 100 → x.length + d < 1000 → script_record.l0 k x l (l.length : Int) (i : Int) = some (x ++ l.drop i) := by
  induction d with
  | zero =>
    intro k i x hd hk _ _
    obtain ⟨k, rfl⟩ : ∃ m, k = m + 1 := ⟨k - 1, by omega⟩
    simp only [script_record.l0]
    rw [if_neg (by omega), List.drop_of_length_le (by omega), List.append_nil]
  | succ d ih =>
    intro k i x hd hk h1 h2
    obtain ⟨k, rfl⟩ : ∃ m, k = m + 1 := ⟨k - 1, by omega⟩
    have hi : i < l.length := by omega
    have hm : l.getD i 0 ∈ l := by
      rw [List.getD_eq_getElem?_getD, List.getElem?_eq_getElem hi]
      exact List.getElem_mem hi
    have hb := hp _ hm
    simp only [script_record.l0]
    rw [if_pos (by omega), if_pos (by omega), if_pos (by omega), if_pos (by omega), rd_nat, w1 (by omega), ih k (i + 1) _ (by omega) (by omega) h1 (by simp; omega), dropC 0 hi, Int.emod_eq_of_lt (by omega) (by omega), List.append_assoc]
    rfl
theorem rrec_l (o : S36) (hp : ∀ p ∈ o.f5, 0 ≤ p ∧ p ≤ 255) (h4 : o.f5.length = 4) (d : Nat) : ∀ (k i : Nat) (x : List Int), i + d = 4 → d < k → x.length + d < 1000 → dormerref20_Bytes.l0 k x (i : Int) o.f0 o.f1 o.f2 o.f3 o.f4.f0 o.f4.f1 o.f4.f2 o.f5 = some (x ++ o.f5.drop i) := by
  induction d with
  | zero =>
    intro k i x hd hk _
    obtain ⟨k, rfl⟩ : ∃ m, k = m + 1 := ⟨k - 1, by omega⟩
    simp only [dormerref20_Bytes.l0]
    rw [if_neg (by omega), List.drop_of_length_le (by omega), List.append_nil]
  | succ d ih =>
    intro k i x hd hk h2
    obtain ⟨k, rfl⟩ : ∃ m, k = m + 1 := ⟨k - 1, by omega⟩
    have hi : i < o.f5.length := by omega
    have hm : o.f5.getD i 0 ∈ o.f5 := by
      rw [List.getD_eq_getElem?_getD, List.getElem?_eq_getElem hi]
      exact List.getElem_mem hi
    have hb := hp _ hm
    simp only [dormerref20_Bytes.l0]
    rw [if_pos (by omega), if_pos (by omega), if_pos (by omega), if_pos (by omega), rd_nat, w1 (by omega), ih k (i + 1) _ (by omega) (by omega) (by simp; omega), dropC 0 hi, Int.emod_eq_of_lt (by omega) (by omega), List.append_assoc]
    rfl
theorem acc_bd {o : S36} (h : mayB o = true) : 0 ≤ acc1 o ∧ acc1 o < 128 ∧ 0 ≤ accN o ∧ accN o < 256 := by
  have h := (mayB_iff o).1 h
  unfold accN acc1
  split <;> split <;> omega
theorem u64c {x : Int} (h : 0 ≤ x ∧ x < 18446744073709551616) : x.toNat < 2 ^ 64 ∧ ((x.toNat : Nat) : Int) = x := ⟨by omega, by omega⟩
theorem rec_j1 {k : Nat} (o : S36) (h : Wf o) (hm : mayB o = true) (hk : 20 ≤ k) : script_record.j1 k (accN o) o.f0 o.f1 o.f2 o.f3 o.f4.f0 o.f4.f1 o.f4.f2 o.f5 = some (recN o) := by
  obtain ⟨k, rfl⟩ : ∃ m, k = m + 1 := ⟨k - 1, by omega⟩
  have hb := acc_bd hm
  have hm' := (mayB_iff o).1 hm
  have ha := u64c h.a
  have hv := u64c h.v
  have b1 := NF.bytes (k := k) (by omega) ha.1
  have b2 := NF.bytes (k := k) (by omega) hv.1
  rw [ha.2] at b1
  rw [hv.2] at b2
  have hl := rec_l o.f5 hm'.2.2.2.2.2.2.2 4 k 0 ([o.f0 - 1, accN o, o.f2] ++ ints (bytesN o.f1.toNat) ++ ints (bytesN o.f3.toNat)) (by omega) (by omega) (by omega) (by simp [ints_length, bytesN_length])
  simp only [script_record.j1]
  rw [b1, Option.bind_some, b2, Option.bind_some, show wrap64 (o.f0 - 1) = o.f0 - 1 by unfold wrap64; omega, Int.emod_eq_of_lt (by omega) (by omega), Int.emod_eq_of_lt (by omega) (by omega), Int.emod_eq_of_lt (by omega) (by omega), cat_f _ _ _ (by simp [ints_length, bytesN_length]) (by omega), Option.bind_some]
  rw [show (0 : Int) = ((0 : Nat) : Int) from rfl, hl, List.drop_zero]
  rfl
theorem rec_j0 {k : Nat} (o : S36) (h : Wf o) (hm : mayB o = true) (hk : 21 ≤ k) : script_record.j0 k (acc1 o) o.f0 o.f1 o.f2 o.f3 o.f4.f0 o.f4.f1 o.f4.f2 o.f5 = some (recN o) := by
  obtain ⟨k, rfl⟩ : ∃ m, k = m + 1 := ⟨k - 1, by omega⟩
  have hb := acc_bd hm
  have hj := rec_j1 (k := k) o h hm (by omega)
  simp only [script_record.j0]
  by_cases hc : o.f4.f2 = true
  · rw [if_pos hc, or128 hb.1 hb.2.1]
    unfold accN at hj
    rw [if_pos hc] at hj
    exact hj
  · rw [if_neg hc]
    unfold accN at hj
    rw [if_neg hc] at hj
    exact hj
theorem rec_f {k : Nat} (o : S36) (h : Wf o) (hm : mayB o = true) (hk : 21 ≤ k) : script_record.f k o.f0 o.f1 o.f2 o.f3 o.f4.f0 o.f4.f1 o.f4.f2 o.f5 = some (recN o) := by
  have hm' := (mayB_iff o).1 hm
  have hj := rec_j0 (k := k) o h hm hk
  unfold script_record.f
  unfold acc1 at hj
  by_cases hc : o.f4.f1 = true
  · rw [if_pos hc, or64 (by omega) (by omega)]
    rw [if_pos hc] at hj
    exact hj
  · rw [if_neg hc]
    rw [if_neg hc] at hj
    exact hj
theorem rrec_j1 {k : Nat} (o : S36) (h : Wf o) (hm : mayB o = true) (hk : 80 ≤ k) : dormerref20_Bytes.j1 k (accN o) o.f0 o.f1 o.f2 o.f3 o.f4.f0 o.f4.f1 o.f4.f2 o.f5 = some (recN o) := by
  obtain ⟨k, rfl⟩ : ∃ m, k = m + 1 := ⟨k - 1, by omega⟩
  have hb := acc_bd hm
  have hm' := (mayB_iff o).1 hm
  have ha := u64c h.a
  have hv := u64c h.v
  have b1 := NF.rbytes (k := k) (by omega) ha.1
  have b2 := NF.rbytes (k := k) (by omega) hv.1
  rw [ha.2] at b1
  rw [hv.2] at b2
  have hl := rrec_l o hm'.2.2.2.2.2.2.2 hm'.2.2.2.2.2.2.1 4 k 0 ([o.f0 - 1, accN o, o.f2] ++ ints (bytesN o.f1.toNat) ++ ints (bytesN o.f3.toNat)) (by omega) (by omega) (by simp [ints_length, bytesN_length])
  simp only [dormerref20_Bytes.j1]
  rw [Option.bind_some, b1, Option.bind_some, show wrap64 (o.f0 - 1) = o.f0 - 1 by unfold wrap64; omega, Int.emod_eq_of_lt (by omega) (by omega), Int.emod_eq_of_lt (by omega) (by omega), Int.emod_eq_of_lt (by omega) (by omega), if_pos (by simp [ints_length, bytesN_length]), Option.bind_some, b2, Option.bind_some, if_pos (by simp [ints_length, bytesN_length])]
  rw [show (0 : Int) = ((0 : Nat) : Int) from rfl, hl, List.drop_zero]
  rfl
theorem rrec_j0 {k : Nat} (o : S36) (h : Wf o) (hm : mayB o = true) (hk : 81 ≤ k) : dormerref20_Bytes.j0 k (acc1 o) o.f0 o.f1 o.f2 o.f3 o.f4.f0 o.f4.f1 o.f4.f2 o.f5 = some (recN o) := by
  obtain ⟨k, rfl⟩ : ∃ m, k = m + 1 := ⟨k - 1, by omega⟩
  have hb := acc_bd hm
  have hj := rrec_j1 (k := k) o h hm (by omega)
  simp only [dormerref20_Bytes.j0]
  by_cases hc : o.f4.f2 = true
  · rw [if_pos hc, show wrap64 (acc1 o + 128) = acc1 o + 128 by unfold wrap64; omega]
    unfold accN at hj
    rw [if_pos hc] at hj
    exact hj
  · rw [if_neg hc]
    unfold accN at hj
    rw [if_neg hc] at hj
    exact hj
theorem rrec_f {k : Nat} (o : S36) (h : Wf o) (hm : mayB o = true) (hk : 81 ≤ k) : dormerref20_Bytes.f k o.f0 o.f1 o.f2 o.f3 o.f4.f0 o.f4.f1 o.f4.f2 o.f5 = some (recN o) := by
  have hm' := (mayB_iff o).1 hm
  have hj := rrec_j0 (k := k) o h hm hk
  unfold dormerref20_Bytes.f
  unfold acc1 at hj
  by_cases hc : o.f4.f1 = true
  · rw [if_pos hc, show wrap64 (o.f4.f0 + 64) = o.f4.f0 + 64 by unfold wrap64; omega]
    rw [if_pos hc] at hj
    exact hj
  · rw [if_neg hc]
    rw [if_neg hc] at hj
    exact hj
/-- What Encode says of ops. -/
def encN (x : List Int) (l : List S36) : List Int × Int := if l.all mayB = true then (x ++ l.flatMap recN, 0) else ([], 1)
theorem encN_nil (x : List Int) : encN x [] = (x, 0) := by simp [encN]
theorem encN_no (x : List Int) (o : S36) (l : List S36) (h : mayB o = false) : encN x (o :: l) = ([], 1) := by simp [encN, h]
theorem encN_yes (x : List Int) (o : S36) (l : List S36) (h : mayB o = true) : encN x (o :: l) = encN (x ++ recN o) l := by simp [encN, h, List.append_assoc]
theorem enc_l (l : List S36) (hw : ∀ o ∈ l, Wf o) (hl : l.length ≤ 100000) (d : Nat) : ∀ (k i : Nat) (x : List Int), i + d = l.length → d + 100 < k → x.length + 23 * d < 100000000 → script_Encode.l0 k x l (l.length : Int) (i : Int) = some (encN x (l.drop i)) := by
  induction d with
  | zero =>
    intro k i x hd hk _
    obtain ⟨k, rfl⟩ : ∃ m, k = m + 1 := ⟨k - 1, by omega⟩
    simp only [script_Encode.l0]
    rw [if_neg (by omega), List.drop_of_length_le (by omega), encN_nil]
  | succ d ih =>
    intro k i x hd hk hx
    obtain ⟨k, rfl⟩ : ∃ m, k = m + 1 := ⟨k - 1, by omega⟩
    have hi : i < l.length := by omega
    have ho : l.getD i z36 ∈ l := by
      rw [List.getD_eq_getElem?_getD, List.getElem?_eq_getElem hi]
      exact List.getElem_mem hi
    have hwo := hw _ ho
    simp only [script_Encode.l0]
    rw [if_pos (by omega), if_pos (by omega), if_pos (by omega), rd36, dropC z36 hi]
    generalize l.getD i z36 = o at *
    rw [may_f o hwo (by omega), Option.bind_some]
    by_cases hm : mayB o = true
    · have hn := recN_len hm
      rw [if_pos hm, rec_f o hwo hm (by omega), Option.bind_some, if_pos (by omega), w1 (by omega), ih k (i + 1) _ (by omega) (by omega) (by simp; omega), encN_yes _ _ _ hm]
    · rw [if_neg hm, encN_no _ _ _ (by simpa using hm)]
theorem enc_f {k : Nat} (l : List S36) (hw : ∀ o ∈ l, Wf o) (hl : l.length ≤ 100000) (hk : l.length + 101 ≤ k) : script_Encode.f k l = some (encN [] l) := by
  have := enc_l l hw hl l.length k 0 [] (by omega) (by omega) (by simp; omega)
  rwa [List.drop_zero] at this
theorem renc_l (l : List S36) (hw : ∀ o ∈ l, Wf o) (hl : l.length ≤ 100000) (d : Nat) : ∀ (k i : Nat) (x : List Int), i + d = l.length → d + 100 < k → x.length + 23 * d < 100000000 → dormerref20_Encode.l0 k l x (i : Int) = some (encN x (l.drop i)) := by
  induction d with
  | zero =>
    intro k i x hd hk _
    obtain ⟨k, rfl⟩ : ∃ m, k = m + 1 := ⟨k - 1, by omega⟩
    simp only [dormerref20_Encode.l0]
    rw [if_neg (by omega), List.drop_of_length_le (by omega), encN_nil]
  | succ d ih =>
    intro k i x hd hk hx
    obtain ⟨k, rfl⟩ : ∃ m, k = m + 1 := ⟨k - 1, by omega⟩
    have hi : i < l.length := by omega
    have ho : l.getD i z36 ∈ l := by
      rw [List.getD_eq_getElem?_getD, List.getElem?_eq_getElem hi]
      exact List.getElem_mem hi
    have hwo := hw _ ho
    simp only [dormerref20_Encode.l0]
    rw [if_pos (by omega), if_pos (by omega), rd36, dropC z36 hi]
    generalize l.getD i z36 = o at *
    rw [rmay_f o (by omega), Option.bind_some]
    by_cases hm : mayB o = true
    · have hn := recN_len hm
      rw [if_pos hm, rrec_f o hwo hm (by omega), Option.bind_some, if_pos (by omega), w1 (by omega), ih k (i + 1) _ (by omega) (by omega) (by simp; omega), encN_yes _ _ _ hm]
    · rw [if_neg hm, encN_no _ _ _ (by simpa using hm)]
theorem renc_f {k : Nat} (l : List S36) (hw : ∀ o ∈ l, Wf o) (hl : l.length ≤ 100000) (hk : l.length + 101 ≤ k) : dormerref20_Encode.f k l = some (encN [] l) := by
  have := renc_l l hw hl l.length k 0 [] (by omega) (by omega) (by simp; omega)
  rwa [List.drop_zero] at this
end Go.Proofs.Ytlccjklljlddhaa.SC
