/- The reference's memory as a list of slots: what the printed functions come to. Conditions: those each lemma names. -/
import Derived.Test.YtpkffpcdmglleaaFnP
import Derived.Test.YtpkffpcdmglleaaNF
set_option linter.unusedVariables false
set_option linter.unusedSimpArgs false
namespace Go.Proofs.Ytpkffpcdmglleaa.RM
open Go.RowKit Go.Proofs.Ytpkffpcdmglleaa.NL Go.Proofs.Ytpkffpcdmglleaa.Fn Go.Proofs.YtpkffpcdmglleaaW.PrintWords Go.Proofs.YtpkffpcdmglleaaW.PrintLast Go.Proofs.YtpkffpcdmglleaaW.PrintMore
abbrev Sl := List (Nat × Nat)
def enc (ps : Sl) : List S85 := ps.map fun p => ⟨(p.1 : Int), (p.2 : Int)⟩
def wN : Sl → Nat → Nat
  | [], _ => 0
  | p :: r, a => if p.1 = a then p.2 else wN r a
def sN' : Sl → Nat → Nat → Bool → Sl
  | [], a, x, done => if done = true then [] else [(a, x)]
  | p :: r, a, x, done => if p.1 = a then sN' r a x done else if done = true then p :: sN' r a x done else if a < p.1 then (a, x) :: p :: sN' r a x true else p :: sN' r a x done
def Ok (ps : Sl) : Prop := ∀ p ∈ ps, p.1 < 18446744073709551616 ∧ p.2 < 18446744073709551616
theorem enc_len (ps : Sl) : (enc ps).length = ps.length := by simp [enc]
theorem w1 {i : Nat} (h : i < 9223372036854775807) : wrap64 ((i : Int) + 1) = ((i + 1 : Nat) : Int) := by unfold wrap64; omega
theorem rd85 (ps : Sl) (i : Nat) : rd_T85 (enc ps) (i : Int) = ⟨((ps.getD i (0, 0)).1 : Int), ((ps.getD i (0, 0)).2 : Int)⟩ := by
  unfold rd_T85 enc
  rw [Int.toNat_natCast, List.getD_eq_getElem?_getD, List.getElem?_map, List.getD_eq_getElem?_getD]
  cases ps[i]? <;> rfl
theorem dropC {α : Type} {l : List α} {i : Nat} (d : α) (h : i < l.length) : l.drop i = l.getD i d :: l.drop (i + 1) := by
  rw [List.drop_eq_getElem_cons h, List.getD_eq_getElem?_getD, List.getElem?_eq_getElem h]
  rfl
theorem wN_lt {ps : Sl} (h : Ok ps) (a : Nat) : wN ps a < 18446744073709551616 := by
  induction ps with
  | nil =>
    show (0 : Nat) < 18446744073709551616
    omega
  | cons p r ih =>
    unfold wN
    split
    · exact (h p (by simp)).2
    · exact ih (fun q hq => h q (by simp [hq]))
theorem word_l (ps : Sl) (n : Int) (tr : List Int) (a : Nat) (hl : ps.length ≤ 100000) (d : Nat) : ∀ k i : Nat, i + d = ps.length → d < k → dormerref04_Word.l0 k (a : Int) (i : Int) n (enc ps) tr = some ((wN (ps.drop i) a : Nat) : Int) := by
  induction d with
  | zero =>
    intro k i hd hk
    obtain ⟨k, rfl⟩ : ∃ m, k = m + 1 := ⟨k - 1, by omega⟩
    simp only [dormerref04_Word.l0]
    rw [enc_len, if_neg (by omega), List.drop_of_length_le (by omega)]
    rfl
  | succ d ih =>
    intro k i hd hk
    obtain ⟨k, rfl⟩ : ∃ m, k = m + 1 := ⟨k - 1, by omega⟩
    simp only [dormerref04_Word.l0]
    rw [enc_len, if_pos (by omega), if_pos (by omega), rd85, dropC (0, 0) (by omega)]
    unfold wN
    by_cases h : (ps.getD i (0, 0)).1 = a
    · rw [if_pos (by show ((_ : Nat) : Int) = _; omega), if_pos h]
    · rw [if_neg (by show ¬ ((_ : Nat) : Int) = _; omega), if_neg h, w1 (by omega), ih k (i + 1) (by omega) (by omega)]
theorem word_f {k : Nat} (ps : Sl) (n : Int) (tr : List Int) (a : Nat) (hl : ps.length ≤ 100000) (hk : ps.length < k) : dormerref04_Word.f k n (enc ps) tr (a : Int) = some ((wN ps a : Nat) : Int) := by
  have := word_l ps n tr a hl ps.length k 0 (by omega) hk
  rwa [List.drop_zero] at this
theorem size_l (ps : Sl) (n : Nat) (tr : List Int) (hn : n ≤ 22) (d : Nat) : ∀ k i : Nat, i + d = n → d < k → dormerref04_Size.l0 k ((2 ^ i : Nat) : Int) (i : Int) (n : Int) (enc ps) tr = some ((2 ^ n : Nat) : Int) := by
  induction d with
  | zero =>
    intro k i hd hk
    obtain ⟨k, rfl⟩ : ∃ m, k = m + 1 := ⟨k - 1, by omega⟩
    simp only [dormerref04_Size.l0]
    rw [if_neg (by omega)]
    have : i = n := by omega
    rw [this]
  | succ d ih =>
    intro k i hd hk
    obtain ⟨k, rfl⟩ : ∃ m, k = m + 1 := ⟨k - 1, by omega⟩
    simp only [dormerref04_Size.l0]
    have hp : 2 ^ i ≤ 2 ^ 22 := Nat.pow_le_pow_right (by omega) (by omega)
    have h22 : (2 : Nat) ^ 22 = 4194304 := by decide
    have e : IntKind.u64.wrap (2 * ((2 ^ i : Nat) : Int)) = ((2 ^ (i + 1) : Nat) : Int) := by
      rw [IntKind.wrap_u64, Nat.pow_succ]
      omega
    rw [if_pos (by omega), e, w1 (by omega), ih k (i + 1) (by omega) (by omega)]
theorem size_f {k : Nat} (ps : Sl) (n : Nat) (tr : List Int) (hn : n ≤ 22) (hk : 23 ≤ k) : dormerref04_Size.f k (n : Int) (enc ps) tr = some ((2 ^ n : Nat) : Int) := size_l ps n tr hn n k 0 (by omega) (by omega)
theorem set_l (ps : Sl) (n : Int) (tr : List Int) (a x : Nat) (hl : ps.length ≤ 100000) (d : Nat) : ∀ (k i : Nat) (out : Sl) (done : Bool), i + d = ps.length → d < k → out.length ≤ 2 * i + 2 → dormerref04_set.l0 k (a : Int) (x : Int) (enc out) done (i : Int) n (enc ps) tr = some (n, enc (out ++ sN' (ps.drop i) a x done), tr) := by
  have eapp : ∀ (u : Sl) (p q : Nat), enc u ++ [(⟨(p : Int), (q : Int)⟩ : S85)] = enc (u ++ [(p, q)]) := fun u p q => by simp [enc]
  induction d with
  | zero =>
    intro k i out done hd hk ho
    obtain ⟨k, rfl⟩ : ∃ m, k = m + 1 := ⟨k - 1, by omega⟩
    simp only [dormerref04_set.l0]
    rw [enc_len, if_neg (by omega), List.drop_of_length_le (by omega)]
    unfold sN'
    cases done with
    | true => rw [if_pos rfl, if_pos rfl, List.append_nil]
    | false => rw [if_neg (show ¬ (false = true) by decide), enc_len, if_pos (by omega), if_neg (show ¬ (false = true) by decide), eapp]
  | succ d ih =>
    intro k i out done hd hk ho
    obtain ⟨k, rfl⟩ : ∃ m, k = m + 1 := ⟨k - 1, by omega⟩
    simp only [dormerref04_set.l0]
    rw [enc_len, if_pos (by omega), if_pos (by omega), rd85, dropC (0, 0) (by omega)]
    unfold sN'
    generalize ps.getD i (0, 0) = p
    by_cases h : p.1 = a
    · rw [if_pos (by show ((_ : Nat) : Int) = _; omega), if_pos h, w1 (by omega), ih k (i + 1) out done (by omega) (by omega) (by omega)]
    · rw [if_neg (by show ¬ ((_ : Nat) : Int) = _; omega), if_neg h]
      cases done with
      | true =>
        rw [if_pos rfl, enc_len, if_pos (by omega), if_pos rfl, w1 (by omega)]
        show dormerref04_set.l0 k (a : Int) (x : Int) (enc out ++ [(⟨(p.1 : Int), (p.2 : Int)⟩ : S85)]) true _ n (enc ps) tr = _
        rw [eapp, ih k (i + 1) (out ++ [(p.1, p.2)]) true (by omega) (by omega) (by simp; omega), List.append_assoc]
        rfl
      | false =>
        rw [if_neg (show ¬ (false = true) by decide), if_neg (show ¬ (false = true) by decide)]
        by_cases hg : a < p.1
        · rw [if_pos (by show ((_ : Nat) : Int) > _; omega), enc_len, if_pos (by omega), if_pos hg, Option.bind_some, eapp, enc_len, if_pos (by simp; omega), w1 (by omega)]
          show dormerref04_set.l0 k (a : Int) (x : Int) (enc (out ++ [(a, x)]) ++ [(⟨(p.1 : Int), (p.2 : Int)⟩ : S85)]) true _ n (enc ps) tr = _
          rw [eapp, ih k (i + 1) _ true (by omega) (by omega) (by simp; omega), List.append_assoc, List.append_assoc]
          rfl
        · rw [if_neg (by show ¬ ((_ : Nat) : Int) > _; omega), enc_len, if_pos (by omega), if_neg hg, w1 (by omega)]
          show dormerref04_set.l0 k (a : Int) (x : Int) (enc out ++ [(⟨(p.1 : Int), (p.2 : Int)⟩ : S85)]) false _ n (enc ps) tr = _
          rw [eapp, ih k (i + 1) (out ++ [(p.1, p.2)]) false (by omega) (by omega) (by simp; omega), List.append_assoc]
          rfl
theorem set_f {k : Nat} (ps : Sl) (n : Int) (tr : List Int) (a x : Nat) (hl : ps.length ≤ 100000) (hk : ps.length < k) : dormerref04_set.f k n (enc ps) tr (a : Int) (x : Int) = some (n, enc (sN' ps a x false), tr) := by
  have := set_l ps n tr a x hl ps.length k 0 [] false (by omega) hk (by simp)
  rw [List.drop_zero, List.nil_append] at this
  exact this
theorem sN_word (ps : Sl) (a x b : Nat) (done : Bool) : wN (sN' ps a x done) b = if b = a then (if done = true then 0 else x) else wN ps b := by
  induction ps generalizing done with
  | nil =>
    unfold sN'
    cases done with
    | true =>
      by_cases h : b = a
      · rw [if_pos h]; rfl
      · rw [if_neg h]; rfl
    | false =>
      simp only [Bool.false_eq_true, if_false]
      unfold wN
      by_cases h : b = a
      · rw [if_pos h.symm, if_pos h]
      · rw [if_neg (show ¬ a = b from fun e => h e.symm), if_neg h]
        rfl
  | cons p r ih =>
    unfold sN'
    by_cases hp : p.1 = a
    · rw [if_pos hp, ih]
      by_cases hb : b = a
      · rw [if_pos hb, if_pos hb]
      · rw [if_neg hb, if_neg hb]
        show _ = (if p.1 = b then p.2 else wN r b)
        rw [if_neg (by omega)]
    · rw [if_neg hp]
      have step : ∀ t, wN (p :: t) b = if p.1 = b then p.2 else wN t b := fun t => rfl
      cases done with
      | true =>
        rw [if_pos rfl, step, step, ih]
        by_cases hpb : p.1 = b
        · rw [if_pos hpb, if_pos hpb, if_neg (by omega)]
        · rw [if_neg hpb, if_neg hpb]
      | false =>
        rw [if_neg (show ¬ (false = true) by decide)]
        by_cases hg : a < p.1
        · rw [if_pos hg]
          show (if a = b then x else wN (p :: sN' r a x true) b) = _
          by_cases hab : a = b
          · rw [if_pos hab, if_pos hab.symm]; rfl
          · rw [if_neg hab, if_neg (show ¬ b = a from fun e => hab e.symm), step, step, ih, if_neg (show ¬ b = a from fun e => hab e.symm)]
        · rw [if_neg hg, step, step, ih]
          by_cases hpb : p.1 = b
          · rw [if_pos hpb, if_pos hpb, if_neg (by omega)]
          · rw [if_neg hpb, if_neg hpb]
theorem sN_len (ps : Sl) (a x : Nat) (done : Bool) : (sN' ps a x done).length ≤ ps.length + 1 := by
  induction ps generalizing done with
  | nil => unfold sN'; split <;> simp
  | cons p r ih =>
    unfold sN'
    have := ih done
    have ht : (sN' r a x true).length ≤ r.length := by
      clear ih this
      induction r with
      | nil => simp [sN']
      | cons q r ih2 =>
        unfold sN'
        split
        · simp; omega
        · simp; omega
    split
    · simp; omega
    · split
      · simp; omega
      · split
        · simp; omega
        · simp; omega
theorem sN_ok {ps : Sl} (h : Ok ps) {a x : Nat} (ha : a < 18446744073709551616) (hx : x < 18446744073709551616) (done : Bool) : Ok (sN' ps a x done) := by
  induction ps generalizing done with
  | nil =>
    unfold sN'
    split
    · exact h
    · intro p hp
      have : p = (a, x) := by simpa using hp
      subst this
      exact ⟨ha, hx⟩
  | cons p r ih =>
    have hr : Ok r := fun q hq => h q (by simp [hq])
    have hp := h p (by simp)
    unfold sN'
    split
    · exact ih hr done
    · split
      · intro q hq
        rcases List.mem_cons.1 hq with rfl | hq
        · exact hp
        · exact ih hr done q hq
      · split
        · intro q hq
          rcases List.mem_cons.1 hq with rfl | hq
          · exact ⟨ha, hx⟩
          · rcases List.mem_cons.1 hq with rfl | hq
            · exact hp
            · exact ih hr true q hq
        · intro q hq
          rcases List.mem_cons.1 hq with rfl | hq
          · exact hp
          · exact ih hr done q hq
theorem lo8 (a : Nat) (ha : a < 18446744073709551616) : IntKind.u64.wrap ((a : Int) - Int.tmod (a : Int) 8) = ((a / 8 * 8 : Nat) : Int) := by
  rw [show Int.tmod (a : Int) 8 = ((a % 8 : Nat) : Int) from rfl, IntKind.wrap_u64]
  omega
theorem md8 (a : Nat) : wrap64 (Int.tmod (a : Int) 8) = ((a % 8 : Nat) : Int) := by
  rw [show Int.tmod (a : Int) 8 = ((a % 8 : Nat) : Int) from rfl]
  unfold wrap64
  omega
theorem get_f {k : Nat} (ps : Sl) (n : Nat) (tr : List Int) (a : Nat) (h : Ok ps) (hn : n ≤ 22) (ha : a < 18446744073709551616) (hl : ps.length ≤ 1000) (hk : 2000 ≤ k) :
    dormerref04_Get.f k (n : Int) (enc ps) tr (a : Int) = some (if a < 2 ^ n then (((gN (wN ps (a / 8 * 8)) (8 * (a % 8)) 8 : Nat) : Int), 0) else (0, 2)) := by
  unfold dormerref04_Get.f
  rw [size_f ps n tr hn (by omega), Option.bind_some]
  by_cases hs : a < 2 ^ n
  · rw [if_neg (by omega), if_pos hs, lo8 a ha, word_f ps n tr _ (by omega) (by omega), Option.bind_some, md8, NF.rbyte (by omega) (wN_lt h _) (by omega), Option.bind_some]
  · rw [if_pos (by omega), if_neg hs]
theorem put_f {k : Nat} (ps : Sl) (n : Nat) (tr : List Int) (a c : Nat) (h : Ok ps) (hn : n ≤ 22) (ha : a < 18446744073709551616) (hc : c < 256) (hl : ps.length ≤ 1000) (hk : 2000 ≤ k) :
    dormerref04_Put.f k (n : Int) (enc ps) tr (a : Int) (c : Int) = some (if a < 2 ^ n then ((n : Int), enc (sN' ps (a / 8 * 8) (sN (wN ps (a / 8 * 8)) (8 * (a % 8)) 8 c) false), tr, 0) else ((n : Int), enc ps, tr, 2)) := by
  unfold dormerref04_Put.f
  rw [size_f ps n tr hn (by omega), Option.bind_some]
  by_cases hs : a < 2 ^ n
  · rw [if_neg (by omega), if_pos hs, lo8 a ha, word_f ps n tr _ (by omega) (by omega), Option.bind_some, md8, NF.rput (by omega) (wN_lt h _) hc (by omega), Option.bind_some, set_f ps n tr _ _ (by omega) (by omega), Option.bind_some]
  · rw [if_pos (by omega), if_neg hs]
theorem peek_f {k : Nat} (ps : Sl) (n : Nat) (tr : List Int) (a : Nat) (hn : n ≤ 22) (hl : ps.length ≤ 1000) (hk : 2000 ≤ k) :
    dormerref04_Peek.f k (n : Int) (enc ps) tr (a : Int) = some (if a < 2 ^ n then (if a % 8 = 0 then (((wN ps a : Nat) : Int), 0) else (0, 3)) else (0, 2)) := by
  unfold dormerref04_Peek.f
  rw [size_f ps n tr hn (by omega), Option.bind_some]
  by_cases hs : a < 2 ^ n
  · rw [if_neg (by omega), if_pos hs]
    have e : Int.tmod (a : Int) 8 = ((a % 8 : Nat) : Int) := rfl
    by_cases h8 : a % 8 = 0
    · rw [if_pos (by rw [e]; omega), if_pos h8, word_f ps n tr _ (by omega) (by omega), Option.bind_some]
    · rw [if_neg (by rw [e]; omega), if_neg h8]
  · rw [if_pos (by omega), if_neg hs]
theorem load_f {k : Nat} (ps : Sl) (n : Nat) (tr : List Int) (a : Nat) (hn : n ≤ 22) (hl : ps.length ≤ 1000) (ht : tr.length ≤ 1000) (hk : 2000 ≤ k) :
    dormerref04_Load.f k (n : Int) (enc ps) tr (a : Int) = some (if a < 2 ^ n then (if a % 8 = 0 then ((n : Int), enc ps, tr ++ [(a : Int)], ((wN ps a : Nat) : Int), 0) else ((n : Int), enc ps, tr, 0, 3)) else ((n : Int), enc ps, tr, 0, 2)) := by
  unfold dormerref04_Load.f
  rw [peek_f ps n tr a hn hl hk, Option.bind_some]
  by_cases hs : a < 2 ^ n
  · rw [if_pos hs, if_pos hs]
    by_cases h8 : a % 8 = 0
    · rw [if_pos h8, if_pos h8, if_pos rfl, Option.bind_some, List.nil_append, if_pos (by simp; omega), Option.bind_some, if_pos (by omega)]
    · rw [if_neg h8, if_neg h8, if_neg (by decide)]
  · rw [if_neg hs, if_neg hs, if_neg (by decide)]
theorem store_f {k : Nat} (ps : Sl) (n : Nat) (tr : List Int) (a x : Nat) (hn : n ≤ 22) (hl : ps.length ≤ 1000) (hk : 2000 ≤ k) :
    dormerref04_Store.f k (n : Int) (enc ps) tr (a : Int) (x : Int) = some (if a < 2 ^ n then (if a % 8 = 0 then ((n : Int), enc (sN' ps a x false), tr, 0) else ((n : Int), enc ps, tr, 3)) else ((n : Int), enc ps, tr, 2)) := by
  unfold dormerref04_Store.f
  rw [peek_f ps n tr a hn hl hk, Option.bind_some]
  by_cases hs : a < 2 ^ n
  · rw [if_pos hs, if_pos hs]
    by_cases h8 : a % 8 = 0
    · rw [if_pos h8, if_pos h8, if_pos rfl, set_f ps n tr _ _ (by omega) (by omega), Option.bind_some]
    · rw [if_neg h8, if_neg h8, if_neg (by decide)]
  · rw [if_neg hs, if_neg hs, if_neg (by decide)]
end Go.Proofs.Ytpkffpcdmglleaa.RM
