/- Bytes of a word of 64 bits, as natural numbers. No Go in it. Conditions: none but those each lemma names. -/
import Derived.Test.YtpkffpcdmglleaaNL
set_option linter.unusedVariables false
set_option linter.unusedSimpArgs false
namespace Go.Proofs.Ytpkffpcdmglleaa.NL

def valN : List Nat → Nat
  | [] => 0
  | b :: r => b + 256 * valN r
theorem valN_snoc (a : List Nat) (b : Nat) : valN (a ++ [b]) = valN a + b * 256 ^ a.length := by
  induction a with
  | nil => simp [valN]
  | cons c a ih =>
    have e : 256 * (b * 256 ^ a.length) = b * (256 ^ a.length * 256) := by
      rw [← Nat.mul_assoc, Nat.mul_comm 256 b, Nat.mul_assoc, Nat.mul_comm 256]
    simp only [List.cons_append, valN, ih, List.length_cons, Nat.pow_succ, Nat.mul_add, e]
    omega
theorem valN_lt (bs : List Nat) (h : ∀ b ∈ bs, b < 256) : valN bs < 256 ^ bs.length := by
  induction bs with
  | nil => simp [valN]
  | cons b bs ih =>
    have h1 := ih (fun c hc => h c (List.mem_cons_of_mem _ hc))
    have h2 := h b List.mem_cons_self
    simp only [valN, List.length_cons, Nat.pow_succ]
    omega
theorem valN_bit (bs : List Nat) : ∀ (h : ∀ b ∈ bs, b < 256) (j : Nat), (valN bs).testBit j = (bs.getD (j / 8) 0).testBit (j % 8) := by
  induction bs with
  | nil => intro _ j; simp [valN]
  | cons b bs ih =>
    intro h j
    have h1 := ih (fun c hc => h c (List.mem_cons_of_mem _ hc))
    have h2 := h b List.mem_cons_self
    have e : valN (b :: bs) = 2 ^ 8 * valN bs + b := by simp only [valN]; omega
    rw [e, Nat.testBit_two_pow_mul_add _ (by omega : b < 2 ^ 8)]
    by_cases hj : j < 8
    · rw [if_pos hj, Nat.div_eq_of_lt hj, Nat.mod_eq_of_lt hj]; rfl
    · rw [if_neg hj, h1]
      obtain ⟨i, rfl⟩ : ∃ i, j = i + 8 := ⟨j - 8, by omega⟩
      have e1 : (i + 8) / 8 = i / 8 + 1 := by omega
      have e2 : (i + 8) % 8 = i % 8 := by omega
      rw [e1, e2, Nat.add_sub_cancel]
      simp
def bytesN (x : Nat) : List Nat := (List.range 8).map fun i => gN x (8 * i) 8
theorem bytesN_length (x : Nat) : (bytesN x).length = 8 := by simp [bytesN]
theorem bytesN_getD (x i : Nat) (h : i < 8) : (bytesN x).getD i 0 = gN x (8 * i) 8 := by
  simp [bytesN, List.getD_eq_getElem?_getD, h]
theorem bytesN_lt (x : Nat) : ∀ b ∈ bytesN x, b < 256 := by
  intro b hb
  simp only [bytesN, List.mem_map] at hb
  obtain ⟨i, _, rfl⟩ := hb
  exact gN_lt x (8 * i) 8
theorem getD_lt {bs : List Nat} (h : ∀ b ∈ bs, b < 256) (i : Nat) : bs.getD i 0 < 256 := by
  rw [List.getD_eq_getElem?_getD]
  by_cases hi : i < bs.length
  · rw [List.getElem?_eq_getElem hi]; exact h _ (List.getElem_mem hi)
  · rw [List.getElem?_eq_none (by omega)]; exact Nat.zero_lt_succ _
theorem val_bytes {x : Nat} (hx : x < 2 ^ 64) : valN (bytesN x) = x := eq_bits fun j => by
  rw [valN_bit _ (bytesN_lt x)]
  by_cases hj : j < 64
  · rw [bytesN_getD _ _ (by omega), gN_bit]
    have e1 : j % 8 < 8 := Nat.mod_lt _ (by decide)
    have e2 : 8 * (j / 8) + j % 8 = j := Nat.div_add_mod j 8
    simp [e1, e2]
  · rw [bit_high hx (by omega), List.getD_eq_getElem?_getD, List.getElem?_eq_none (by rw [bytesN_length]; omega)]
    simp
theorem valN_lt64 {bs : List Nat} (hl : bs.length = 8) (h : ∀ b ∈ bs, b < 256) : valN bs < 2 ^ 64 := by
  have := valN_lt bs h
  rw [hl] at this
  exact this
theorem val_get {bs : List Nat} (h : ∀ b ∈ bs, b < 256) (i : Nat) : gN (valN bs) (8 * i) 8 = bs.getD i 0 := eq_bits fun j => by
  rw [gN_bit, valN_bit _ h]
  by_cases hj : j < 8
  · have e1 : (8 * i + j) / 8 = i := by omega
    have e2 : (8 * i + j) % 8 = j := by omega
    simp [hj, e1, e2]
  · rw [bit_high (n := 8) (getD_lt h i) (by omega)]
    simp [hj]
theorem bytes_val {bs : List Nat} (hl : bs.length = 8) (h : ∀ b ∈ bs, b < 256) : bytesN (valN bs) = bs := by
  apply List.ext_getElem
  · rw [bytesN_length, hl]
  · intro i h1 h2
    have h3 := bytesN_getD (valN bs) i (by rw [bytesN_length] at h1; exact h1)
    rw [val_get h] at h3
    simpa [List.getD_eq_getElem?_getD, h1, h2] using h3
/-- A word with one byte set. -/
theorem val_set {x i c : Nat} (hx : x < 2 ^ 64) (hi : i < 8) (hc : c < 256) : valN ((bytesN x).set i c) = sN x (8 * i) 8 c := eq_bits fun j => by
  have hb : ∀ b ∈ (bytesN x).set i c, b < 256 := by
    intro b hb
    rcases List.mem_or_eq_of_mem_set hb with hb | rfl
    · exact bytesN_lt x b hb
    · exact hc
  rw [valN_bit _ hb, sN_bit]
  by_cases hj : j / 8 = i
  · have e : ((bytesN x).set i c).getD (j / 8) 0 = c := by
      rw [hj, List.getD_eq_getElem?_getD, List.getElem?_set_self (by rw [bytesN_length]; exact hi)]; rfl
    rw [e, if_pos (by omega)]
    congr 1
    omega
  · have e : ((bytesN x).set i c).getD (j / 8) 0 = (bytesN x).getD (j / 8) 0 := by
      rw [List.getD_eq_getElem?_getD, List.getElem?_set_ne (by omega), ← List.getD_eq_getElem?_getD]
    rw [e, ← valN_bit _ (bytesN_lt x), val_bytes hx, if_neg (by omega)]
/-- Ors of bytes are sums. -/
theorem or_byte (a : List Nat) (b : Nat) (h : ∀ c ∈ a, c < 256) : valN a ||| (b <<< (8 * a.length)) = valN (a ++ [b]) := by
  have h1 := valN_lt a h
  have e : (256 : Nat) ^ a.length = 2 ^ (8 * a.length) := by rw [Nat.pow_mul]
  rw [e] at h1
  rw [valN_snoc, e, Nat.shiftLeft_eq, Nat.or_comm, Nat.mul_comm b, ← Nat.two_pow_add_eq_or_of_lt h1, Nat.add_comm]
theorem take_snocN (bs : List Nat) (i : Nat) (h : i < bs.length) : bs.take (i + 1) = bs.take i ++ [bs.getD i 0] := by
  rw [List.take_succ_eq_append_getElem h, List.getD_eq_getElem?_getD, List.getElem?_eq_getElem h]; rfl
theorem drop_consN (bs : List Nat) (i : Nat) (h : i < bs.length) : bs.drop i = bs.getD i 0 :: bs.drop (i + 1) := by
  rw [List.drop_eq_getElem_cons h, List.getD_eq_getElem?_getD, List.getElem?_eq_getElem h]; rfl

/-- Lists of bytes as the machine has them. -/
def ints (bs : List Nat) : List Int := bs.map fun b : Nat => (b : Int)
theorem ints_length (bs : List Nat) : (ints bs).length = bs.length := by simp [ints]
theorem ints_of {l : List Int} (h : ∀ x ∈ l, (Lit.int .u8 x).wf = true) : ∃ bs : List Nat, l = ints bs ∧ (∀ b ∈ bs, b < 256) := by
  refine ⟨l.map Int.toNat, ?_, ?_⟩
  · apply List.ext_getElem
    · simp [ints]
    · intro i h1 h2
      have := u8_lit (h _ (List.getElem_mem h1))
      simp [ints]
      omega
  · intro b hb
    obtain ⟨x, hx, rfl⟩ := List.mem_map.1 hb
    have := u8_lit (h _ hx)
    omega
theorem ints_inj {a b : List Nat} (h : ints a = ints b) : a = b := by
  have e : ∀ c : List Nat, (ints c).map Int.toNat = c := by
    intro c; simp [ints, Function.comp_def]
  rw [← e a, ← e b, h]
theorem ints_snoc (a : List Nat) (b : Nat) : ints (a ++ [b]) = ints a ++ [(b : Int)] := by simp [ints]
theorem ints_set (a : List Nat) (i b : Nat) : (ints a).set i (b : Int) = ints (a.set i b) := by simp [ints, List.map_set]
theorem ints_getD (a : List Nat) (i : Nat) : (ints a).getD i 0 = ((a.getD i 0 : Nat) : Int) := by
  simp only [ints, List.getD_eq_getElem?_getD, List.getElem?_map]
  cases a[i]? <;> rfl
end Go.Proofs.Ytpkffpcdmglleaa.NL
