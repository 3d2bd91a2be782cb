/- What the printed functions of dormerref22 come to, over marks. No walk in it. -/
import Derived.Test.YtekfcbgndjmhnaaFnx1
import Derived.Test.YtekfcbgndjmhnaaFrQ
set_option linter.unusedVariables false
set_option linter.unusedSimpArgs false
namespace Go.Proofs.Ytekfcbgndjmhnaa.Rf
open Go.RowKit Go.Proofs.Ytekfcbgndjmhnaa.FrP Go.Proofs.Ytekfcbgndjmhnaa.Fn Go.Proofs.YtekfcbgndjmhnaaW.PrintWords
theorem new_val (k : Nat) (h1 : 14 ≤ k) (h2 : k ≤ 16) : dormerref22_New.f 20 (k : Int) = some (List.replicate (2 ^ (k - 12) - 1) false) := by
  have : k = 14 ∨ k = 15 ∨ k = 16 := by omega
  rcases this with rfl | rfl | rfl <;> decide +kernel
theorem with_val (S : List Bool) (i : Nat) (b : Bool) (hi : i < S.length) (hS : S.length ≤ 1023) : dormerref22_with.f S (i : Int) b = some (S.set i b) := by
  rw [dormerref22_with.f]
  simp only [Option.bind_some, List.length_nil, List.nil_append, Nat.zero_add]
  rw [if_pos (by omega), if_pos (by omega), if_pos (by omega), Int.toNat_natCast]
theorem small_wrap (i : Nat) (h : i ≤ 1023) : wrap64 ((i : Int) + 1) = (((i + 1 : Nat)) : Int) := by
  rw [← Go.Proofs.YtekfcbgndjmhnaaW.PrintLast.i64_w, IntKind.wrap_i64]
  omega
theorem small_at (i : Nat) (h : i ≤ 1023) : IntKind.u64.wrap ((IntKind.u64.wrap (wrap64 ((i : Int) + 1))) * 4096) = ((((i + 1) * 4096 : Nat)) : Int) := by
  rw [small_wrap i h, IntKind.wrap_u64, IntKind.wrap_u64]
  omega
/-- Where a frame's mark stands: -1: nowhere. -/
def pl (n a : Nat) : Int := if a % 4096 = 0 ∧ 4096 ≤ a ∧ a / 4096 ≤ n then ((a / 4096 - 1 : Nat) : Int) else -1
theorem place_l0 (S : List Bool) (a : Nat) (hS : S.length ≤ 1023) : ∀ (n i : Nat), S.length = i + n → (a % 4096 = 0 ∧ 4096 ≤ a ∧ a / 4096 ≤ i → False) → dormerref22_place.l0 (n + 1) (a : Int) (i : Int) S = some (pl S.length a)
  | 0, i, hn, hf => by
    rw [dormerref22_place.l0, if_neg (by omega), pl, if_neg (by rw [show S.length = i by omega]; exact hf)]
  | n + 1, i, hn, hf => by
    rw [dormerref22_place.l0, if_pos (by omega), small_at i (by omega), small_wrap i (by omega)]
    by_cases h : (i + 1) * 4096 = a
    · subst h
      rw [if_pos rfl, pl, if_pos (by omega)]
      congr 1
      omega
    · rw [if_neg (by omega)]
      exact place_l0 S a hS n (i + 1) (by omega) (fun g => hf ⟨g.1, g.2.1, by have := g.1; have := g.2.2; omega⟩)
theorem place_val (S : List Bool) (a : Nat) (hS : S.length ≤ 1023) : dormerref22_place.f (S.length + 1) S (a : Int) = some (pl S.length a) := by
  rw [dormerref22_place.f]
  exact place_l0 S a hS S.length 0 (by omega) (by omega)
theorem pl_tk (S : List Bool) (a : Nat) : (pl S.length a = -1 ∧ tk S a = false) ∨ ∃ i : Nat, pl S.length a = (i : Int) ∧ i < S.length ∧ a = (i + 1) * 4096 ∧ tk S a = S.getD i false := by
  rw [pl]
  by_cases h : a % 4096 = 0 ∧ 4096 ≤ a ∧ a / 4096 ≤ S.length
  · refine .inr ⟨a / 4096 - 1, by rw [if_pos h], by omega, by omega, ?_⟩
    have e : a = (a / 4096 - 1 + 1) * 4096 := by omega
    have := tk_at S (a / 4096 - 1)
    rw [← e] at this
    exact this
  · refine .inl ⟨by rw [if_neg h], ?_⟩
    cases ht : tk S a with
    | false => rfl
    | true =>
      obtain ⟨i, hi, rfl, _⟩ := tk_form ht
      exact absurd (by omega) h
theorem has_val (S : List Bool) (a : Nat) (hS : S.length ≤ 1023) : dormerref22_Has.f (S.length + 1) S (a : Int) = some (tk S a) := by
  rw [dormerref22_Has.f, place_val S a hS, Option.bind_some]
  rcases pl_tk S a with ⟨h1, h2⟩ | ⟨i, h1, h2, h3, h4⟩
  · rw [h1, h2, if_neg (by omega)]
  · rw [h1, h4, if_pos (by omega), if_pos (by omega), if_pos (by omega), rdOf, Int.toNat_natCast]
theorem free_l0 (S : List Bool) (hS : S.length ≤ 1023) : ∀ (n i x : Nat), S.length = i + n → x ≤ i → dormerref22_Free.l0 (n + 1) (x : Int) (i : Int) S = some ((x : Int) + ((n : Int) - ((S.drop i).count true : Int)))
  | 0, i, x, hn, hx => by
    rw [dormerref22_Free.l0, if_neg (by omega), List.drop_eq_nil_of_le (by omega)]
    simp
  | n + 1, i, x, hn, hx => by
    have hi : i < S.length := by omega
    have e : S.drop i = S.getD i false :: S.drop (i + 1) := by rw [List.drop_eq_getElem_cons hi, List.getD_eq_getElem?_getD, List.getElem?_eq_getElem hi]; rfl
    rw [dormerref22_Free.l0, if_pos (by omega), if_pos (by omega), rdOf, Int.toNat_natCast, small_wrap i (by omega), small_wrap x (by omega), e]
    cases hg : S.getD i false with
    | true =>
      rw [if_pos rfl, free_l0 S hS n (i + 1) x (by omega) (by omega), List.count_cons_self]
      congr 1
      omega
    | false =>
      rw [if_neg (by simp), free_l0 S hS n (i + 1) (x + 1) (by omega) (by omega), List.count_cons_of_ne (by simp)]
      congr 1
      omega
theorem free_val (S : List Bool) (hS : S.length ≤ 1023) : dormerref22_Free.f (S.length + 1) S = some ((S.length : Int) - (S.count true : Int)) := by
  rw [dormerref22_Free.f]
  have := free_l0 S hS S.length 0 0 (by omega) (by omega)
  rw [List.drop_zero] at this
  simpa using this
end Go.Proofs.Ytekfcbgndjmhnaa.Rf
