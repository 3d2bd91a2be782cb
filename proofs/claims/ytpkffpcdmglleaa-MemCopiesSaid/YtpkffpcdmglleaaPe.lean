/- '==' of two pages as one Bool. No walk in it. -/
import Derived.Test.YtpkffpcdmglleaaPg
import Derived.ChangeKeysEq
import Derived.Laws.StructEq
set_option linter.unusedVariables false
set_option linter.unusedSimpArgs false
namespace Go.Proofs.Ytpkffpcdmglleaa.Me
open Go.RowKit Go.Maps
/-- Two rows of numbers agree at every place. -/
def agree (u v : Nat → Int) : List Nat → Bool
  | [] => true
  | i :: r => (u i == v i) && agree u v r
theorem agree_iff (u v : Nat → Int) (l : List Nat) : agree u v l = true ↔ ∀ i ∈ l, u i = v i := by
  induction l with
  | nil => simp [agree]
  | cons i r ih => simp [agree, ih]
theorem info30' : ∃ i, Try.prog.info? 30 = some i := info_of_underlying Try.underlying30
theorem cells30 : Try.prog.cellsOf 30 = 1 := by kernel_rfl
theorem plain30 : Try.prog.plainKey 30 = true := by kernel_rfl
theorem eq_page (w : World) (d : Nat) (xs ys : Array Value) (u v : Nat → Int) (hx : ∀ i, i < 512 → xs[i]? = some (.int .u64 (u i))) (hy : ∀ i, i < 512 → ys[i]? = some (.int .u64 (v i))) :
    (Op.equalIn (d + 2) 82 (.agg xs) (.agg ys)).run Try.prog w = .ok (agree u v (List.range' 0 512)) w := by
  obtain ⟨i30, hi30⟩ := info30'
  rw [Op.equalIn]
  simp only [Sem.run_bind, run_underlying Try.underlying82, Result.andThen_ok, run_sizeOf w hi30, cells30]
  simp only [Std.Legacy.Range.forIn_eq_forIn_range', Std.Legacy.Range.size, Nat.sub_zero, Nat.add_one_sub_one, Nat.div_one, Nat.mul_one]
  have each : ∀ i ∈ List.range' 0 512, i < 512 := fun i hi => by
    have := (List.mem_range'_1.1 hi).2
    omega
  generalize List.range' 0 512 = is at each
  induction is with
  | nil => simp [agree]
  | cons j is ih =>
    have hj := each j (by simp)
    have p1 := run_part_plain (w := w) plain30 (hx j hj)
    have p2 := run_part_plain (w := w) plain30 (hy j hj)
    have p3 := run_equalIn_int (P := Try.prog) w d 30 .u64 .u64 (u j) (v j) Try.underlying30
    simp only [List.forIn_cons, Sem.run_bind, Result.andThen_ok, p1, p2, p3, Sem.run_pure]
    cases hb : (u j == v j) with
    | true =>
      simp only [Bool.not_true, Bool.false_eq_true, if_false, Sem.run_pure, Result.andThen_ok, Sem.run_ite]
      have h2 := ih (fun y hy => each y (by simp [hy]))
      simp only [agree, hb, Bool.true_and]
      exact h2
    | false =>
      simp [agree, hb]
end Go.Proofs.Ytpkffpcdmglleaa.Me
