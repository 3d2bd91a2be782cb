/- By hand: the contract of script.Decode. Conditions: those it names. -/
import Derived.Test.YtlccjklljlddhaaFnD
namespace Go.Proofs.Ytlccjklljlddhaa.Fn
open Go.RowKit Go.Proofs.Ytlccjklljlddhaa.NL Go.Proofs.YtlccjklljlddhaaW.PrintWords Go.Proofs.YtlccjklljlddhaaW.PrintLast Go.Proofs.YtlccjklljlddhaaW.PrintMore
set_option linter.unusedVariables false
set_option linter.unusedSimpArgs false
/-- What bytes say. -/
def decT (bs : List Nat) (j : Nat) : List S36 := (List.range j).map fun i => saidN ((bs.drop (23 * i)).take 23)
def decN (bs : List Nat) : List S36 := decT bs (bs.length / 23)
theorem decT_succ (bs : List Nat) (j : Nat) : decT bs (j + 1) = decT bs j ++ [saidN ((bs.drop (23 * j)).take 23)] := by simp [decT, List.range_succ]
theorem decT_len (bs : List Nat) (j : Nat) : (decT bs j).length = j := by simp [decT]
theorem drop_C {w : World} {A : Option Addr} {c : Nat} {bs : List Nat} (l : Nat) (hl : l ≤ bs.length) (hc : bs.length ≤ c) (hC : Kd.C (Kd.int .u8) w A (ints bs).length (ints bs)) :
    ∃ A' : Option Addr, (∀ W : World, (Instr.slice 23 (.slice A (ints bs).length c) (some (.int .i64 (l : Int))) none none).run Try.prog W = .ok (.slice A' (bs.length - l) (c - l)) W) ∧
      Kd.C (Kd.int .u8) w A' (ints (bs.drop l)).length (ints (bs.drop l)) := by
  obtain ⟨i0, hi0, _, hsz0, _⟩ := info_parts info5
  obtain ⟨A', h1, h2, h3⟩ := print_drop_of (P := Try.prog) (Value.int .u8) 0 23 5 .i64 Try.underlying23 hi0 hsz0 A c (ints bs) (l : Int) (by omega) (by rw [ints_length]; omega) (by rw [ints_length]; exact hc)
  have e : (ints bs).drop l = ints (bs.drop l) := by rw [ints_drop]
  simp only [Int.toNat_natCast] at h1 h2
  rw [e] at h2
  refine ⟨A', fun W => ?_, Kd.C_of_reads (h1 := fun _ => rfl) (h2 w (Kd.reads_of_C hC))⟩
  rw [h1 W, e, ints_length, List.length_drop]
theorem take_C {w : World} {A : Option Addr} {bs : List Nat} (l : Nat) (hl : l ≤ bs.length) (hC : Kd.C (Kd.int .u8) w A (ints bs).length (ints bs)) : Kd.C (Kd.int .u8) w A (ints (bs.take l)).length (ints (bs.take l)) := by
  rw [ints_take]
  exact Kd.C_take hC (by rw [ints_length]; exact hl)
def lenOf : Value → Nat
  | .slice _ n _ => n
  | _ => 0
set_option maxHeartbeats 2000000 in
set_option maxRecDepth 100000 in
theorem decode_any (bs : List Nat) (hb : ∀ b ∈ bs, b < 256) (hlen : bs.length ≤ 1000000000) (A0 : Option Addr) (c0 : Nat) (hc0 : bs.length ≤ c0) (w : World) (hC : Kd.C (Kd.int .u8) w A0 (ints bs).length (ints bs)) :
    Calls Try.prog 17 #[.slice A0 bs.length c0] w (NewOps w (decN bs)) := by
  replace hC := Lib.hid hC
  replace hb := Lib.hid hb
  go_enter Try.func17, Try.ntmps17
  go_wp2_with fail
  go_loopw [0, 3] (fun y0 y3 wr => ∃ (j n : Nat) (A : Option Addr) (c : Nat), y0 = .slice A n c ∧ Hid (n + 23 * j = bs.length) ∧ n ≤ c ∧ n ≤ 1000000000 ∧ Hid (Kd.C (Kd.int .u8) w A (ints (bs.drop (23 * j))).length (ints (bs.drop (23 * j)))) ∧ Hid (Kd.S k36 36 wr w.heap.size (fun _ => True) y3 (decT bs j)) ∧ Hid (Below w.heap.size w wr)) (fun y0 _ _ => lenOf y0)
  case atStart => exact ⟨0, bs.length, A0, c0, rfl, Lib.hid (by omega), hc0, hlen, hC, Lib.hid (Kd.S_nil _ _ _ _ _), Lib.hid (Below.refl _ _)⟩
  case round =>
    clear hC
    obtain ⟨j, n, A, c, rfl, hn, hnc, hn9, hC, HS, HB⟩ := hrel
    have hdl : (bs.drop (23 * j)).length = n := by rw [List.length_drop]; have := hn.out; omega
    by_cases h23 : 23 ≤ n
    · have hj : Hid (23 * j + 23 ≤ bs.length) := Lib.hid (by have := hn.out; omega)
      have h23i : (23 : Int) ≤ (n : Int) := by omega
      obtain ⟨A', cut, C'⟩ := drop_C 23 (by omega) (by omega) hC.out (c := c)
      rw [ints_length, hdl] at cut
      have cut' : ∀ W : World, (Instr.slice 23 (.slice A n c) (some (.int .i64 23)) none none).run Try.prog W = .ok (.slice A' (n - 23) (c - 23)) W := cut
      have Ct := take_C 23 (by omega) hC.out
      have T := said_any ((bs.drop (23 * j)).take 23) (by rw [List.length_take]; omega) (fun b h => hb.out b (List.mem_of_mem_drop (List.mem_of_mem_take h))) A 23 (by omega) wr (Kd.C_below Ct HB.out)
      have eo := Lib.hid (decT_succ bs j)
      have hxl := Lib.hid (decT_len bs j)
      generalize saidN ((bs.drop (23 * j)).take 23) = o at *
      replace C' : Hid (Kd.C (Kd.int .u8) w A' (ints (bs.drop (23 * (j + 1)))).length (ints (bs.drop (23 * (j + 1))))) := Lib.hid (by rw [show 23 * (j + 1) = 23 * j + 23 by omega, ← List.drop_drop]; exact C')
      replace T := Lib.hid T
      clear cut Ct hdl
      generalize hxs : decT bs j = xs at *
      clear hxs
      go_wp2_with fail
      refine T.out.mono ?_
      rintro e w1 ⟨Ap, cp, rfl, hR, hB1⟩
      have HS1 := Lib.hid (Kd.S_below (Kd.S_bound HS.out) hB1)
      have HB1 := Lib.hid (below_step HB.out hB1)
      have hbs := HB.out.size
      have HR1 := Lib.hid (Kd.R_mono (ok' := fun k => wr.heap.size ≤ k) (Kd.R_lower (Kd.R_bound hR) hbs) (fun k hk => hk.2.1))
      have hlt := Lib.hid (Kd.S_lt HS.out)
      clear hR hB1 T
      go_wp2_with (first | ((with_reducible refine gate_builtin (b := .append) (xs := #[.tmp 7, .tmp 11]) rfl ?_); at_builtin; refine Kd.S_append k36 (w0 := w) w.heap.size rfl (.tmp 7) (.tmp 11) 22 36 (.agg #[(.int .i64 0), (.int .u64 0), (.int .i64 0), (.int .u64 0), (.int .i64 0), (.bool false), (.bool false), (.slice none 0 0)]) 72 rfl Try.underlying22 info36 rfl (by decide) (by omega) u3 xs o [.int .i64 o.f0, .int .u64 o.f1, .int .i64 o.f2, .int .u64 o.f3, .int .i64 o.f4.f0, .bool o.f4.f1, .bool o.f4.f2, .slice Ap o.f5.length cp] (fun _ => True) (fun k => wr.heap.size ≤ k) rfl rfl ?aP ?aQ (fun _ _ => trivial) ?aO HB1.out HB1.out.size ?aL ?_; (case aP => exact k36_mkM _ _ _ _ HR1.out); (case aQ => intro k hk; exact ⟨trivial, fun e => by have := hlt.out k e.symm; omega⟩); (case aO => exact Kd.S_mono HS1.out (fun k hk => ⟨trivial, fun h => by have := hk.2.2.1; omega⟩)); (case aL => have h1 := hxl.out; have h2 := hj.out; omega); intro v9 w9 hS9 hB9 hg9 hn9; have HS9 := Lib.hid hS9; have HB9 := Lib.hid hB9; clear hS9 hB9 hg9 hn9))
      go_roundw
      case rel => exact ⟨j + 1, n - 23, A', c - 23, rfl, Lib.hid (by have := hn.out; omega), by omega, by omega, C', Lib.hid (by rw [eo.out]; exact HS9.out), HB9⟩
      case measure => simp [lenOf] <;> omega
    · have h23i : ¬ (23 : Int) ≤ (n : Int) := by omega
      go_wp2_with fail
      go_ret
      refine ⟨_, rfl, ?_, HB.out⟩
      have : bs.length / 23 = j := by have := hn.out; omega
      unfold decN
      rw [this]
      exact HS.out
end Go.Proofs.Ytlccjklljlddhaa.Fn
