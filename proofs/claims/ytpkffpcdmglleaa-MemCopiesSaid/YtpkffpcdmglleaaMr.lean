/- A memory behind deeds: the law's run; and the contracts of what reads and writes, told of its words. Conditions: those each contract names. -/
import Derived.Test.YtpkffpcdmglleaaMp
import Derived.Test.YtpkffpcdmglleaaOd
set_option linter.unusedVariables false
set_option linter.unusedSimpArgs false
namespace Go.Proofs.Ytpkffpcdmglleaa.Me
open Go.RowKit Go.Maps Go.Proofs.YtpkffpcdmglleaaW.PrintWords Go.Proofs.YtpkffpcdmglleaaW.PrintMore
variable {base : Nat} {w : World} {g mp bits i : Nat} {m : Wt}
theorem Mem.le (h : Mem base w g mp bits i m) : base ≤ w.heap.size := by
  obtain ⟨pg, N, A, c, h, hN, hT⟩ := h
  exact Nat.le_trans h.gm.2.1 (Nat.le_of_lt (blk_lt h.blk))
theorem Mem.fits (h : Mem base w g mp bits i m) (s : Nat) : m.wd s < 18446744073709551616 := by
  obtain ⟨pg, N, A, c, h, hN, hT⟩ := h
  exact h.fits s
theorem Mem.peek (h : Mem base w g mp bits i m) (hb : bits ≤ 22) (a : Nat) (ha : a < 2 ^ bits) (h8 : a % 8 = 0) : Calls Try.prog 17 #[.pointer (some ⟨g, 0, none⟩), .int .u64 (a : Int)] w fun e w' => e = .returned (.tuple #[.int .u64 (m.wd (a / 8) : Int), .int .i64 0]) ∧ w = w' := by
  obtain ⟨pg, N, A, c, h, hN, hT⟩ := h
  exact peek_ok h hb a ha h8
theorem Mem.get (h : Mem base w g mp bits i m) (hb : bits ≤ 22) (a : Nat) (ha : a < 2 ^ bits) : Calls Try.prog 20 #[.pointer (some ⟨g, 0, none⟩), .int .u64 (a : Int)] w fun e w' => e = .returned (.tuple #[.int .u8 ((NL.gN (m.wd (a / 8)) (8 * (a % 8)) 8 : Nat) : Int), .int .i64 0]) ∧ Drawn0 w w' := by
  obtain ⟨pg, N, A, c, h, hN, hT⟩ := h
  exact get_ok h hb a ha _ (NF.byte (h.fits _) (by omega))
theorem Mem.load (h : Mem base w g mp bits i m) (hb : bits ≤ 22) (a : Nat) (ha : a < 2 ^ bits) (h8 : a % 8 = 0) (hi : i < 1000) : Calls Try.prog 19 #[.pointer (some ⟨g, 0, none⟩), .int .u64 (a : Int)] w fun e w' =>
    e = .returned (.tuple #[.int .u64 (m.wd (a / 8) : Int), .int .i64 0]) ∧ Mem base w' g mp bits (i + 1) ⟨m.wd, m.tr ++ [(a : Int)]⟩ ∧ ∀ b0, b0 ≤ base → Below b0 w w' := by
  obtain ⟨pg, N, A, c, h, hN, hT⟩ := h
  refine (load_ok h hb a ha h8 (by omega)).mono ?_
  rintro e w1 ⟨rfl, A1, c1, M1, _, b1⟩
  exact ⟨rfl, ⟨pg, N, A1, c1, M1, by omega, by simp; omega⟩, b1⟩
theorem Mem.store (h : Mem base w g mp bits i m) (hb : bits ≤ 22) (a x : Nat) (ha : a < 2 ^ bits) (h8 : a % 8 = 0) (hx : x < 18446744073709551616) (hi : i < 1000) : Calls Try.prog 18 #[.pointer (some ⟨g, 0, none⟩), .int .u64 (a : Int), .int .u64 (x : Int)] w fun e w' =>
    e = .returned (.int .i64 0) ∧ Mem base w' g mp bits (i + 1) ⟨Me.put m.wd (a / 8) x, m.tr⟩ ∧ ∀ b0, b0 ≤ base → Below b0 w w' := by
  obtain ⟨pg, N, A, c, h, hN, hT⟩ := h
  refine (store_ok h hb a x ha h8 hx (by omega)).mono ?_
  rintro e w1 ⟨rfl, pg1, M1, _, _, b1⟩
  exact ⟨rfl, ⟨pg1, N + 1, A, c, M1, by omega, by show m.tr.length ≤ _; omega⟩, b1⟩
theorem Mem.put (h : Mem base w g mp bits i m) (hb : bits ≤ 22) (a x : Nat) (ha : a < 2 ^ bits) (hx : x < 256) (hi : i < 1000) : Calls Try.prog 22 #[.pointer (some ⟨g, 0, none⟩), .int .u64 (a : Int), .int .u8 (x : Int)] w fun e w' =>
    e = .returned (.int .i64 0) ∧ Mem base w' g mp bits (i + 1) ⟨Me.put m.wd (a / 8) (NL.sN (m.wd (a / 8)) (8 * (a % 8)) 8 x), m.tr⟩ ∧ ∀ b0, b0 ≤ base → Below b0 w w' := by
  obtain ⟨pg, N, A, c, h, hN, hT⟩ := h
  refine (put_ok h hb a _ (x : Int) ha (NF.put (h.fits _) hx (by omega)) (NL.sN_lt (by omega) (h.fits _)) (by omega)).mono ?_
  rintro e w1 ⟨rfl, pg1, M1, _, _, b1⟩
  exact ⟨rfl, ⟨pg1, N + 1, A, c, M1, by omega, by show m.tr.length ≤ _; omega⟩, b1⟩
/-- What deeds leave. -/
def runs (bits : Nat) (l : List Od.Deed) : Wt := l.foldl (fun m d => (did bits m d.k d.q d.x).m) ⟨fun _ => 0, []⟩
theorem runs_snoc (bits : Nat) (l : List Od.Deed) (d : Od.Deed) : runs bits (l ++ [d]) = (did bits (runs bits l) d.k d.q d.x).m := by simp [runs, List.foldl_append]
theorem take_snoc {α : Type} {l : List α} {i : Nat} {d : α} (h : l[i]? = some d) : l.take (i + 1) = l.take i ++ [d] := by
  rw [List.take_add_one, h]
  rfl
/-- The post of run. -/
def Ran (w : World) (dl : List Od.Deed) (e : Ending) (w' : World) : Prop :=
  e = .returned (.pointer (some ⟨w.heap.size + 1, 0, none⟩)) ∧ Mem w.heap.size w' (w.heap.size + 1) w.heap.size 16 120 (runs 16 (dl.take 120)) ∧ Below w.heap.size w w'
set_option maxHeartbeats 400000 in
set_option maxRecDepth 100000 in
theorem run_any (dl : List Od.Deed) (a : Option Addr) (cap : Nat) (w : World) (hlen : dl.length < 9223372036854775808) (hc : Od.Cells w a dl) : Calls Try.prog 16 #[.slice a dl.length cap] w (Ran w dl) := by
  replace hc := Lib.hid hc
  go_enter Try.func16, Try.ntmps16
  go_wp2_with fail
  refine (new_ok 16 w (by decide) (by decide)).mono ?_
  rintro e w1 ⟨rfl, M1, B1⟩
  have HM : Hid (Mem w.heap.size w1 (w.heap.size + 1) w.heap.size 16 0 (runs 16 [])) := Lib.hid ⟨_, _, _, _, M1, by omega, by simp [runs]⟩
  replace B1 := Lib.hid B1
  clear M1
  generalize hg : w.heap.size + 1 = g at *
  go_wp2_with fail
  go_loopw [4] (fun y wr => ∃ (i : Nat), y = .int .i64 (i : Int) ∧ i ≤ dl.length ∧ i ≤ 120 ∧ Hid (Mem w.heap.size wr g w.heap.size 16 i (runs 16 (dl.take i))) ∧ Hid (Below w.heap.size w wr)) (fun y _ => 120 - (intOf y).toNat)
  case atStart => exact ⟨0, rfl, by omega, by omega, HM, B1⟩
  case round =>
    clear HM B1
    obtain ⟨i, rfl, hi1, hi2, HM, HB⟩ := hrel
    by_cases hlt : i < dl.length
    · by_cases h120 : i < 120
      · have hlt2 : (i : Int) < (dl.length : Int) := by omega
        have h1202 : (i : Int) < 120 := by omega
        have hd := Lib.hid (List.getElem?_eq_getElem hlt)
        generalize dl[i] = d at *
        obtain ⟨q1, q2, q3, q4, x, rfl, c0, c1, c2⟩ := (hc.out.below HB.out) i d hd.out
        have T := Lib.hid (pair_any HM.out (by decide) d.k d.q d.x q1 q2 (by omega))
        go_wp2_with fail
        refine T.out.mono ?_
        rintro e w2 ⟨rfl, M2, b2⟩
        replace M2 : Hid (Mem w.heap.size w2 g w.heap.size 16 (i + 1) (runs 16 (dl.take (i + 1)))) := Lib.hid (by rw [take_snoc hd.out, runs_snoc]; exact M2)
        replace b2 := Lib.hid (HB.out.trans (b2 _ (Nat.le_refl _)))
        clear T HM HB c0 c1 c2
        go_wp2_with fail
        go_roundw
        case rel => exact ⟨i + 1, by go_num, by omega, by omega, M2, b2⟩
        case measure => simp [intOf]; omega
      · have h1202 : ¬ (i : Int) < 120 := by omega
        have hlt2 : (i : Int) < (dl.length : Int) := by omega
        go_wp2_with fail
        go_ret
        subst hg
        refine ⟨rfl, ?_, HB.out⟩
        rw [show (120 : Nat) = i by omega]
        exact HM.out
    · have hlt2 : ¬ (i : Int) < (dl.length : Int) := by omega
      go_wp2_with fail
      go_ret
      subst hg
      refine ⟨rfl, ?_, HB.out⟩
      have e1 : dl.take 120 = dl.take i := by rw [List.take_of_length_le (by omega), List.take_of_length_le (by omega)]
      rw [e1]
      exact HM.out.mono hi2
end Go.Proofs.Ytpkffpcdmglleaa.Me
