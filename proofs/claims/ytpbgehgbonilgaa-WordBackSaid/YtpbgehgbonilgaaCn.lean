/- The functions of field and word by contracts without conditions: each answers a total function of its arguments. -/
import Derived.Test.YtpbgehgbonilgaaNF
import Derived.Deep.QuietTactic
import Derived.BigQuiet
set_option linter.unusedVariables false
set_option linter.unusedSimpArgs false
namespace Go.Proofs.Ytpbgehgbonilgaa.Cn
open Go.RowKit Go.Proofs.Ytpbgehgbonilgaa.NL Go.Proofs.Ytpbgehgbonilgaa.Fn Go.Proofs.YtpbgehgbonilgaaW.PrintWords Go.Proofs.YtpbgehgbonilgaaW.PrintLast Go.Proofs.YtpbgehgbonilgaaW.PrintMore
/-- For a region that draws: a callee that draws alone. -/
theorem q_of {P : Program} {f : FuncId} {args : Array Value} {w : World} {n : Nat} {v : Value} (h : Calls P f args (w.drewN n) fun e w' => e = .returned v ∧ Drawn0 (w.drewN n) w') :
    Calls P f args (w.drewN n) fun e w'' => e = .returned v ∧ ∃ m, w'' = w.drewN m := h.mono fun _ _ ⟨he, hd⟩ => by
  obtain ⟨m, hm⟩ := hd.out
  exact ⟨he, n + m, by rw [hm, World.drewN_drewN]⟩
theorem q_add {P : Program} {f : FuncId} {args : Array Value} {w : World} {a n : Nat} {v : Value} (h : Calls P f args (w.drewN (a + n)) fun e w' => e = .returned v ∧ Drawn0 (w.drewN (a + n)) w') :
    Calls P f args (w.drewN (a + n)) fun e w'' => e = .returned v ∧ ∃ m, w'' = w.drewN (a + m) := h.mono fun _ _ ⟨he, hd⟩ => by
  obtain ⟨m, hm⟩ := hd.out
  exact ⟨he, n + m, by rw [hm, World.drewN_drewN, Nat.add_assoc]⟩
theorem wu_nonneg (a : Int) : 0 ≤ IntKind.u64.wrap a := by rw [IntKind.wrap_u64]; omega
theorem none_tot (a b : Int) : ∃ r, field_none.f a b = some r := by
  unfold field_none.f
  repeat' split
  all_goals exact ⟨_, rfl⟩
theorem ones_tot (a : Int) : ∃ r, field_ones.f a = some r := by
  unfold field_ones.f
  split
  · exact ⟨_, rfl⟩
  · rw [if_pos (wu_nonneg a)]; exact ⟨_, rfl⟩
theorem mask_tot (a b : Int) : ∃ r, field_Mask.f a b = some r := by
  unfold field_Mask.f
  obtain ⟨r, hr⟩ := none_tot a b
  obtain ⟨q, hq⟩ := ones_tot b
  rw [hr, Option.bind_some]
  split
  · exact ⟨_, rfl⟩
  · rw [hq, Option.bind_some, if_pos (wu_nonneg a)]; exact ⟨_, rfl⟩
theorem get_tot (x a b : Int) : ∃ r, field_Get.f x a b = some r := by
  unfold field_Get.f
  obtain ⟨r, hr⟩ := none_tot a b
  obtain ⟨q, hq⟩ := ones_tot b
  rw [hr, Option.bind_some]
  split
  · exact ⟨_, rfl⟩
  · rw [if_pos (wu_nonneg a), hq, Option.bind_some]; exact ⟨_, rfl⟩
theorem set_tot (x a b v : Int) : ∃ r, field_Set.f x a b v = some r := by
  unfold field_Set.f
  obtain ⟨r, hr⟩ := none_tot a b
  obtain ⟨q, hq⟩ := mask_tot a b
  rw [hr, Option.bind_some]
  split
  · exact ⟨_, rfl⟩
  · rw [hq, Option.bind_some, if_pos (wu_nonneg a)]; exact ⟨_, rfl⟩
def GetI (x a b : Int) : Int := (field_Get.f x a b).getD 0
def SetI (x a b v : Int) : Int := (field_Set.f x a b v).getD 0
theorem get_eq (x a b : Int) : field_Get.f x a b = some (GetI x a b) := by
  obtain ⟨r, hr⟩ := get_tot x a b
  unfold GetI; rw [hr]; rfl
theorem set_eq (x a b v : Int) : field_Set.f x a b v = some (SetI x a b v) := by
  obtain ⟨r, hr⟩ := set_tot x a b v
  unfold SetI; rw [hr]; rfl
theorem getI {x lo n : Nat} (hx : x < 2 ^ 64) (hn : 1 ≤ n) (h : lo + n ≤ 64) : GetI x lo n = ((gN x lo n : Nat) : Int) := by unfold GetI; rw [NF.get hx hn h]; rfl
theorem setI {x lo n v : Nat} (hx : x < 2 ^ 64) (hv : v < 2 ^ 64) (hn : 1 ≤ n) (h : lo + n ≤ 64) : SetI x lo n v = ((sN x lo n v : Nat) : Int) := by unfold SetI; rw [NF.set hx hv hn h]; rfl
theorem get_any (x a b : Int) (w : World) : Calls Try.prog 18 #[.int .u64 x, .int .i64 a, .int .i64 b] w fun e w' => e = .returned (.int .u64 (GetI x a b)) ∧ Drawn0 w w' := field_Get.calls x a b _ w (get_eq x a b)
theorem set_any (x a b v : Int) (w : World) : Calls Try.prog 22 #[.int .u64 x, .int .i64 a, .int .i64 b, .int .u64 v] w fun e w' => e = .returned (.int .u64 (SetI x a b v)) ∧ Drawn0 w w' := field_Set.calls x a b v _ w (set_eq x a b v)
theorem in_tot (a b : Int) : ∃ r, word_in.f a b = some r := by
  unfold word_in.f
  repeat' split
  all_goals exact ⟨_, rfl⟩
theorem cut_tot (x a b : Int) : ∃ r, word_Cut.f x a b = some r := by
  unfold word_Cut.f
  obtain ⟨r, hr⟩ := in_tot a b
  rw [hr, Option.bind_some]
  split
  · rw [get_eq]; exact ⟨_, rfl⟩
  · exact ⟨_, rfl⟩
theorem lay_tot (x a b v : Int) : ∃ r, word_Lay.f x a b v = some r := by
  unfold word_Lay.f
  obtain ⟨r, hr⟩ := in_tot a b
  rw [hr, Option.bind_some]
  split
  · rw [set_eq]; exact ⟨_, rfl⟩
  · exact ⟨_, rfl⟩
def CutI (x a b : Int) : Int := (word_Cut.f x a b).getD 0
def LayI (x a b v : Int) : Int := (word_Lay.f x a b v).getD 0
theorem cut_eq (x a b : Int) : word_Cut.f x a b = some (CutI x a b) := by
  obtain ⟨r, hr⟩ := cut_tot x a b
  unfold CutI; rw [hr]; rfl
theorem lay_eq (x a b v : Int) : word_Lay.f x a b v = some (LayI x a b v) := by
  obtain ⟨r, hr⟩ := lay_tot x a b v
  unfold LayI; rw [hr]; rfl
theorem byte_tot (x a : Int) : ∃ r, word_Byte.f x a = some r := by
  unfold word_Byte.f
  rw [cut_eq]; exact ⟨_, rfl⟩
theorem put_tot (x a b : Int) : ∃ r, word_Put.f x a b = some r := by
  unfold word_Put.f
  rw [lay_eq]; exact ⟨_, rfl⟩
def ByteI (x a : Int) : Int := (word_Byte.f x a).getD 0
def PutI (x a b : Int) : Int := (word_Put.f x a b).getD 0
theorem byte_eq (x a : Int) : word_Byte.f x a = some (ByteI x a) := by
  obtain ⟨r, hr⟩ := byte_tot x a
  unfold ByteI; rw [hr]; rfl
theorem put_eq (x a b : Int) : word_Put.f x a b = some (PutI x a b) := by
  obtain ⟨r, hr⟩ := put_tot x a b
  unfold PutI; rw [hr]; rfl
theorem cutI {x f n : Nat} (hx : x < 2 ^ 64) (hn : 1 ≤ n) (h : f + n ≤ 8) : CutI x f n = ((gN x (8 * f) (8 * n) : Nat) : Int) := by unfold CutI; rw [NF.cut hx hn h]; rfl
theorem layI {x f n v : Nat} (hx : x < 2 ^ 64) (hv : v < 2 ^ 64) (hn : 1 ≤ n) (h : f + n ≤ 8) : LayI x f n v = ((sN x (8 * f) (8 * n) v : Nat) : Int) := by unfold LayI; rw [NF.lay hx hv hn h]; rfl
theorem byteI {x i : Nat} (hx : x < 2 ^ 64) (hi : i < 8) : ByteI x i = ((gN x (8 * i) 8 : Nat) : Int) := by unfold ByteI; rw [NF.byte hx hi]; rfl
theorem putI {x i c : Nat} (hx : x < 2 ^ 64) (hc : c < 256) (hi : i < 8) : PutI x i c = ((sN x (8 * i) 8 c : Nat) : Int) := by unfold PutI; rw [NF.put hx hc hi]; rfl
theorem byteI_bad {x a : Int} (h : a < 0 ∨ 8 ≤ a) : ByteI x a = 0 := by unfold ByteI; rw [NF.byte_bad h]; rfl
theorem putI_bad {x a c : Int} (h : a < 0 ∨ 8 ≤ a) : PutI x a c = x := by unfold PutI; rw [NF.put_bad h]; rfl
theorem cut_any (x a b : Int) (w : World) : Calls Try.prog 29 #[.int .u64 x, .int .i64 a, .int .i64 b] w fun e w' => e = .returned (.int .u64 (CutI x a b)) ∧ Drawn0 w w' := word_Cut.calls x a b _ w (cut_eq x a b)
theorem lay_any (x a b v : Int) (w : World) : Calls Try.prog 31 #[.int .u64 x, .int .i64 a, .int .i64 b, .int .u64 v] w fun e w' => e = .returned (.int .u64 (LayI x a b v)) ∧ Drawn0 w w' := word_Lay.calls x a b v _ w (lay_eq x a b v)
theorem byte_any (x a : Int) (w : World) : Calls Try.prog 33 #[.int .u64 x, .int .i64 a] w fun e w' => e = .returned (.int .u8 (ByteI x a)) ∧ Drawn0 w w' := word_Byte.calls x a _ w (byte_eq x a)
theorem put_any (x a b : Int) (w : World) : Calls Try.prog 37 #[.int .u64 x, .int .i64 a, .int .u8 b] w fun e w' => e = .returned (.int .u64 (PutI x a b)) ∧ Drawn0 w w' := word_Put.calls x a b _ w (put_eq x a b)
end Go.Proofs.Ytpbgehgbonilgaa.Cn
