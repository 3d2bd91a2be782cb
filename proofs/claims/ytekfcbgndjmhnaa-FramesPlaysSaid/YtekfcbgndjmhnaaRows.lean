/-
  No cell of these rows narrows 'for every input' (looked for: loops, veiled, ifaces, maps, wideKeys, modest, calm, conditions, laid).
  DERIVED. THE GIVEN ROWS OF THIS SEAT. 6 by the template 'for every input the law returns true; each argument reads behind the call as it read before'; 0 by the template 'total and deterministic' (their statements: YtekfcbgndjmhnaaTotals.lean).
  GIVEN WITH THE SEED: the statements are not yours to turn. If you find one false, say at which input.
  Laid BY PROGRAM, IN A SANDBOX (cutbox-rows.mjs): the forced cells as the released guide's own fill.sh prints them over the translation 5174f35e7221dff3… (all of the seat's roots in one cut). By AI agents, Wed Nov 11 2026. No macro, syntax, notation, axiom, sorry.
-/
import Derived.Test.YtekfcbgndjmhnaaChecked
import GoSem.Claim
import GoSem.ClaimJoined
import GoSem.ClaimMapViews
import Derived.JoinedTies
import Derived.KernelRfl
namespace Go.Proofs.Ytekfcbgndjmhnaa
/- THE CELL 'sum', in the pinned program and in every row, IS THE sha256 OF THE DUMP (.gsa) THAT YtekfcbgndjmhnaaProg.lean LOADS. Nothing in Lean hashes anything: it is a label: what it is worth is what the hold of that sum in a sandbox is worth. -/
noncomputable def Try.pinned : Pinned := { name := "ytekfcbgndjmhnaa", sum := "5174f35e7221dff3a6412d571751192e93d0cb9d856c20a95b1d8ecacc688593", checked := Try.checked }
namespace Rows
def none {H : Type} : Left H := { results := [], args := [] }

/-- 'dormerlaw22.FramesPlays': WHATEVER THE INPUT: true; the input reads as it did. -/
def framesPlaysSpec : ChangeSpec := { name := "framesPlays", fn := fun _ => fun
  | [d1, d2] => { results := [.lit (.bool true)], args := [d1, d2] }
  | _ => none }
def framesPlaysRow : OpenClaim := { program := "ytekfcbgndjmhnaa", sum := "5174f35e7221dff3a6412d571751192e93d0cb9d856c20a95b1d8ecacc688593", func := "dormer/dormerlaw22.FramesPlays", spec := "framesPlays", apart := false }
def FramesPlaysSaid : Prop := framesPlaysRow.holds Try.pinned (OpenSpec.ofChange framesPlaysSpec)

/-- ITS FALSE NEIGHBOUR: 'it returns false'. Refute it at one input. -/
def framesPlaysWrong : ChangeSpec := { name := "framesPlays", fn := fun _ => fun
  | [d1, d2] => { results := [.lit (.bool false)], args := [d1, d2] }
  | _ => none }
def FramesPlaysWrongFalsely : Prop := framesPlaysRow.holds Try.pinned (OpenSpec.ofChange framesPlaysWrong)

/-- 'dormerlaw22.FramesOnce': WHATEVER THE INPUT: true; the input reads as it did. -/
def framesOnceSpec : ChangeSpec := { name := "framesOnce", fn := fun _ => fun
  | [d] => { results := [.lit (.bool true)], args := [d] }
  | _ => none }
def framesOnceRow : OpenClaim := { program := "ytekfcbgndjmhnaa", sum := "5174f35e7221dff3a6412d571751192e93d0cb9d856c20a95b1d8ecacc688593", func := "dormer/dormerlaw22.FramesOnce", spec := "framesOnce", apart := false }
def FramesOnceSaid : Prop := framesOnceRow.holds Try.pinned (OpenSpec.ofChange framesOnceSpec)

/-- ITS FALSE NEIGHBOUR: 'it returns false'. Refute it at one input. -/
def framesOnceWrong : ChangeSpec := { name := "framesOnce", fn := fun _ => fun
  | [d] => { results := [.lit (.bool false)], args := [d] }
  | _ => none }
def FramesOnceWrongFalsely : Prop := framesOnceRow.holds Try.pinned (OpenSpec.ofChange framesOnceWrong)

/-- 'dormerlaw22.FramesBack': WHATEVER THE INPUT: true; the input reads as it did. -/
def framesBackSpec : ChangeSpec := { name := "framesBack", fn := fun _ => fun
  | [d1, d2] => { results := [.lit (.bool true)], args := [d1, d2] }
  | _ => none }
def framesBackRow : OpenClaim := { program := "ytekfcbgndjmhnaa", sum := "5174f35e7221dff3a6412d571751192e93d0cb9d856c20a95b1d8ecacc688593", func := "dormer/dormerlaw22.FramesBack", spec := "framesBack", apart := false }
def FramesBackSaid : Prop := framesBackRow.holds Try.pinned (OpenSpec.ofChange framesBackSpec)

/-- ITS FALSE NEIGHBOUR: 'it returns false'. Refute it at one input. -/
def framesBackWrong : ChangeSpec := { name := "framesBack", fn := fun _ => fun
  | [d1, d2] => { results := [.lit (.bool false)], args := [d1, d2] }
  | _ => none }
def FramesBackWrongFalsely : Prop := framesBackRow.holds Try.pinned (OpenSpec.ofChange framesBackWrong)

/-- 'dormerlaw22.FramesNone': WHATEVER THE INPUT: true; the input reads as it did. -/
def framesNoneSpec : ChangeSpec := { name := "framesNone", fn := fun _ => fun
  | [d1, d2] => { results := [.lit (.bool true)], args := [d1, d2] }
  | _ => none }
def framesNoneRow : OpenClaim := { program := "ytekfcbgndjmhnaa", sum := "5174f35e7221dff3a6412d571751192e93d0cb9d856c20a95b1d8ecacc688593", func := "dormer/dormerlaw22.FramesNone", spec := "framesNone", apart := false }
def FramesNoneSaid : Prop := framesNoneRow.holds Try.pinned (OpenSpec.ofChange framesNoneSpec)

/-- ITS FALSE NEIGHBOUR: 'it returns false'. Refute it at one input. -/
def framesNoneWrong : ChangeSpec := { name := "framesNone", fn := fun _ => fun
  | [d1, d2] => { results := [.lit (.bool false)], args := [d1, d2] }
  | _ => none }
def FramesNoneWrongFalsely : Prop := framesNoneRow.holds Try.pinned (OpenSpec.ofChange framesNoneWrong)

/-- 'dormerlaw22.FramesAll': WHATEVER THE INPUT: true; the input reads as it did. -/
def framesAllSpec : ChangeSpec := { name := "framesAll", fn := fun _ => fun
  | [d1, d2] => { results := [.lit (.bool true)], args := [d1, d2] }
  | _ => none }
def framesAllRow : OpenClaim := { program := "ytekfcbgndjmhnaa", sum := "5174f35e7221dff3a6412d571751192e93d0cb9d856c20a95b1d8ecacc688593", func := "dormer/dormerlaw22.FramesAll", spec := "framesAll", apart := false }
def FramesAllSaid : Prop := framesAllRow.holds Try.pinned (OpenSpec.ofChange framesAllSpec)

/-- ITS FALSE NEIGHBOUR: 'it returns false'. Refute it at one input. -/
def framesAllWrong : ChangeSpec := { name := "framesAll", fn := fun _ => fun
  | [d1, d2] => { results := [.lit (.bool false)], args := [d1, d2] }
  | _ => none }
def FramesAllWrongFalsely : Prop := framesAllRow.holds Try.pinned (OpenSpec.ofChange framesAllWrong)

/-- 'dormerlaw22.FramesCount': WHATEVER THE INPUT: true; the input reads as it did. -/
def framesCountSpec : ChangeSpec := { name := "framesCount", fn := fun _ => fun
  | [d] => { results := [.lit (.bool true)], args := [d] }
  | _ => none }
def framesCountRow : OpenClaim := { program := "ytekfcbgndjmhnaa", sum := "5174f35e7221dff3a6412d571751192e93d0cb9d856c20a95b1d8ecacc688593", func := "dormer/dormerlaw22.FramesCount", spec := "framesCount", apart := false }
def FramesCountSaid : Prop := framesCountRow.holds Try.pinned (OpenSpec.ofChange framesCountSpec)

/-- ITS FALSE NEIGHBOUR: 'it returns false'. Refute it at one input. -/
def framesCountWrong : ChangeSpec := { name := "framesCount", fn := fun _ => fun
  | [d] => { results := [.lit (.bool false)], args := [d] }
  | _ => none }
def FramesCountWrongFalsely : Prop := framesCountRow.holds Try.pinned (OpenSpec.ofChange framesCountWrong)

/- THE SECOND FORM. 'bulk': how many values and letters a reading holds, each counted each time it is reached (what is shared counts as often as it is met; a slice's spare places count too). A statement '..UptoSaid' is the law's where the arguments, and the package variables that the reading takes, are together of bulk at most 1048576: NARROWER than '..Said'. Prove '..Said' where nothing that the law and all that it calls make is longer than what came in: it says more and counts as full. Else prove '..UptoSaid'. A law counts once. -/
mutual
def uptoBulk {H : Type} : DataW H → Nat
  | .lit (.string bytes) => bytes.length + 1
  | .lit _ => 1
  | .nil => 1
  | .ptr d => uptoBulk d + 1
  | .slice elems spare => uptoBulkAll elems + uptoBulkAll spare + 1
  | .agg parts => uptoBulkAll parts + 1
  | .iface _ d => uptoBulk d + 1
  | .map entries => uptoBulkEntries entries + 1
  | .held _ => 1
def uptoBulkAll {H : Type} : List (DataW H) → Nat
  | [] => 0
  | d :: r => uptoBulk d + uptoBulkAll r
def uptoBulkEntries {H : Type} : List (Lit × DataW H) → Nat
  | [] => 0
  | x :: r => uptoBulkEntry x + uptoBulkEntries r
def uptoBulkEntry {H : Type} : Lit × DataW H → Nat
  | (.string bytes, d) => bytes.length + uptoBulk d + 1
  | (_, d) => uptoBulk d + 1
 end
def uptoSmall : (H : Type) → List (DataW H) → Bool := fun _ ds => decide (uptoBulkAll ds ≤ 1048576)
def OpenSpec.upto (s : _root_.Go.ChangeSpec) : _root_.Go.OpenSpec := { _root_.Go.OpenSpec.ofChange s with cond := some uptoSmall }

/-- 'dormerlaw22.FramesPlays', WHERE WHAT IT READS IS OF BULK AT MOST 1048576: true; the input reads as it did. -/
def framesPlaysUptoRow : OpenClaim := { program := "ytekfcbgndjmhnaa", sum := "5174f35e7221dff3a6412d571751192e93d0cb9d856c20a95b1d8ecacc688593", func := "dormer/dormerlaw22.FramesPlays", spec := "framesPlays", apart := false, narrowed := true }
def FramesPlaysUptoSaid : Prop := framesPlaysUptoRow.holds Try.pinned (OpenSpec.upto framesPlaysSpec)

/-- 'dormerlaw22.FramesOnce', WHERE WHAT IT READS IS OF BULK AT MOST 1048576: true; the input reads as it did. -/
def framesOnceUptoRow : OpenClaim := { program := "ytekfcbgndjmhnaa", sum := "5174f35e7221dff3a6412d571751192e93d0cb9d856c20a95b1d8ecacc688593", func := "dormer/dormerlaw22.FramesOnce", spec := "framesOnce", apart := false, narrowed := true }
def FramesOnceUptoSaid : Prop := framesOnceUptoRow.holds Try.pinned (OpenSpec.upto framesOnceSpec)

/-- 'dormerlaw22.FramesBack', WHERE WHAT IT READS IS OF BULK AT MOST 1048576: true; the input reads as it did. -/
def framesBackUptoRow : OpenClaim := { program := "ytekfcbgndjmhnaa", sum := "5174f35e7221dff3a6412d571751192e93d0cb9d856c20a95b1d8ecacc688593", func := "dormer/dormerlaw22.FramesBack", spec := "framesBack", apart := false, narrowed := true }
def FramesBackUptoSaid : Prop := framesBackUptoRow.holds Try.pinned (OpenSpec.upto framesBackSpec)

/-- 'dormerlaw22.FramesNone', WHERE WHAT IT READS IS OF BULK AT MOST 1048576: true; the input reads as it did. -/
def framesNoneUptoRow : OpenClaim := { program := "ytekfcbgndjmhnaa", sum := "5174f35e7221dff3a6412d571751192e93d0cb9d856c20a95b1d8ecacc688593", func := "dormer/dormerlaw22.FramesNone", spec := "framesNone", apart := false, narrowed := true }
def FramesNoneUptoSaid : Prop := framesNoneUptoRow.holds Try.pinned (OpenSpec.upto framesNoneSpec)

/-- 'dormerlaw22.FramesAll', WHERE WHAT IT READS IS OF BULK AT MOST 1048576: true; the input reads as it did. -/
def framesAllUptoRow : OpenClaim := { program := "ytekfcbgndjmhnaa", sum := "5174f35e7221dff3a6412d571751192e93d0cb9d856c20a95b1d8ecacc688593", func := "dormer/dormerlaw22.FramesAll", spec := "framesAll", apart := false, narrowed := true }
def FramesAllUptoSaid : Prop := framesAllUptoRow.holds Try.pinned (OpenSpec.upto framesAllSpec)

/-- 'dormerlaw22.FramesCount', WHERE WHAT IT READS IS OF BULK AT MOST 1048576: true; the input reads as it did. -/
def framesCountUptoRow : OpenClaim := { program := "ytekfcbgndjmhnaa", sum := "5174f35e7221dff3a6412d571751192e93d0cb9d856c20a95b1d8ecacc688593", func := "dormer/dormerlaw22.FramesCount", spec := "framesCount", apart := false, narrowed := true }
def FramesCountUptoSaid : Prop := framesCountUptoRow.holds Try.pinned (OpenSpec.upto framesCountSpec)

end Rows
end Go.Proofs.Ytekfcbgndjmhnaa
