/-
  No cell of these rows narrows 'for every input' (looked for: loops, veiled, ifaces, maps, wideKeys, modest, calm, conditions, laid).
  DERIVED. THE GIVEN ROWS OF THIS SEAT. 12 by the template 'for every input the law returns true; each argument reads behind the call as it read before'; 0 by the template 'total and deterministic' (their statements: YtpbgehgbonilgaaTotals.lean).
  GIVEN WITH THE SEED: the statements are not yours to turn. If you find one false, say at which input.
  Laid BY PROGRAM, IN A SANDBOX (cutbox-rows.mjs): the forced cells as the released guide's own fill.sh prints them over the translation 58cb18b63dcfc153… (all of the seat's roots in one cut). By AI agents, Wed Nov 11 2026. No macro, syntax, notation, axiom, sorry.
-/
import Derived.Test.YtpbgehgbonilgaaChecked
import GoSem.Claim
import GoSem.ClaimJoined
import GoSem.ClaimMapViews
import Derived.JoinedTies
import Derived.KernelRfl
namespace Go.Proofs.Ytpbgehgbonilgaa
/- THE CELL 'sum', in the pinned program and in every row, IS THE sha256 OF THE DUMP (.gsa) THAT YtpbgehgbonilgaaProg.lean LOADS. Nothing in Lean hashes anything: it is a label: what it is worth is what the hold of that sum in a sandbox is worth. -/
noncomputable def Try.pinned : Pinned := { name := "ytpbgehgbonilgaa", sum := "58cb18b63dcfc153abb450b2150147099f2fd03b3bc33f29dab89a9f3efecd9d", checked := Try.checked }
namespace Rows
def none {H : Type} : Left H := { results := [], args := [] }

/-- 'dormerlaw01.FieldGets': WHATEVER THE INPUT: true; the input reads as it did. -/
def fieldGetsSpec : ChangeSpec := { name := "fieldGets", fn := fun _ => fun
  | [d1, d2, d3] => { results := [.lit (.bool true)], args := [d1, d2, d3] }
  | _ => none }
def fieldGetsRow : OpenClaim := { program := "ytpbgehgbonilgaa", sum := "58cb18b63dcfc153abb450b2150147099f2fd03b3bc33f29dab89a9f3efecd9d", func := "dormer/dormerlaw01.FieldGets", spec := "fieldGets", apart := false }
def FieldGetsSaid : Prop := fieldGetsRow.holds Try.pinned (OpenSpec.ofChange fieldGetsSpec)

/-- ITS FALSE NEIGHBOUR: 'it returns false'. Refute it at one input. -/
def fieldGetsWrong : ChangeSpec := { name := "fieldGets", fn := fun _ => fun
  | [d1, d2, d3] => { results := [.lit (.bool false)], args := [d1, d2, d3] }
  | _ => none }
def FieldGetsWrongFalsely : Prop := fieldGetsRow.holds Try.pinned (OpenSpec.ofChange fieldGetsWrong)

/-- 'dormerlaw01.FieldSets': WHATEVER THE INPUT: true; the input reads as it did. -/
def fieldSetsSpec : ChangeSpec := { name := "fieldSets", fn := fun _ => fun
  | [d1, d2, d3] => { results := [.lit (.bool true)], args := [d1, d2, d3] }
  | _ => none }
def fieldSetsRow : OpenClaim := { program := "ytpbgehgbonilgaa", sum := "58cb18b63dcfc153abb450b2150147099f2fd03b3bc33f29dab89a9f3efecd9d", func := "dormer/dormerlaw01.FieldSets", spec := "fieldSets", apart := false }
def FieldSetsSaid : Prop := fieldSetsRow.holds Try.pinned (OpenSpec.ofChange fieldSetsSpec)

/-- ITS FALSE NEIGHBOUR: 'it returns false'. Refute it at one input. -/
def fieldSetsWrong : ChangeSpec := { name := "fieldSets", fn := fun _ => fun
  | [d1, d2, d3] => { results := [.lit (.bool false)], args := [d1, d2, d3] }
  | _ => none }
def FieldSetsWrongFalsely : Prop := fieldSetsRow.holds Try.pinned (OpenSpec.ofChange fieldSetsWrong)

/-- 'dormerlaw01.FieldBack': WHATEVER THE INPUT: true; the input reads as it did. -/
def fieldBackSpec : ChangeSpec := { name := "fieldBack", fn := fun _ => fun
  | [d1, d2, d3] => { results := [.lit (.bool true)], args := [d1, d2, d3] }
  | _ => none }
def fieldBackRow : OpenClaim := { program := "ytpbgehgbonilgaa", sum := "58cb18b63dcfc153abb450b2150147099f2fd03b3bc33f29dab89a9f3efecd9d", func := "dormer/dormerlaw01.FieldBack", spec := "fieldBack", apart := false }
def FieldBackSaid : Prop := fieldBackRow.holds Try.pinned (OpenSpec.ofChange fieldBackSpec)

/-- ITS FALSE NEIGHBOUR: 'it returns false'. Refute it at one input. -/
def fieldBackWrong : ChangeSpec := { name := "fieldBack", fn := fun _ => fun
  | [d1, d2, d3] => { results := [.lit (.bool false)], args := [d1, d2, d3] }
  | _ => none }
def FieldBackWrongFalsely : Prop := fieldBackRow.holds Try.pinned (OpenSpec.ofChange fieldBackWrong)

/-- 'dormerlaw01.FieldApart': WHATEVER THE INPUT: true; the input reads as it did. -/
def fieldApartSpec : ChangeSpec := { name := "fieldApart", fn := fun _ => fun
  | [d1, d2, d3] => { results := [.lit (.bool true)], args := [d1, d2, d3] }
  | _ => none }
def fieldApartRow : OpenClaim := { program := "ytpbgehgbonilgaa", sum := "58cb18b63dcfc153abb450b2150147099f2fd03b3bc33f29dab89a9f3efecd9d", func := "dormer/dormerlaw01.FieldApart", spec := "fieldApart", apart := false }
def FieldApartSaid : Prop := fieldApartRow.holds Try.pinned (OpenSpec.ofChange fieldApartSpec)

/-- ITS FALSE NEIGHBOUR: 'it returns false'. Refute it at one input. -/
def fieldApartWrong : ChangeSpec := { name := "fieldApart", fn := fun _ => fun
  | [d1, d2, d3] => { results := [.lit (.bool false)], args := [d1, d2, d3] }
  | _ => none }
def FieldApartWrongFalsely : Prop := fieldApartRow.holds Try.pinned (OpenSpec.ofChange fieldApartWrong)

/-- 'dormerlaw01.FieldBits': WHATEVER THE INPUT: true; the input reads as it did. -/
def fieldBitsSpec : ChangeSpec := { name := "fieldBits", fn := fun _ => fun
  | [d1, d2, d3] => { results := [.lit (.bool true)], args := [d1, d2, d3] }
  | _ => none }
def fieldBitsRow : OpenClaim := { program := "ytpbgehgbonilgaa", sum := "58cb18b63dcfc153abb450b2150147099f2fd03b3bc33f29dab89a9f3efecd9d", func := "dormer/dormerlaw01.FieldBits", spec := "fieldBits", apart := false }
def FieldBitsSaid : Prop := fieldBitsRow.holds Try.pinned (OpenSpec.ofChange fieldBitsSpec)

/-- ITS FALSE NEIGHBOUR: 'it returns false'. Refute it at one input. -/
def fieldBitsWrong : ChangeSpec := { name := "fieldBits", fn := fun _ => fun
  | [d1, d2, d3] => { results := [.lit (.bool false)], args := [d1, d2, d3] }
  | _ => none }
def FieldBitsWrongFalsely : Prop := fieldBitsRow.holds Try.pinned (OpenSpec.ofChange fieldBitsWrong)

/-- 'dormerlaw01.FieldNone': WHATEVER THE INPUT: true; the input reads as it did. -/
def fieldNoneSpec : ChangeSpec := { name := "fieldNone", fn := fun _ => fun
  | [d1, d2, d3] => { results := [.lit (.bool true)], args := [d1, d2, d3] }
  | _ => none }
def fieldNoneRow : OpenClaim := { program := "ytpbgehgbonilgaa", sum := "58cb18b63dcfc153abb450b2150147099f2fd03b3bc33f29dab89a9f3efecd9d", func := "dormer/dormerlaw01.FieldNone", spec := "fieldNone", apart := false }
def FieldNoneSaid : Prop := fieldNoneRow.holds Try.pinned (OpenSpec.ofChange fieldNoneSpec)

/-- ITS FALSE NEIGHBOUR: 'it returns false'. Refute it at one input. -/
def fieldNoneWrong : ChangeSpec := { name := "fieldNone", fn := fun _ => fun
  | [d1, d2, d3] => { results := [.lit (.bool false)], args := [d1, d2, d3] }
  | _ => none }
def FieldNoneWrongFalsely : Prop := fieldNoneRow.holds Try.pinned (OpenSpec.ofChange fieldNoneWrong)

/-- 'dormerlaw02.WordBack': WHATEVER THE INPUT: true; the input reads as it did. -/
def wordBackSpec : ChangeSpec := { name := "wordBack", fn := fun _ => fun
  | [d1, d2] => { results := [.lit (.bool true)], args := [d1, d2] }
  | _ => none }
def wordBackRow : OpenClaim := { program := "ytpbgehgbonilgaa", sum := "58cb18b63dcfc153abb450b2150147099f2fd03b3bc33f29dab89a9f3efecd9d", func := "dormer/dormerlaw02.WordBack", spec := "wordBack", apart := false }
def WordBackSaid : Prop := wordBackRow.holds Try.pinned (OpenSpec.ofChange wordBackSpec)

/-- ITS FALSE NEIGHBOUR: 'it returns false'. Refute it at one input. -/
def wordBackWrong : ChangeSpec := { name := "wordBack", fn := fun _ => fun
  | [d1, d2] => { results := [.lit (.bool false)], args := [d1, d2] }
  | _ => none }
def WordBackWrongFalsely : Prop := wordBackRow.holds Try.pinned (OpenSpec.ofChange wordBackWrong)

/-- 'dormerlaw02.WordCuts': WHATEVER THE INPUT: true; the input reads as it did. -/
def wordCutsSpec : ChangeSpec := { name := "wordCuts", fn := fun _ => fun
  | [d1, d2, d3] => { results := [.lit (.bool true)], args := [d1, d2, d3] }
  | _ => none }
def wordCutsRow : OpenClaim := { program := "ytpbgehgbonilgaa", sum := "58cb18b63dcfc153abb450b2150147099f2fd03b3bc33f29dab89a9f3efecd9d", func := "dormer/dormerlaw02.WordCuts", spec := "wordCuts", apart := false }
def WordCutsSaid : Prop := wordCutsRow.holds Try.pinned (OpenSpec.ofChange wordCutsSpec)

/-- ITS FALSE NEIGHBOUR: 'it returns false'. Refute it at one input. -/
def wordCutsWrong : ChangeSpec := { name := "wordCuts", fn := fun _ => fun
  | [d1, d2, d3] => { results := [.lit (.bool false)], args := [d1, d2, d3] }
  | _ => none }
def WordCutsWrongFalsely : Prop := wordCutsRow.holds Try.pinned (OpenSpec.ofChange wordCutsWrong)

/-- 'dormerlaw02.WordLays': WHATEVER THE INPUT: true; the input reads as it did. -/
def wordLaysSpec : ChangeSpec := { name := "wordLays", fn := fun _ => fun
  | [d1, d2, d3] => { results := [.lit (.bool true)], args := [d1, d2, d3] }
  | _ => none }
def wordLaysRow : OpenClaim := { program := "ytpbgehgbonilgaa", sum := "58cb18b63dcfc153abb450b2150147099f2fd03b3bc33f29dab89a9f3efecd9d", func := "dormer/dormerlaw02.WordLays", spec := "wordLays", apart := false }
def WordLaysSaid : Prop := wordLaysRow.holds Try.pinned (OpenSpec.ofChange wordLaysSpec)

/-- ITS FALSE NEIGHBOUR: 'it returns false'. Refute it at one input. -/
def wordLaysWrong : ChangeSpec := { name := "wordLays", fn := fun _ => fun
  | [d1, d2, d3] => { results := [.lit (.bool false)], args := [d1, d2, d3] }
  | _ => none }
def WordLaysWrongFalsely : Prop := wordLaysRow.holds Try.pinned (OpenSpec.ofChange wordLaysWrong)

/-- 'dormerlaw02.WordJoins': WHATEVER THE INPUT: true; the input reads as it did. -/
def wordJoinsSpec : ChangeSpec := { name := "wordJoins", fn := fun _ => fun
  | [d1, d2] => { results := [.lit (.bool true)], args := [d1, d2] }
  | _ => none }
def wordJoinsRow : OpenClaim := { program := "ytpbgehgbonilgaa", sum := "58cb18b63dcfc153abb450b2150147099f2fd03b3bc33f29dab89a9f3efecd9d", func := "dormer/dormerlaw02.WordJoins", spec := "wordJoins", apart := false }
def WordJoinsSaid : Prop := wordJoinsRow.holds Try.pinned (OpenSpec.ofChange wordJoinsSpec)

/-- ITS FALSE NEIGHBOUR: 'it returns false'. Refute it at one input. -/
def wordJoinsWrong : ChangeSpec := { name := "wordJoins", fn := fun _ => fun
  | [d1, d2] => { results := [.lit (.bool false)], args := [d1, d2] }
  | _ => none }
def WordJoinsWrongFalsely : Prop := wordJoinsRow.holds Try.pinned (OpenSpec.ofChange wordJoinsWrong)

/-- 'dormerlaw02.WordTells': WHATEVER THE INPUT: true; the input reads as it did. -/
def wordTellsSpec : ChangeSpec := { name := "wordTells", fn := fun _ => fun
  | [d1, d2, d3] => { results := [.lit (.bool true)], args := [d1, d2, d3] }
  | _ => none }
def wordTellsRow : OpenClaim := { program := "ytpbgehgbonilgaa", sum := "58cb18b63dcfc153abb450b2150147099f2fd03b3bc33f29dab89a9f3efecd9d", func := "dormer/dormerlaw02.WordTells", spec := "wordTells", apart := false }
def WordTellsSaid : Prop := wordTellsRow.holds Try.pinned (OpenSpec.ofChange wordTellsSpec)

/-- ITS FALSE NEIGHBOUR: 'it returns false'. Refute it at one input. -/
def wordTellsWrong : ChangeSpec := { name := "wordTells", fn := fun _ => fun
  | [d1, d2, d3] => { results := [.lit (.bool false)], args := [d1, d2, d3] }
  | _ => none }
def WordTellsWrongFalsely : Prop := wordTellsRow.holds Try.pinned (OpenSpec.ofChange wordTellsWrong)

/-- 'dormerlaw02.WordNone': WHATEVER THE INPUT: true; the input reads as it did. -/
def wordNoneSpec : ChangeSpec := { name := "wordNone", fn := fun _ => fun
  | [d1, d2, d3] => { results := [.lit (.bool true)], args := [d1, d2, d3] }
  | _ => none }
def wordNoneRow : OpenClaim := { program := "ytpbgehgbonilgaa", sum := "58cb18b63dcfc153abb450b2150147099f2fd03b3bc33f29dab89a9f3efecd9d", func := "dormer/dormerlaw02.WordNone", spec := "wordNone", apart := false }
def WordNoneSaid : Prop := wordNoneRow.holds Try.pinned (OpenSpec.ofChange wordNoneSpec)

/-- ITS FALSE NEIGHBOUR: 'it returns false'. Refute it at one input. -/
def wordNoneWrong : ChangeSpec := { name := "wordNone", fn := fun _ => fun
  | [d1, d2, d3] => { results := [.lit (.bool false)], args := [d1, d2, d3] }
  | _ => none }
def WordNoneWrongFalsely : Prop := wordNoneRow.holds Try.pinned (OpenSpec.ofChange wordNoneWrong)

/- THE SECOND FORM. 'bulk': how many values and letters a reading holds, each counted each time it is reached (what is shared counts as often as it is met; a slice's spare places count too). A statement '..UptoSaid' is the law's where the arguments, and the package variables that the reading takes, are together of bulk at most 1048576: NARROWER than '..Said'. Prove '..Said' where nothing that the law and all that it calls make is longer than what came in: it says more and counts as full. Else prove '..UptoSaid'. A law counts once. -/
mutual
def uptoBulk {H : Type} : DataW H → Nat
  | .lit (.string bytes) => bytes.length + 1
  | .lit _ => 1
  | .nil => 1
  | .ptr d => uptoBulk d + 1
  | .slice elems spare => uptoBulkAll elems + uptoBulkAll spare + 1
  | .agg parts => uptoBulkAll parts + 1
  | .iface _ d => uptoBulk d + 1
  | .map entries => uptoBulkEntries entries + 1
  | .held _ => 1
def uptoBulkAll {H : Type} : List (DataW H) → Nat
  | [] => 0
  | d :: r => uptoBulk d + uptoBulkAll r
def uptoBulkEntries {H : Type} : List (Lit × DataW H) → Nat
  | [] => 0
  | x :: r => uptoBulkEntry x + uptoBulkEntries r
def uptoBulkEntry {H : Type} : Lit × DataW H → Nat
  | (.string bytes, d) => bytes.length + uptoBulk d + 1
  | (_, d) => uptoBulk d + 1
 end
def uptoSmall : (H : Type) → List (DataW H) → Bool := fun _ ds => decide (uptoBulkAll ds ≤ 1048576)
def OpenSpec.upto (s : _root_.Go.ChangeSpec) : _root_.Go.OpenSpec := { _root_.Go.OpenSpec.ofChange s with cond := some uptoSmall }

/-- 'dormerlaw01.FieldGets', WHERE WHAT IT READS IS OF BULK AT MOST 1048576: true; the input reads as it did. -/
def fieldGetsUptoRow : OpenClaim := { program := "ytpbgehgbonilgaa", sum := "58cb18b63dcfc153abb450b2150147099f2fd03b3bc33f29dab89a9f3efecd9d", func := "dormer/dormerlaw01.FieldGets", spec := "fieldGets", apart := false, narrowed := true }
def FieldGetsUptoSaid : Prop := fieldGetsUptoRow.holds Try.pinned (OpenSpec.upto fieldGetsSpec)

/-- 'dormerlaw01.FieldSets', WHERE WHAT IT READS IS OF BULK AT MOST 1048576: true; the input reads as it did. -/
def fieldSetsUptoRow : OpenClaim := { program := "ytpbgehgbonilgaa", sum := "58cb18b63dcfc153abb450b2150147099f2fd03b3bc33f29dab89a9f3efecd9d", func := "dormer/dormerlaw01.FieldSets", spec := "fieldSets", apart := false, narrowed := true }
def FieldSetsUptoSaid : Prop := fieldSetsUptoRow.holds Try.pinned (OpenSpec.upto fieldSetsSpec)

/-- 'dormerlaw01.FieldBack', WHERE WHAT IT READS IS OF BULK AT MOST 1048576: true; the input reads as it did. -/
def fieldBackUptoRow : OpenClaim := { program := "ytpbgehgbonilgaa", sum := "58cb18b63dcfc153abb450b2150147099f2fd03b3bc33f29dab89a9f3efecd9d", func := "dormer/dormerlaw01.FieldBack", spec := "fieldBack", apart := false, narrowed := true }
def FieldBackUptoSaid : Prop := fieldBackUptoRow.holds Try.pinned (OpenSpec.upto fieldBackSpec)

/-- 'dormerlaw01.FieldApart', WHERE WHAT IT READS IS OF BULK AT MOST 1048576: true; the input reads as it did. -/
def fieldApartUptoRow : OpenClaim := { program := "ytpbgehgbonilgaa", sum := "58cb18b63dcfc153abb450b2150147099f2fd03b3bc33f29dab89a9f3efecd9d", func := "dormer/dormerlaw01.FieldApart", spec := "fieldApart", apart := false, narrowed := true }
def FieldApartUptoSaid : Prop := fieldApartUptoRow.holds Try.pinned (OpenSpec.upto fieldApartSpec)

/-- 'dormerlaw01.FieldBits', WHERE WHAT IT READS IS OF BULK AT MOST 1048576: true; the input reads as it did. -/
def fieldBitsUptoRow : OpenClaim := { program := "ytpbgehgbonilgaa", sum := "58cb18b63dcfc153abb450b2150147099f2fd03b3bc33f29dab89a9f3efecd9d", func := "dormer/dormerlaw01.FieldBits", spec := "fieldBits", apart := false, narrowed := true }
def FieldBitsUptoSaid : Prop := fieldBitsUptoRow.holds Try.pinned (OpenSpec.upto fieldBitsSpec)

/-- 'dormerlaw01.FieldNone', WHERE WHAT IT READS IS OF BULK AT MOST 1048576: true; the input reads as it did. -/
def fieldNoneUptoRow : OpenClaim := { program := "ytpbgehgbonilgaa", sum := "58cb18b63dcfc153abb450b2150147099f2fd03b3bc33f29dab89a9f3efecd9d", func := "dormer/dormerlaw01.FieldNone", spec := "fieldNone", apart := false, narrowed := true }
def FieldNoneUptoSaid : Prop := fieldNoneUptoRow.holds Try.pinned (OpenSpec.upto fieldNoneSpec)

/-- 'dormerlaw02.WordBack', WHERE WHAT IT READS IS OF BULK AT MOST 1048576: true; the input reads as it did. -/
def wordBackUptoRow : OpenClaim := { program := "ytpbgehgbonilgaa", sum := "58cb18b63dcfc153abb450b2150147099f2fd03b3bc33f29dab89a9f3efecd9d", func := "dormer/dormerlaw02.WordBack", spec := "wordBack", apart := false, narrowed := true }
def WordBackUptoSaid : Prop := wordBackUptoRow.holds Try.pinned (OpenSpec.upto wordBackSpec)

/-- 'dormerlaw02.WordCuts', WHERE WHAT IT READS IS OF BULK AT MOST 1048576: true; the input reads as it did. -/
def wordCutsUptoRow : OpenClaim := { program := "ytpbgehgbonilgaa", sum := "58cb18b63dcfc153abb450b2150147099f2fd03b3bc33f29dab89a9f3efecd9d", func := "dormer/dormerlaw02.WordCuts", spec := "wordCuts", apart := false, narrowed := true }
def WordCutsUptoSaid : Prop := wordCutsUptoRow.holds Try.pinned (OpenSpec.upto wordCutsSpec)

/-- 'dormerlaw02.WordLays', WHERE WHAT IT READS IS OF BULK AT MOST 1048576: true; the input reads as it did. -/
def wordLaysUptoRow : OpenClaim := { program := "ytpbgehgbonilgaa", sum := "58cb18b63dcfc153abb450b2150147099f2fd03b3bc33f29dab89a9f3efecd9d", func := "dormer/dormerlaw02.WordLays", spec := "wordLays", apart := false, narrowed := true }
def WordLaysUptoSaid : Prop := wordLaysUptoRow.holds Try.pinned (OpenSpec.upto wordLaysSpec)

/-- 'dormerlaw02.WordJoins', WHERE WHAT IT READS IS OF BULK AT MOST 1048576: true; the input reads as it did. -/
def wordJoinsUptoRow : OpenClaim := { program := "ytpbgehgbonilgaa", sum := "58cb18b63dcfc153abb450b2150147099f2fd03b3bc33f29dab89a9f3efecd9d", func := "dormer/dormerlaw02.WordJoins", spec := "wordJoins", apart := false, narrowed := true }
def WordJoinsUptoSaid : Prop := wordJoinsUptoRow.holds Try.pinned (OpenSpec.upto wordJoinsSpec)

/-- 'dormerlaw02.WordTells', WHERE WHAT IT READS IS OF BULK AT MOST 1048576: true; the input reads as it did. -/
def wordTellsUptoRow : OpenClaim := { program := "ytpbgehgbonilgaa", sum := "58cb18b63dcfc153abb450b2150147099f2fd03b3bc33f29dab89a9f3efecd9d", func := "dormer/dormerlaw02.WordTells", spec := "wordTells", apart := false, narrowed := true }
def WordTellsUptoSaid : Prop := wordTellsUptoRow.holds Try.pinned (OpenSpec.upto wordTellsSpec)

/-- 'dormerlaw02.WordNone', WHERE WHAT IT READS IS OF BULK AT MOST 1048576: true; the input reads as it did. -/
def wordNoneUptoRow : OpenClaim := { program := "ytpbgehgbonilgaa", sum := "58cb18b63dcfc153abb450b2150147099f2fd03b3bc33f29dab89a9f3efecd9d", func := "dormer/dormerlaw02.WordNone", spec := "wordNone", apart := false, narrowed := true }
def WordNoneUptoSaid : Prop := wordNoneUptoRow.holds Try.pinned (OpenSpec.upto wordNoneSpec)

end Rows
end Go.Proofs.Ytpbgehgbonilgaa
