/-
  No cell of these rows narrows 'for every input' (looked for: loops, veiled, ifaces, maps, wideKeys, modest, calm, conditions, laid).
  DERIVED. THE GIVEN ROWS OF THIS SEAT. 6 by the template 'for every input the law returns true; each argument reads behind the call as it read before'; 0 by the template 'total and deterministic' (their statements: YtpkffpcdmglleaaTotals.lean).
  GIVEN WITH THE SEED: the statements are not yours to turn. If you find one false, say at which input.
  Laid BY PROGRAM, IN A SANDBOX (cutbox-rows.mjs): the forced cells as the released guide's own fill.sh prints them over the translation 6edd38031c2d9a23… (all of the seat's roots in one cut). By AI agents, Wed Nov 11 2026. No macro, syntax, notation, axiom, sorry.
-/
import Derived.Test.YtpkffpcdmglleaaChecked
import GoSem.Claim
import GoSem.ClaimJoined
import GoSem.ClaimMapViews
import Derived.JoinedTies
import Derived.KernelRfl
namespace Go.Proofs.Ytpkffpcdmglleaa
/- THE CELL 'sum', in the pinned program and in every row, IS THE sha256 OF THE DUMP (.gsa) THAT YtpkffpcdmglleaaProg.lean LOADS. Nothing in Lean hashes anything: it is a label: what it is worth is what the hold of that sum in a sandbox is worth. -/
noncomputable def Try.pinned : Pinned := { name := "ytpkffpcdmglleaa", sum := "6edd38031c2d9a2378decfda8d9e0ef2a61516a6c6716d50deb6065a669abfa9", checked := Try.checked }
namespace Rows
def none {H : Type} : Left H := { results := [], args := [] }

/-- 'dormerlaw04.MemPlays': WHATEVER THE INPUT: true; the input reads as it did. -/
def memPlaysSpec : ChangeSpec := { name := "memPlays", fn := fun _ => fun
  | [d1, d2] => { results := [.lit (.bool true)], args := [d1, d2] }
  | _ => none }
def memPlaysRow : OpenClaim := { program := "ytpkffpcdmglleaa", sum := "6edd38031c2d9a2378decfda8d9e0ef2a61516a6c6716d50deb6065a669abfa9", func := "dormer/dormerlaw04.MemPlays", spec := "memPlays", apart := false }
def MemPlaysSaid : Prop := memPlaysRow.holds Try.pinned (OpenSpec.ofChange memPlaysSpec)

/-- ITS FALSE NEIGHBOUR: 'it returns false'. Refute it at one input. -/
def memPlaysWrong : ChangeSpec := { name := "memPlays", fn := fun _ => fun
  | [d1, d2] => { results := [.lit (.bool false)], args := [d1, d2] }
  | _ => none }
def MemPlaysWrongFalsely : Prop := memPlaysRow.holds Try.pinned (OpenSpec.ofChange memPlaysWrong)

/-- 'dormerlaw04.MemWords': WHATEVER THE INPUT: true; the input reads as it did. -/
def memWordsSpec : ChangeSpec := { name := "memWords", fn := fun _ => fun
  | [d1, d2, d3] => { results := [.lit (.bool true)], args := [d1, d2, d3] }
  | _ => none }
def memWordsRow : OpenClaim := { program := "ytpkffpcdmglleaa", sum := "6edd38031c2d9a2378decfda8d9e0ef2a61516a6c6716d50deb6065a669abfa9", func := "dormer/dormerlaw04.MemWords", spec := "memWords", apart := false }
def MemWordsSaid : Prop := memWordsRow.holds Try.pinned (OpenSpec.ofChange memWordsSpec)

/-- ITS FALSE NEIGHBOUR: 'it returns false'. Refute it at one input. -/
def memWordsWrong : ChangeSpec := { name := "memWords", fn := fun _ => fun
  | [d1, d2, d3] => { results := [.lit (.bool false)], args := [d1, d2, d3] }
  | _ => none }
def MemWordsWrongFalsely : Prop := memWordsRow.holds Try.pinned (OpenSpec.ofChange memWordsWrong)

/-- 'dormerlaw04.MemBytes': WHATEVER THE INPUT: true; the input reads as it did. -/
def memBytesSpec : ChangeSpec := { name := "memBytes", fn := fun _ => fun
  | [d1, d2, d3] => { results := [.lit (.bool true)], args := [d1, d2, d3] }
  | _ => none }
def memBytesRow : OpenClaim := { program := "ytpkffpcdmglleaa", sum := "6edd38031c2d9a2378decfda8d9e0ef2a61516a6c6716d50deb6065a669abfa9", func := "dormer/dormerlaw04.MemBytes", spec := "memBytes", apart := false }
def MemBytesSaid : Prop := memBytesRow.holds Try.pinned (OpenSpec.ofChange memBytesSpec)

/-- ITS FALSE NEIGHBOUR: 'it returns false'. Refute it at one input. -/
def memBytesWrong : ChangeSpec := { name := "memBytes", fn := fun _ => fun
  | [d1, d2, d3] => { results := [.lit (.bool false)], args := [d1, d2, d3] }
  | _ => none }
def MemBytesWrongFalsely : Prop := memBytesRow.holds Try.pinned (OpenSpec.ofChange memBytesWrong)

/-- 'dormerlaw04.MemEdges': WHATEVER THE INPUT: true; the input reads as it did. -/
def memEdgesSpec : ChangeSpec := { name := "memEdges", fn := fun _ => fun
  | [d1, d2, d3] => { results := [.lit (.bool true)], args := [d1, d2, d3] }
  | _ => none }
def memEdgesRow : OpenClaim := { program := "ytpkffpcdmglleaa", sum := "6edd38031c2d9a2378decfda8d9e0ef2a61516a6c6716d50deb6065a669abfa9", func := "dormer/dormerlaw04.MemEdges", spec := "memEdges", apart := false }
def MemEdgesSaid : Prop := memEdgesRow.holds Try.pinned (OpenSpec.ofChange memEdgesSpec)

/-- ITS FALSE NEIGHBOUR: 'it returns false'. Refute it at one input. -/
def memEdgesWrong : ChangeSpec := { name := "memEdges", fn := fun _ => fun
  | [d1, d2, d3] => { results := [.lit (.bool false)], args := [d1, d2, d3] }
  | _ => none }
def MemEdgesWrongFalsely : Prop := memEdgesRow.holds Try.pinned (OpenSpec.ofChange memEdgesWrong)

/-- 'dormerlaw04.MemDiffs': WHATEVER THE INPUT: true; the input reads as it did. -/
def memDiffsSpec : ChangeSpec := { name := "memDiffs", fn := fun _ => fun
  | [d1, d2] => { results := [.lit (.bool true)], args := [d1, d2] }
  | _ => none }
def memDiffsRow : OpenClaim := { program := "ytpkffpcdmglleaa", sum := "6edd38031c2d9a2378decfda8d9e0ef2a61516a6c6716d50deb6065a669abfa9", func := "dormer/dormerlaw04.MemDiffs", spec := "memDiffs", apart := false }
def MemDiffsSaid : Prop := memDiffsRow.holds Try.pinned (OpenSpec.ofChange memDiffsSpec)

/-- ITS FALSE NEIGHBOUR: 'it returns false'. Refute it at one input. -/
def memDiffsWrong : ChangeSpec := { name := "memDiffs", fn := fun _ => fun
  | [d1, d2] => { results := [.lit (.bool false)], args := [d1, d2] }
  | _ => none }
def MemDiffsWrongFalsely : Prop := memDiffsRow.holds Try.pinned (OpenSpec.ofChange memDiffsWrong)

/-- 'dormerlaw04.MemCopies': WHATEVER THE INPUT: true; the input reads as it did. -/
def memCopiesSpec : ChangeSpec := { name := "memCopies", fn := fun _ => fun
  | [d1, d2, d3] => { results := [.lit (.bool true)], args := [d1, d2, d3] }
  | _ => none }
def memCopiesRow : OpenClaim := { program := "ytpkffpcdmglleaa", sum := "6edd38031c2d9a2378decfda8d9e0ef2a61516a6c6716d50deb6065a669abfa9", func := "dormer/dormerlaw04.MemCopies", spec := "memCopies", apart := false }
def MemCopiesSaid : Prop := memCopiesRow.holds Try.pinned (OpenSpec.ofChange memCopiesSpec)

/-- ITS FALSE NEIGHBOUR: 'it returns false'. Refute it at one input. -/
def memCopiesWrong : ChangeSpec := { name := "memCopies", fn := fun _ => fun
  | [d1, d2, d3] => { results := [.lit (.bool false)], args := [d1, d2, d3] }
  | _ => none }
def MemCopiesWrongFalsely : Prop := memCopiesRow.holds Try.pinned (OpenSpec.ofChange memCopiesWrong)

/- THE SECOND FORM. 'bulk': how many values and letters a reading holds, each counted each time it is reached (what is shared counts as often as it is met; a slice's spare places count too). A statement '..UptoSaid' is the law's where the arguments, and the package variables that the reading takes, are together of bulk at most 1048576: NARROWER than '..Said'. Prove '..Said' where nothing that the law and all that it calls make is longer than what came in: it says more and counts as full. Else prove '..UptoSaid'. A law counts once. -/
mutual
def uptoBulk {H : Type} : DataW H → Nat
  | .lit (.string bytes) => bytes.length + 1
  | .lit _ => 1
  | .nil => 1
  | .ptr d => uptoBulk d + 1
  | .slice elems spare => uptoBulkAll elems + uptoBulkAll spare + 1
  | .agg parts => uptoBulkAll parts + 1
  | .iface _ d => uptoBulk d + 1
  | .map entries => uptoBulkEntries entries + 1
  | .held _ => 1
def uptoBulkAll {H : Type} : List (DataW H) → Nat
  | [] => 0
  | d :: r => uptoBulk d + uptoBulkAll r
def uptoBulkEntries {H : Type} : List (Lit × DataW H) → Nat
  | [] => 0
  | x :: r => uptoBulkEntry x + uptoBulkEntries r
def uptoBulkEntry {H : Type} : Lit × DataW H → Nat
  | (.string bytes, d) => bytes.length + uptoBulk d + 1
  | (_, d) => uptoBulk d + 1
 end
def uptoSmall : (H : Type) → List (DataW H) → Bool := fun _ ds => decide (uptoBulkAll ds ≤ 1048576)
def OpenSpec.upto (s : _root_.Go.ChangeSpec) : _root_.Go.OpenSpec := { _root_.Go.OpenSpec.ofChange s with cond := some uptoSmall }

/-- 'dormerlaw04.MemPlays', WHERE WHAT IT READS IS OF BULK AT MOST 1048576: true; the input reads as it did. -/
def memPlaysUptoRow : OpenClaim := { program := "ytpkffpcdmglleaa", sum := "6edd38031c2d9a2378decfda8d9e0ef2a61516a6c6716d50deb6065a669abfa9", func := "dormer/dormerlaw04.MemPlays", spec := "memPlays", apart := false, narrowed := true }
def MemPlaysUptoSaid : Prop := memPlaysUptoRow.holds Try.pinned (OpenSpec.upto memPlaysSpec)

/-- 'dormerlaw04.MemWords', WHERE WHAT IT READS IS OF BULK AT MOST 1048576: true; the input reads as it did. -/
def memWordsUptoRow : OpenClaim := { program := "ytpkffpcdmglleaa", sum := "6edd38031c2d9a2378decfda8d9e0ef2a61516a6c6716d50deb6065a669abfa9", func := "dormer/dormerlaw04.MemWords", spec := "memWords", apart := false, narrowed := true }
def MemWordsUptoSaid : Prop := memWordsUptoRow.holds Try.pinned (OpenSpec.upto memWordsSpec)

/-- 'dormerlaw04.MemBytes', WHERE WHAT IT READS IS OF BULK AT MOST 1048576: true; the input reads as it did. -/
def memBytesUptoRow : OpenClaim := { program := "ytpkffpcdmglleaa", sum := "6edd38031c2d9a2378decfda8d9e0ef2a61516a6c6716d50deb6065a669abfa9", func := "dormer/dormerlaw04.MemBytes", spec := "memBytes", apart := false, narrowed := true }
def MemBytesUptoSaid : Prop := memBytesUptoRow.holds Try.pinned (OpenSpec.upto memBytesSpec)

/-- 'dormerlaw04.MemEdges', WHERE WHAT IT READS IS OF BULK AT MOST 1048576: true; the input reads as it did. -/
def memEdgesUptoRow : OpenClaim := { program := "ytpkffpcdmglleaa", sum := "6edd38031c2d9a2378decfda8d9e0ef2a61516a6c6716d50deb6065a669abfa9", func := "dormer/dormerlaw04.MemEdges", spec := "memEdges", apart := false, narrowed := true }
def MemEdgesUptoSaid : Prop := memEdgesUptoRow.holds Try.pinned (OpenSpec.upto memEdgesSpec)

/-- 'dormerlaw04.MemDiffs', WHERE WHAT IT READS IS OF BULK AT MOST 1048576: true; the input reads as it did. -/
def memDiffsUptoRow : OpenClaim := { program := "ytpkffpcdmglleaa", sum := "6edd38031c2d9a2378decfda8d9e0ef2a61516a6c6716d50deb6065a669abfa9", func := "dormer/dormerlaw04.MemDiffs", spec := "memDiffs", apart := false, narrowed := true }
def MemDiffsUptoSaid : Prop := memDiffsUptoRow.holds Try.pinned (OpenSpec.upto memDiffsSpec)

/-- 'dormerlaw04.MemCopies', WHERE WHAT IT READS IS OF BULK AT MOST 1048576: true; the input reads as it did. -/
def memCopiesUptoRow : OpenClaim := { program := "ytpkffpcdmglleaa", sum := "6edd38031c2d9a2378decfda8d9e0ef2a61516a6c6716d50deb6065a669abfa9", func := "dormer/dormerlaw04.MemCopies", spec := "memCopies", apart := false, narrowed := true }
def MemCopiesUptoSaid : Prop := memCopiesUptoRow.holds Try.pinned (OpenSpec.upto memCopiesSpec)

end Rows
end Go.Proofs.Ytpkffpcdmglleaa
