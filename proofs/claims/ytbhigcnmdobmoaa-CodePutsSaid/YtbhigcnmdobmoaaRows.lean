/-
  No cell of these rows narrows 'for every input' (looked for: loops, veiled, ifaces, maps, wideKeys, modest, calm, conditions, laid).
  DERIVED. THE GIVEN ROWS OF THIS SEAT. 8 by the template 'for every input the law returns true; each argument reads behind the call as it read before'; 0 by the template 'total and deterministic' (their statements: YtbhigcnmdobmoaaTotals.lean).
  GIVEN WITH THE SEED: the statements are not yours to turn. If you find one false, say at which input.
  Laid BY PROGRAM, IN A SANDBOX (cutbox-rows.mjs): the forced cells as the released guide's own fill.sh prints them over the translation a6db4a63d8260946… (all of the seat's roots in one cut). By AI agents, Wed Nov 11 2026. No macro, syntax, notation, axiom, sorry.
-/
import Derived.Test.YtbhigcnmdobmoaaChecked
import GoSem.Claim
import GoSem.ClaimJoined
import GoSem.ClaimMapViews
import Derived.JoinedTies
import Derived.KernelRfl
namespace Go.Proofs.Ytbhigcnmdobmoaa
/- THE CELL 'sum', in the pinned program and in every row, IS THE sha256 OF THE DUMP (.gsa) THAT YtbhigcnmdobmoaaProg.lean LOADS. Nothing in Lean hashes anything: it is a label: what it is worth is what the hold of that sum in a sandbox is worth. -/
noncomputable def Try.pinned : Pinned := { name := "ytbhigcnmdobmoaa", sum := "a6db4a63d8260946cc4505ac16ea3925c618ba9a774cb4158a5858475adf09d8", checked := Try.checked }
namespace Rows
def none {H : Type} : Left H := { results := [], args := [] }

/-- 'equerrylaw05.EventSame': WHATEVER THE INPUT: true; the input reads as it did. -/
def eventSameSpec : ChangeSpec := { name := "eventSame", fn := fun _ => fun
  | [d1, d2] => { results := [.lit (.bool true)], args := [d1, d2] }
  | _ => none }
def eventSameRow : OpenClaim := { program := "ytbhigcnmdobmoaa", sum := "a6db4a63d8260946cc4505ac16ea3925c618ba9a774cb4158a5858475adf09d8", func := "equerry/equerrylaw05.EventSame", spec := "eventSame", inPlace := ["math.Float64frombits", "math.Float64bits"], unfollowed := true, recurses := true, apart := false }
def EventSameSaid : Prop := eventSameRow.holds Try.pinned (OpenSpec.ofChange eventSameSpec)

/-- ITS FALSE NEIGHBOUR: 'it returns false'. Refute it at one input. -/
def eventSameWrong : ChangeSpec := { name := "eventSame", fn := fun _ => fun
  | [d1, d2] => { results := [.lit (.bool false)], args := [d1, d2] }
  | _ => none }
def EventSameWrongFalsely : Prop := eventSameRow.holds Try.pinned (OpenSpec.ofChange eventSameWrong)

/-- 'equerrylaw05.EventGets': WHATEVER THE INPUT: true; the input reads as it did. -/
def eventGetsSpec : ChangeSpec := { name := "eventGets", fn := fun _ => fun
  | [d1, d2] => { results := [.lit (.bool true)], args := [d1, d2] }
  | _ => none }
def eventGetsRow : OpenClaim := { program := "ytbhigcnmdobmoaa", sum := "a6db4a63d8260946cc4505ac16ea3925c618ba9a774cb4158a5858475adf09d8", func := "equerry/equerrylaw05.EventGets", spec := "eventGets", inPlace := ["math.Float64bits", "math.Float64frombits"], unfollowed := true, recurses := true, apart := false }
def EventGetsSaid : Prop := eventGetsRow.holds Try.pinned (OpenSpec.ofChange eventGetsSpec)

/-- ITS FALSE NEIGHBOUR: 'it returns false'. Refute it at one input. -/
def eventGetsWrong : ChangeSpec := { name := "eventGets", fn := fun _ => fun
  | [d1, d2] => { results := [.lit (.bool false)], args := [d1, d2] }
  | _ => none }
def EventGetsWrongFalsely : Prop := eventGetsRow.holds Try.pinned (OpenSpec.ofChange eventGetsWrong)

/-- 'equerrylaw05.EventPuts': WHATEVER THE INPUT: true; the input reads as it did. -/
def eventPutsSpec : ChangeSpec := { name := "eventPuts", fn := fun _ => fun
  | [d1, d2] => { results := [.lit (.bool true)], args := [d1, d2] }
  | _ => none }
def eventPutsRow : OpenClaim := { program := "ytbhigcnmdobmoaa", sum := "a6db4a63d8260946cc4505ac16ea3925c618ba9a774cb4158a5858475adf09d8", func := "equerry/equerrylaw05.EventPuts", spec := "eventPuts", inPlace := ["math.Float64frombits", "math.Float64bits"], unfollowed := true, recurses := true, apart := false }
def EventPutsSaid : Prop := eventPutsRow.holds Try.pinned (OpenSpec.ofChange eventPutsSpec)

/-- ITS FALSE NEIGHBOUR: 'it returns false'. Refute it at one input. -/
def eventPutsWrong : ChangeSpec := { name := "eventPuts", fn := fun _ => fun
  | [d1, d2] => { results := [.lit (.bool false)], args := [d1, d2] }
  | _ => none }
def EventPutsWrongFalsely : Prop := eventPutsRow.holds Try.pinned (OpenSpec.ofChange eventPutsWrong)

/-- 'equerrylaw05.EventWrites': WHATEVER THE INPUT: true; the input reads as it did. -/
def eventWritesSpec : ChangeSpec := { name := "eventWrites", fn := fun _ => fun
  | [d1, d2, d3, d4] => { results := [.lit (.bool true)], args := [d1, d2, d3, d4] }
  | _ => none }
def eventWritesRow : OpenClaim := { program := "ytbhigcnmdobmoaa", sum := "a6db4a63d8260946cc4505ac16ea3925c618ba9a774cb4158a5858475adf09d8", func := "equerry/equerrylaw05.EventWrites", spec := "eventWrites", inPlace := ["math.Float64frombits", "math.Float64bits"], unfollowed := true, recurses := true, apart := false }
def EventWritesSaid : Prop := eventWritesRow.holds Try.pinned (OpenSpec.ofChange eventWritesSpec)

/-- ITS FALSE NEIGHBOUR: 'it returns false'. Refute it at one input. -/
def eventWritesWrong : ChangeSpec := { name := "eventWrites", fn := fun _ => fun
  | [d1, d2, d3, d4] => { results := [.lit (.bool false)], args := [d1, d2, d3, d4] }
  | _ => none }
def EventWritesWrongFalsely : Prop := eventWritesRow.holds Try.pinned (OpenSpec.ofChange eventWritesWrong)

/-- 'equerrylaw05.EventReads': WHATEVER THE INPUT: true; the input reads as it did. -/
def eventReadsSpec : ChangeSpec := { name := "eventReads", fn := fun _ => fun
  | [d] => { results := [.lit (.bool true)], args := [d] }
  | _ => none }
def eventReadsRow : OpenClaim := { program := "ytbhigcnmdobmoaa", sum := "a6db4a63d8260946cc4505ac16ea3925c618ba9a774cb4158a5858475adf09d8", func := "equerry/equerrylaw05.EventReads", spec := "eventReads", inPlace := ["math.Float64bits", "math.Float64frombits"], unfollowed := true, recurses := true, apart := false }
def EventReadsSaid : Prop := eventReadsRow.holds Try.pinned (OpenSpec.ofChange eventReadsSpec)

/-- ITS FALSE NEIGHBOUR: 'it returns false'. Refute it at one input. -/
def eventReadsWrong : ChangeSpec := { name := "eventReads", fn := fun _ => fun
  | [d] => { results := [.lit (.bool false)], args := [d] }
  | _ => none }
def EventReadsWrongFalsely : Prop := eventReadsRow.holds Try.pinned (OpenSpec.ofChange eventReadsWrong)

/-- 'equerrylaw11.TreeMay': WHATEVER THE INPUT: true; the input reads as it did. -/
def treeMaySpec : ChangeSpec := { name := "treeMay", fn := fun _ => fun
  | [d] => { results := [.lit (.bool true)], args := [d] }
  | _ => none }
def treeMayRow : OpenClaim := { program := "ytbhigcnmdobmoaa", sum := "a6db4a63d8260946cc4505ac16ea3925c618ba9a774cb4158a5858475adf09d8", func := "equerry/equerrylaw11.TreeMay", spec := "treeMay", inPlace := ["math.Float64frombits", "math.Float64bits"], unfollowed := true, recurses := true, apart := false }
def TreeMaySaid : Prop := treeMayRow.holds Try.pinned (OpenSpec.ofChange treeMaySpec)

/-- ITS FALSE NEIGHBOUR: 'it returns false'. Refute it at one input. -/
def treeMayWrong : ChangeSpec := { name := "treeMay", fn := fun _ => fun
  | [d] => { results := [.lit (.bool false)], args := [d] }
  | _ => none }
def TreeMayWrongFalsely : Prop := treeMayRow.holds Try.pinned (OpenSpec.ofChange treeMayWrong)

/-- 'equerrylaw11.TreeSame': WHATEVER THE INPUT: true; the input reads as it did. -/
def treeSameSpec : ChangeSpec := { name := "treeSame", fn := fun _ => fun
  | [d1, d2] => { results := [.lit (.bool true)], args := [d1, d2] }
  | _ => none }
def treeSameRow : OpenClaim := { program := "ytbhigcnmdobmoaa", sum := "a6db4a63d8260946cc4505ac16ea3925c618ba9a774cb4158a5858475adf09d8", func := "equerry/equerrylaw11.TreeSame", spec := "treeSame", inPlace := ["math.Float64frombits", "math.Float64bits"], unfollowed := true, recurses := true, apart := false }
def TreeSameSaid : Prop := treeSameRow.holds Try.pinned (OpenSpec.ofChange treeSameSpec)

/-- ITS FALSE NEIGHBOUR: 'it returns false'. Refute it at one input. -/
def treeSameWrong : ChangeSpec := { name := "treeSame", fn := fun _ => fun
  | [d1, d2] => { results := [.lit (.bool false)], args := [d1, d2] }
  | _ => none }
def TreeSameWrongFalsely : Prop := treeSameRow.holds Try.pinned (OpenSpec.ofChange treeSameWrong)

/-- 'equerrylaw13.CodePuts': WHATEVER THE INPUT: true; the input reads as it did. -/
def codePutsSpec : ChangeSpec := { name := "codePuts", fn := fun _ => fun
  | [d] => { results := [.lit (.bool true)], args := [d] }
  | _ => none }
def codePutsRow : OpenClaim := { program := "ytbhigcnmdobmoaa", sum := "a6db4a63d8260946cc4505ac16ea3925c618ba9a774cb4158a5858475adf09d8", func := "equerry/equerrylaw13.CodePuts", spec := "codePuts", inPlace := ["math.Float64frombits", "math.Float64bits"], unfollowed := true, recurses := true, apart := false }
def CodePutsSaid : Prop := codePutsRow.holds Try.pinned (OpenSpec.ofChange codePutsSpec)

/-- ITS FALSE NEIGHBOUR: 'it returns false'. Refute it at one input. -/
def codePutsWrong : ChangeSpec := { name := "codePuts", fn := fun _ => fun
  | [d] => { results := [.lit (.bool false)], args := [d] }
  | _ => none }
def CodePutsWrongFalsely : Prop := codePutsRow.holds Try.pinned (OpenSpec.ofChange codePutsWrong)

/- THE SECOND FORM. 'bulk': how many values and letters a reading holds, each counted each time it is reached (what is shared counts as often as it is met; a slice's spare places count too). A statement '..UptoSaid' is the law's where the arguments, and the package variables that the reading takes, are together of bulk at most 1048576: NARROWER than '..Said'. Prove '..Said' where nothing that the law and all that it calls make is longer than what came in: it says more and counts as full. Else prove '..UptoSaid'. A law counts once. -/
mutual
def uptoBulk {H : Type} : DataW H → Nat
  | .lit (.string bytes) => bytes.length + 1
  | .lit _ => 1
  | .nil => 1
  | .ptr d => uptoBulk d + 1
  | .slice elems spare => uptoBulkAll elems + uptoBulkAll spare + 1
  | .agg parts => uptoBulkAll parts + 1
  | .iface _ d => uptoBulk d + 1
  | .map entries => uptoBulkEntries entries + 1
  | .held _ => 1
def uptoBulkAll {H : Type} : List (DataW H) → Nat
  | [] => 0
  | d :: r => uptoBulk d + uptoBulkAll r
def uptoBulkEntries {H : Type} : List (Lit × DataW H) → Nat
  | [] => 0
  | x :: r => uptoBulkEntry x + uptoBulkEntries r
def uptoBulkEntry {H : Type} : Lit × DataW H → Nat
  | (.string bytes, d) => bytes.length + uptoBulk d + 1
  | (_, d) => uptoBulk d + 1
 end
def uptoSmall : (H : Type) → List (DataW H) → Bool := fun _ ds => decide (uptoBulkAll ds ≤ 1048576)
def OpenSpec.upto (s : _root_.Go.ChangeSpec) : _root_.Go.OpenSpec := { _root_.Go.OpenSpec.ofChange s with cond := some uptoSmall }

/-- 'equerrylaw05.EventSame', WHERE WHAT IT READS IS OF BULK AT MOST 1048576: true; the input reads as it did. -/
def eventSameUptoRow : OpenClaim := { program := "ytbhigcnmdobmoaa", sum := "a6db4a63d8260946cc4505ac16ea3925c618ba9a774cb4158a5858475adf09d8", func := "equerry/equerrylaw05.EventSame", spec := "eventSame", inPlace := ["math.Float64frombits", "math.Float64bits"], unfollowed := true, recurses := true, apart := false, narrowed := true }
def EventSameUptoSaid : Prop := eventSameUptoRow.holds Try.pinned (OpenSpec.upto eventSameSpec)

/-- 'equerrylaw05.EventGets', WHERE WHAT IT READS IS OF BULK AT MOST 1048576: true; the input reads as it did. -/
def eventGetsUptoRow : OpenClaim := { program := "ytbhigcnmdobmoaa", sum := "a6db4a63d8260946cc4505ac16ea3925c618ba9a774cb4158a5858475adf09d8", func := "equerry/equerrylaw05.EventGets", spec := "eventGets", inPlace := ["math.Float64bits", "math.Float64frombits"], unfollowed := true, recurses := true, apart := false, narrowed := true }
def EventGetsUptoSaid : Prop := eventGetsUptoRow.holds Try.pinned (OpenSpec.upto eventGetsSpec)

/-- 'equerrylaw05.EventPuts', WHERE WHAT IT READS IS OF BULK AT MOST 1048576: true; the input reads as it did. -/
def eventPutsUptoRow : OpenClaim := { program := "ytbhigcnmdobmoaa", sum := "a6db4a63d8260946cc4505ac16ea3925c618ba9a774cb4158a5858475adf09d8", func := "equerry/equerrylaw05.EventPuts", spec := "eventPuts", inPlace := ["math.Float64frombits", "math.Float64bits"], unfollowed := true, recurses := true, apart := false, narrowed := true }
def EventPutsUptoSaid : Prop := eventPutsUptoRow.holds Try.pinned (OpenSpec.upto eventPutsSpec)

/-- 'equerrylaw05.EventWrites', WHERE WHAT IT READS IS OF BULK AT MOST 1048576: true; the input reads as it did. -/
def eventWritesUptoRow : OpenClaim := { program := "ytbhigcnmdobmoaa", sum := "a6db4a63d8260946cc4505ac16ea3925c618ba9a774cb4158a5858475adf09d8", func := "equerry/equerrylaw05.EventWrites", spec := "eventWrites", inPlace := ["math.Float64frombits", "math.Float64bits"], unfollowed := true, recurses := true, apart := false, narrowed := true }
def EventWritesUptoSaid : Prop := eventWritesUptoRow.holds Try.pinned (OpenSpec.upto eventWritesSpec)

/-- 'equerrylaw05.EventReads', WHERE WHAT IT READS IS OF BULK AT MOST 1048576: true; the input reads as it did. -/
def eventReadsUptoRow : OpenClaim := { program := "ytbhigcnmdobmoaa", sum := "a6db4a63d8260946cc4505ac16ea3925c618ba9a774cb4158a5858475adf09d8", func := "equerry/equerrylaw05.EventReads", spec := "eventReads", inPlace := ["math.Float64bits", "math.Float64frombits"], unfollowed := true, recurses := true, apart := false, narrowed := true }
def EventReadsUptoSaid : Prop := eventReadsUptoRow.holds Try.pinned (OpenSpec.upto eventReadsSpec)

/-- 'equerrylaw11.TreeMay', WHERE WHAT IT READS IS OF BULK AT MOST 1048576: true; the input reads as it did. -/
def treeMayUptoRow : OpenClaim := { program := "ytbhigcnmdobmoaa", sum := "a6db4a63d8260946cc4505ac16ea3925c618ba9a774cb4158a5858475adf09d8", func := "equerry/equerrylaw11.TreeMay", spec := "treeMay", inPlace := ["math.Float64frombits", "math.Float64bits"], unfollowed := true, recurses := true, apart := false, narrowed := true }
def TreeMayUptoSaid : Prop := treeMayUptoRow.holds Try.pinned (OpenSpec.upto treeMaySpec)

/-- 'equerrylaw11.TreeSame', WHERE WHAT IT READS IS OF BULK AT MOST 1048576: true; the input reads as it did. -/
def treeSameUptoRow : OpenClaim := { program := "ytbhigcnmdobmoaa", sum := "a6db4a63d8260946cc4505ac16ea3925c618ba9a774cb4158a5858475adf09d8", func := "equerry/equerrylaw11.TreeSame", spec := "treeSame", inPlace := ["math.Float64frombits", "math.Float64bits"], unfollowed := true, recurses := true, apart := false, narrowed := true }
def TreeSameUptoSaid : Prop := treeSameUptoRow.holds Try.pinned (OpenSpec.upto treeSameSpec)

/-- 'equerrylaw13.CodePuts', WHERE WHAT IT READS IS OF BULK AT MOST 1048576: true; the input reads as it did. -/
def codePutsUptoRow : OpenClaim := { program := "ytbhigcnmdobmoaa", sum := "a6db4a63d8260946cc4505ac16ea3925c618ba9a774cb4158a5858475adf09d8", func := "equerry/equerrylaw13.CodePuts", spec := "codePuts", inPlace := ["math.Float64frombits", "math.Float64bits"], unfollowed := true, recurses := true, apart := false, narrowed := true }
def CodePutsUptoSaid : Prop := codePutsUptoRow.holds Try.pinned (OpenSpec.upto codePutsSpec)

end Rows
end Go.Proofs.Ytbhigcnmdobmoaa
