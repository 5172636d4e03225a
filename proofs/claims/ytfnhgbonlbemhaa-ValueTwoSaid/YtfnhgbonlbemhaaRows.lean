/-
  No cell of these rows narrows 'for every input' (looked for: loops, veiled, ifaces, maps, wideKeys, modest, calm, conditions, laid).
  DERIVED. THE GIVEN ROWS OF THIS SEAT. 10 by the template 'for every input the law returns true; each argument reads behind the call as it read before'; 0 by the template 'total and deterministic' (their statements: YtfnhgbonlbemhaaTotals.lean).
  GIVEN WITH THE SEED: the statements are not yours to turn. If you find one false, say at which input.
  Laid BY PROGRAM, IN A SANDBOX (cutbox-rows.mjs): the forced cells as the released guide's own fill.sh prints them over the translation f182689e337d15b3… (all of the seat's roots in one cut). By AI agents, Wed Nov 11 2026. No macro, syntax, notation, axiom, sorry.
-/
import Derived.Test.YtfnhgbonlbemhaaChecked
import GoSem.Claim
import GoSem.ClaimJoined
import GoSem.ClaimMapViews
import Derived.JoinedTies
import Derived.KernelRfl
namespace Go.Proofs.Ytfnhgbonlbemhaa
/- THE CELL 'sum', in the pinned program and in every row, IS THE sha256 OF THE DUMP (.gsa) THAT YtfnhgbonlbemhaaProg.lean LOADS. Nothing in Lean hashes anything: it is a label: what it is worth is what the hold of that sum in a sandbox is worth. -/
noncomputable def Try.pinned : Pinned := { name := "ytfnhgbonlbemhaa", sum := "f182689e337d15b38fb02d383c4c68930aada7767dcca8d8ebff2d85bd58b363", checked := Try.checked }
namespace Rows
def none {H : Type} : Left H := { results := [], args := [] }

/-- 'equerrylaw02.RealAgainst': WHATEVER THE INPUT: true; the input reads as it did. -/
def realAgainstSpec : ChangeSpec := { name := "realAgainst", fn := fun _ => fun
  | [d1, d2] => { results := [.lit (.bool true)], args := [d1, d2] }
  | _ => none }
def realAgainstRow : OpenClaim := { program := "ytfnhgbonlbemhaa", sum := "f182689e337d15b38fb02d383c4c68930aada7767dcca8d8ebff2d85bd58b363", func := "equerry/equerrylaw02.RealAgainst", spec := "realAgainst", inPlace := ["math.Float64frombits", "math.archFloor", "math.Float64bits", "math.archTrunc"], apart := false }
def RealAgainstSaid : Prop := realAgainstRow.holds Try.pinned (OpenSpec.ofChange realAgainstSpec)

/-- ITS FALSE NEIGHBOUR: 'it returns false'. Refute it at one input. -/
def realAgainstWrong : ChangeSpec := { name := "realAgainst", fn := fun _ => fun
  | [d1, d2] => { results := [.lit (.bool false)], args := [d1, d2] }
  | _ => none }
def RealAgainstWrongFalsely : Prop := realAgainstRow.holds Try.pinned (OpenSpec.ofChange realAgainstWrong)

/-- 'equerrylaw02.RealTwo': WHATEVER THE INPUT: true; the input reads as it did. -/
def realTwoSpec : ChangeSpec := { name := "realTwo", fn := fun _ => fun
  | [d1, d2] => { results := [.lit (.bool true)], args := [d1, d2] }
  | _ => none }
def realTwoRow : OpenClaim := { program := "ytfnhgbonlbemhaa", sum := "f182689e337d15b38fb02d383c4c68930aada7767dcca8d8ebff2d85bd58b363", func := "equerry/equerrylaw02.RealTwo", spec := "realTwo", inPlace := ["math.Float64frombits", "math.archFloor", "math.Float64bits", "math.archTrunc"], apart := false }
def RealTwoSaid : Prop := realTwoRow.holds Try.pinned (OpenSpec.ofChange realTwoSpec)

/-- ITS FALSE NEIGHBOUR: 'it returns false'. Refute it at one input. -/
def realTwoWrong : ChangeSpec := { name := "realTwo", fn := fun _ => fun
  | [d1, d2] => { results := [.lit (.bool false)], args := [d1, d2] }
  | _ => none }
def RealTwoWrongFalsely : Prop := realTwoRow.holds Try.pinned (OpenSpec.ofChange realTwoWrong)

/-- 'equerrylaw02.RealWhole': WHATEVER THE INPUT: true; the input reads as it did. -/
def realWholeSpec : ChangeSpec := { name := "realWhole", fn := fun _ => fun
  | [d] => { results := [.lit (.bool true)], args := [d] }
  | _ => none }
def realWholeRow : OpenClaim := { program := "ytfnhgbonlbemhaa", sum := "f182689e337d15b38fb02d383c4c68930aada7767dcca8d8ebff2d85bd58b363", func := "equerry/equerrylaw02.RealWhole", spec := "realWhole", inPlace := ["math.archFloor", "math.Float64bits", "math.Float64frombits", "math.archTrunc"], apart := false }
def RealWholeSaid : Prop := realWholeRow.holds Try.pinned (OpenSpec.ofChange realWholeSpec)

/-- ITS FALSE NEIGHBOUR: 'it returns false'. Refute it at one input. -/
def realWholeWrong : ChangeSpec := { name := "realWhole", fn := fun _ => fun
  | [d] => { results := [.lit (.bool false)], args := [d] }
  | _ => none }
def RealWholeWrongFalsely : Prop := realWholeRow.holds Try.pinned (OpenSpec.ofChange realWholeWrong)

/-- 'equerrylaw02.RealFrom': WHATEVER THE INPUT: true; the input reads as it did. -/
def realFromSpec : ChangeSpec := { name := "realFrom", fn := fun _ => fun
  | [d] => { results := [.lit (.bool true)], args := [d] }
  | _ => none }
def realFromRow : OpenClaim := { program := "ytfnhgbonlbemhaa", sum := "f182689e337d15b38fb02d383c4c68930aada7767dcca8d8ebff2d85bd58b363", func := "equerry/equerrylaw02.RealFrom", spec := "realFrom", inPlace := ["math.Float64frombits", "math.Float64bits", "math.archFloor", "math.archTrunc"], apart := false }
def RealFromSaid : Prop := realFromRow.holds Try.pinned (OpenSpec.ofChange realFromSpec)

/-- ITS FALSE NEIGHBOUR: 'it returns false'. Refute it at one input. -/
def realFromWrong : ChangeSpec := { name := "realFrom", fn := fun _ => fun
  | [d] => { results := [.lit (.bool false)], args := [d] }
  | _ => none }
def RealFromWrongFalsely : Prop := realFromRow.holds Try.pinned (OpenSpec.ofChange realFromWrong)

/-- 'equerrylaw02.RealRow': WHATEVER THE INPUT: true; the input reads as it did. -/
def realRowSpec : ChangeSpec := { name := "realRow", fn := fun _ => fun
  | [d1, d2, d3] => { results := [.lit (.bool true)], args := [d1, d2, d3] }
  | _ => none }
def realRowRow : OpenClaim := { program := "ytfnhgbonlbemhaa", sum := "f182689e337d15b38fb02d383c4c68930aada7767dcca8d8ebff2d85bd58b363", func := "equerry/equerrylaw02.RealRow", spec := "realRow", inPlace := ["math.Float64frombits", "math.Float64bits", "math.archFloor", "math.archTrunc"], apart := false }
def RealRowSaid : Prop := realRowRow.holds Try.pinned (OpenSpec.ofChange realRowSpec)

/-- ITS FALSE NEIGHBOUR: 'it returns false'. Refute it at one input. -/
def realRowWrong : ChangeSpec := { name := "realRow", fn := fun _ => fun
  | [d1, d2, d3] => { results := [.lit (.bool false)], args := [d1, d2, d3] }
  | _ => none }
def RealRowWrongFalsely : Prop := realRowRow.holds Try.pinned (OpenSpec.ofChange realRowWrong)

/-- 'equerrylaw02.RealSteps': WHATEVER THE INPUT: true; the input reads as it did. -/
def realStepsSpec : ChangeSpec := { name := "realSteps", fn := fun _ => fun
  | [d1, d2] => { results := [.lit (.bool true)], args := [d1, d2] }
  | _ => none }
def realStepsRow : OpenClaim := { program := "ytfnhgbonlbemhaa", sum := "f182689e337d15b38fb02d383c4c68930aada7767dcca8d8ebff2d85bd58b363", func := "equerry/equerrylaw02.RealSteps", spec := "realSteps", inPlace := ["math.Float64frombits", "math.Float64bits", "math.archFloor", "math.archTrunc"], apart := false }
def RealStepsSaid : Prop := realStepsRow.holds Try.pinned (OpenSpec.ofChange realStepsSpec)

/-- ITS FALSE NEIGHBOUR: 'it returns false'. Refute it at one input. -/
def realStepsWrong : ChangeSpec := { name := "realSteps", fn := fun _ => fun
  | [d1, d2] => { results := [.lit (.bool false)], args := [d1, d2] }
  | _ => none }
def RealStepsWrongFalsely : Prop := realStepsRow.holds Try.pinned (OpenSpec.ofChange realStepsWrong)

/-- 'equerrylaw04.ValueOrder': WHATEVER THE INPUT: true; the input reads as it did. -/
def valueOrderSpec : ChangeSpec := { name := "valueOrder", fn := fun _ => fun
  | [d1, d2, d3] => { results := [.lit (.bool true)], args := [d1, d2, d3] }
  | _ => none }
def valueOrderRow : OpenClaim := { program := "ytfnhgbonlbemhaa", sum := "f182689e337d15b38fb02d383c4c68930aada7767dcca8d8ebff2d85bd58b363", func := "equerry/equerrylaw04.ValueOrder", spec := "valueOrder", inPlace := ["math.Float64bits", "internal/bytealg.abigen_runtime_cmpstring", "math.archFloor", "math.Float64frombits", "math.archTrunc"], apart := false }
def ValueOrderSaid : Prop := valueOrderRow.holds Try.pinned (OpenSpec.ofChange valueOrderSpec)

/-- ITS FALSE NEIGHBOUR: 'it returns false'. Refute it at one input. -/
def valueOrderWrong : ChangeSpec := { name := "valueOrder", fn := fun _ => fun
  | [d1, d2, d3] => { results := [.lit (.bool false)], args := [d1, d2, d3] }
  | _ => none }
def ValueOrderWrongFalsely : Prop := valueOrderRow.holds Try.pinned (OpenSpec.ofChange valueOrderWrong)

/-- 'equerrylaw04.ValueTwo': WHATEVER THE INPUT: true; the input reads as it did. -/
def valueTwoSpec : ChangeSpec := { name := "valueTwo", fn := fun _ => fun
  | [d1, d2] => { results := [.lit (.bool true)], args := [d1, d2] }
  | _ => none }
def valueTwoRow : OpenClaim := { program := "ytfnhgbonlbemhaa", sum := "f182689e337d15b38fb02d383c4c68930aada7767dcca8d8ebff2d85bd58b363", func := "equerry/equerrylaw04.ValueTwo", spec := "valueTwo", inPlace := ["math.Float64bits", "internal/bytealg.abigen_runtime_cmpstring", "math.archFloor", "math.Float64frombits", "math.archTrunc"], apart := false }
def ValueTwoSaid : Prop := valueTwoRow.holds Try.pinned (OpenSpec.ofChange valueTwoSpec)

/-- ITS FALSE NEIGHBOUR: 'it returns false'. Refute it at one input. -/
def valueTwoWrong : ChangeSpec := { name := "valueTwo", fn := fun _ => fun
  | [d1, d2] => { results := [.lit (.bool false)], args := [d1, d2] }
  | _ => none }
def ValueTwoWrongFalsely : Prop := valueTwoRow.holds Try.pinned (OpenSpec.ofChange valueTwoWrong)

/-- 'equerrylaw04.ValuePuts': WHATEVER THE INPUT: true; the input reads as it did. -/
def valuePutsSpec : ChangeSpec := { name := "valuePuts", fn := fun _ => fun
  | [d1, d2] => { results := [.lit (.bool true)], args := [d1, d2] }
  | _ => none }
def valuePutsRow : OpenClaim := { program := "ytfnhgbonlbemhaa", sum := "f182689e337d15b38fb02d383c4c68930aada7767dcca8d8ebff2d85bd58b363", func := "equerry/equerrylaw04.ValuePuts", spec := "valuePuts", inPlace := ["math.Float64bits", "internal/bytealg.abigen_runtime_cmpstring", "math.archFloor", "math.Float64frombits", "math.archTrunc"], apart := false }
def ValuePutsSaid : Prop := valuePutsRow.holds Try.pinned (OpenSpec.ofChange valuePutsSpec)

/-- ITS FALSE NEIGHBOUR: 'it returns false'. Refute it at one input. -/
def valuePutsWrong : ChangeSpec := { name := "valuePuts", fn := fun _ => fun
  | [d1, d2] => { results := [.lit (.bool false)], args := [d1, d2] }
  | _ => none }
def ValuePutsWrongFalsely : Prop := valuePutsRow.holds Try.pinned (OpenSpec.ofChange valuePutsWrong)

/-- 'equerrylaw04.ValueGets': WHATEVER THE INPUT: true; the input reads as it did. -/
def valueGetsSpec : ChangeSpec := { name := "valueGets", fn := fun _ => fun
  | [d1, d2] => { results := [.lit (.bool true)], args := [d1, d2] }
  | _ => none }
def valueGetsRow : OpenClaim := { program := "ytfnhgbonlbemhaa", sum := "f182689e337d15b38fb02d383c4c68930aada7767dcca8d8ebff2d85bd58b363", func := "equerry/equerrylaw04.ValueGets", spec := "valueGets", inPlace := ["math.Float64bits", "internal/bytealg.abigen_runtime_cmpstring", "math.archFloor", "math.Float64frombits", "math.archTrunc"], apart := false }
def ValueGetsSaid : Prop := valueGetsRow.holds Try.pinned (OpenSpec.ofChange valueGetsSpec)

/-- ITS FALSE NEIGHBOUR: 'it returns false'. Refute it at one input. -/
def valueGetsWrong : ChangeSpec := { name := "valueGets", fn := fun _ => fun
  | [d1, d2] => { results := [.lit (.bool false)], args := [d1, d2] }
  | _ => none }
def ValueGetsWrongFalsely : Prop := valueGetsRow.holds Try.pinned (OpenSpec.ofChange valueGetsWrong)

/- THE SECOND FORM. 'bulk': how many values and letters a reading holds, each counted each time it is reached (what is shared counts as often as it is met; a slice's spare places count too). A statement '..UptoSaid' is the law's where the arguments, and the package variables that the reading takes, are together of bulk at most 1048576: NARROWER than '..Said'. Prove '..Said' where nothing that the law and all that it calls make is longer than what came in: it says more and counts as full. Else prove '..UptoSaid'. A law counts once. -/
mutual
def uptoBulk {H : Type} : DataW H → Nat
  | .lit (.string bytes) => bytes.length + 1
  | .lit _ => 1
  | .nil => 1
  | .ptr d => uptoBulk d + 1
  | .slice elems spare => uptoBulkAll elems + uptoBulkAll spare + 1
  | .agg parts => uptoBulkAll parts + 1
  | .iface _ d => uptoBulk d + 1
  | .map entries => uptoBulkEntries entries + 1
  | .held _ => 1
def uptoBulkAll {H : Type} : List (DataW H) → Nat
  | [] => 0
  | d :: r => uptoBulk d + uptoBulkAll r
def uptoBulkEntries {H : Type} : List (Lit × DataW H) → Nat
  | [] => 0
  | x :: r => uptoBulkEntry x + uptoBulkEntries r
def uptoBulkEntry {H : Type} : Lit × DataW H → Nat
  | (.string bytes, d) => bytes.length + uptoBulk d + 1
  | (_, d) => uptoBulk d + 1
 end
def uptoSmall : (H : Type) → List (DataW H) → Bool := fun _ ds => decide (uptoBulkAll ds ≤ 1048576)
def OpenSpec.upto (s : _root_.Go.ChangeSpec) : _root_.Go.OpenSpec := { _root_.Go.OpenSpec.ofChange s with cond := some uptoSmall }

/-- 'equerrylaw02.RealAgainst', WHERE WHAT IT READS IS OF BULK AT MOST 1048576: true; the input reads as it did. -/
def realAgainstUptoRow : OpenClaim := { program := "ytfnhgbonlbemhaa", sum := "f182689e337d15b38fb02d383c4c68930aada7767dcca8d8ebff2d85bd58b363", func := "equerry/equerrylaw02.RealAgainst", spec := "realAgainst", inPlace := ["math.Float64frombits", "math.archFloor", "math.Float64bits", "math.archTrunc"], apart := false, narrowed := true }
def RealAgainstUptoSaid : Prop := realAgainstUptoRow.holds Try.pinned (OpenSpec.upto realAgainstSpec)

/-- 'equerrylaw02.RealTwo', WHERE WHAT IT READS IS OF BULK AT MOST 1048576: true; the input reads as it did. -/
def realTwoUptoRow : OpenClaim := { program := "ytfnhgbonlbemhaa", sum := "f182689e337d15b38fb02d383c4c68930aada7767dcca8d8ebff2d85bd58b363", func := "equerry/equerrylaw02.RealTwo", spec := "realTwo", inPlace := ["math.Float64frombits", "math.archFloor", "math.Float64bits", "math.archTrunc"], apart := false, narrowed := true }
def RealTwoUptoSaid : Prop := realTwoUptoRow.holds Try.pinned (OpenSpec.upto realTwoSpec)

/-- 'equerrylaw02.RealWhole', WHERE WHAT IT READS IS OF BULK AT MOST 1048576: true; the input reads as it did. -/
def realWholeUptoRow : OpenClaim := { program := "ytfnhgbonlbemhaa", sum := "f182689e337d15b38fb02d383c4c68930aada7767dcca8d8ebff2d85bd58b363", func := "equerry/equerrylaw02.RealWhole", spec := "realWhole", inPlace := ["math.archFloor", "math.Float64bits", "math.Float64frombits", "math.archTrunc"], apart := false, narrowed := true }
def RealWholeUptoSaid : Prop := realWholeUptoRow.holds Try.pinned (OpenSpec.upto realWholeSpec)

/-- 'equerrylaw02.RealFrom', WHERE WHAT IT READS IS OF BULK AT MOST 1048576: true; the input reads as it did. -/
def realFromUptoRow : OpenClaim := { program := "ytfnhgbonlbemhaa", sum := "f182689e337d15b38fb02d383c4c68930aada7767dcca8d8ebff2d85bd58b363", func := "equerry/equerrylaw02.RealFrom", spec := "realFrom", inPlace := ["math.Float64frombits", "math.Float64bits", "math.archFloor", "math.archTrunc"], apart := false, narrowed := true }
def RealFromUptoSaid : Prop := realFromUptoRow.holds Try.pinned (OpenSpec.upto realFromSpec)

/-- 'equerrylaw02.RealRow', WHERE WHAT IT READS IS OF BULK AT MOST 1048576: true; the input reads as it did. -/
def realRowUptoRow : OpenClaim := { program := "ytfnhgbonlbemhaa", sum := "f182689e337d15b38fb02d383c4c68930aada7767dcca8d8ebff2d85bd58b363", func := "equerry/equerrylaw02.RealRow", spec := "realRow", inPlace := ["math.Float64frombits", "math.Float64bits", "math.archFloor", "math.archTrunc"], apart := false, narrowed := true }
def RealRowUptoSaid : Prop := realRowUptoRow.holds Try.pinned (OpenSpec.upto realRowSpec)

/-- 'equerrylaw02.RealSteps', WHERE WHAT IT READS IS OF BULK AT MOST 1048576: true; the input reads as it did. -/
def realStepsUptoRow : OpenClaim := { program := "ytfnhgbonlbemhaa", sum := "f182689e337d15b38fb02d383c4c68930aada7767dcca8d8ebff2d85bd58b363", func := "equerry/equerrylaw02.RealSteps", spec := "realSteps", inPlace := ["math.Float64frombits", "math.Float64bits", "math.archFloor", "math.archTrunc"], apart := false, narrowed := true }
def RealStepsUptoSaid : Prop := realStepsUptoRow.holds Try.pinned (OpenSpec.upto realStepsSpec)

/-- 'equerrylaw04.ValueOrder', WHERE WHAT IT READS IS OF BULK AT MOST 1048576: true; the input reads as it did. -/
def valueOrderUptoRow : OpenClaim := { program := "ytfnhgbonlbemhaa", sum := "f182689e337d15b38fb02d383c4c68930aada7767dcca8d8ebff2d85bd58b363", func := "equerry/equerrylaw04.ValueOrder", spec := "valueOrder", inPlace := ["math.Float64bits", "internal/bytealg.abigen_runtime_cmpstring", "math.archFloor", "math.Float64frombits", "math.archTrunc"], apart := false, narrowed := true }
def ValueOrderUptoSaid : Prop := valueOrderUptoRow.holds Try.pinned (OpenSpec.upto valueOrderSpec)

/-- 'equerrylaw04.ValueTwo', WHERE WHAT IT READS IS OF BULK AT MOST 1048576: true; the input reads as it did. -/
def valueTwoUptoRow : OpenClaim := { program := "ytfnhgbonlbemhaa", sum := "f182689e337d15b38fb02d383c4c68930aada7767dcca8d8ebff2d85bd58b363", func := "equerry/equerrylaw04.ValueTwo", spec := "valueTwo", inPlace := ["math.Float64bits", "internal/bytealg.abigen_runtime_cmpstring", "math.archFloor", "math.Float64frombits", "math.archTrunc"], apart := false, narrowed := true }
def ValueTwoUptoSaid : Prop := valueTwoUptoRow.holds Try.pinned (OpenSpec.upto valueTwoSpec)

/-- 'equerrylaw04.ValuePuts', WHERE WHAT IT READS IS OF BULK AT MOST 1048576: true; the input reads as it did. -/
def valuePutsUptoRow : OpenClaim := { program := "ytfnhgbonlbemhaa", sum := "f182689e337d15b38fb02d383c4c68930aada7767dcca8d8ebff2d85bd58b363", func := "equerry/equerrylaw04.ValuePuts", spec := "valuePuts", inPlace := ["math.Float64bits", "internal/bytealg.abigen_runtime_cmpstring", "math.archFloor", "math.Float64frombits", "math.archTrunc"], apart := false, narrowed := true }
def ValuePutsUptoSaid : Prop := valuePutsUptoRow.holds Try.pinned (OpenSpec.upto valuePutsSpec)

/-- 'equerrylaw04.ValueGets', WHERE WHAT IT READS IS OF BULK AT MOST 1048576: true; the input reads as it did. -/
def valueGetsUptoRow : OpenClaim := { program := "ytfnhgbonlbemhaa", sum := "f182689e337d15b38fb02d383c4c68930aada7767dcca8d8ebff2d85bd58b363", func := "equerry/equerrylaw04.ValueGets", spec := "valueGets", inPlace := ["math.Float64bits", "internal/bytealg.abigen_runtime_cmpstring", "math.archFloor", "math.Float64frombits", "math.archTrunc"], apart := false, narrowed := true }
def ValueGetsUptoSaid : Prop := valueGetsUptoRow.holds Try.pinned (OpenSpec.upto valueGetsSpec)

end Rows
end Go.Proofs.Ytfnhgbonlbemhaa
