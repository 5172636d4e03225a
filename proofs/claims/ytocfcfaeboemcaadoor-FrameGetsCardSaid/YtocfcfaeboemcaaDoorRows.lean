/-
  NARROWER THAN 'FOR EVERY INPUT', by the rows' own cells (each row's printed sentence says how): FrameSame: laid · FramePuts: laid · FrameGets: laid · StreamCuts: laid · StreamNil: laid.
  DERIVED. THE GIVEN ROWS OF THIS SEAT. 5 by the template 'for every input the law returns true; each argument reads behind the call as it read before'; 0 by the template 'total and deterministic' (their statements: YtocfcfaeboemcaaDoorTotals.lean).
  GIVEN WITH THE SEED: the statements are not yours to turn. If you find one false, say at which input.
  Laid BY PROGRAM, IN A SANDBOX (cutbox-rows.mjs): the forced cells as the released guide's own fill.sh prints them over the translation 986fafc14e620d3e… (all of the seat's roots in one cut). By AI agents, Wed Nov 11 2026. No macro, syntax, notation, axiom, sorry.
-/
import Derived.Test.YtocfcfaeboemcaaDoorChecked
import GoSem.Claim
import GoSem.ClaimJoined
import GoSem.ClaimMapViews
import Derived.JoinedTies
import Derived.KernelRfl
namespace Go.Proofs.YtocfcfaeboemcaaDoor
/- THE CELL 'sum', in the pinned program and in every row, IS THE sha256 OF THE DUMP (.gsa) THAT YtocfcfaeboemcaaDoorProg.lean LOADS. Nothing in Lean hashes anything: it is a label: what it is worth is what the hold of that sum in a sandbox is worth. -/
noncomputable def Tryd.pinned : Pinned := { name := "ytocfcfaeboemcaadoor", sum := "986fafc14e620d3e0f32e9860bd55aa082c8f2e57771fd5b68307656a830137f", checked := Tryd.checked }
namespace Rows
def none {H : Type} : Left H := { results := [], args := [] }

/- WHAT THE LISTED PACKAGE-LEVEL VARIABLES READ AS WHEN THE CALL BEGINS. Each datum BY PROGRAM (the guide's laid-datum.mjs) off the statement by which the dump's own 'gosem.cut.vars' lays the variable. In a bare row this is a premise. The card (YtocfcfaeboemcaaDoorCards.lean) ties it to the program's text. -/
def laid_equerry_crc_halves {H : Type} : DataW H := .agg [.lit (.int .u32 0), .lit (.int .u32 498536548), .lit (.int .u32 997073096), .lit (.int .u32 651767980), .lit (.int .u32 1994146192), .lit (.int .u32 1802195444), .lit (.int .u32 1303535960), .lit (.int .u32 1342533948), .lit (.int .u32 3988292384), .lit (.int .u32 4027552580), .lit (.int .u32 3604390888), .lit (.int .u32 3412177804), .lit (.int .u32 2607071920), .lit (.int .u32 2262029012), .lit (.int .u32 2685067896), .lit (.int .u32 3183342108)]
def laid_equerry_frame_fields {H : Type} : DataW H := .agg [.lit (.int .u8 0), .lit (.int .u8 17), .lit (.int .u8 7), .lit (.int .u8 21), .lit (.int .u8 5), .lit (.int .u8 31), .lit (.int .u8 7), .lit (.int .u8 7), .lit (.int .u8 7), .lit (.int .u8 7), .lit (.int .u8 7), .lit (.int .u8 5), .lit (.int .u8 21), .lit (.int .u8 4), .lit (.int .u8 4), .lit (.int .u8 1), .lit (.int .u8 4), .lit (.int .u8 15)]

/-- 'equerrylaw20.FrameSame': WHATEVER THE INPUT: true; the input reads as it did. -/
def frameSameSpec : ChangeSpec := { name := "frameSame", fn := fun _ => fun
  | [d1, d2] => { results := [.lit (.bool true)], args := [d1, d2] }
  | _ => none }
def frameSameRow : OpenClaim := { program := "ytocfcfaeboemcaadoor", sum := "986fafc14e620d3e0f32e9860bd55aa082c8f2e57771fd5b68307656a830137f", func := "equerry/equerrylaw20.FrameSame", spec := "frameSame", named := ["equerry/frame.fields", "equerry/crc.halves"], apart := false, laid := [("equerry/crc.halves", laid_equerry_crc_halves), ("equerry/frame.fields", laid_equerry_frame_fields)] }
def FrameSameSaid : Prop := frameSameRow.holds Tryd.pinned (OpenSpec.ofChange frameSameSpec)

/-- ITS FALSE NEIGHBOUR: 'it returns false'. Refute it at one input. -/
def frameSameWrong : ChangeSpec := { name := "frameSame", fn := fun _ => fun
  | [d1, d2] => { results := [.lit (.bool false)], args := [d1, d2] }
  | _ => none }
def FrameSameWrongFalsely : Prop := frameSameRow.holds Tryd.pinned (OpenSpec.ofChange frameSameWrong)

/-- 'equerrylaw20.FramePuts': WHATEVER THE INPUT: true; the input reads as it did. -/
def framePutsSpec : ChangeSpec := { name := "framePuts", fn := fun _ => fun
  | [d1, d2] => { results := [.lit (.bool true)], args := [d1, d2] }
  | _ => none }
def framePutsRow : OpenClaim := { program := "ytocfcfaeboemcaadoor", sum := "986fafc14e620d3e0f32e9860bd55aa082c8f2e57771fd5b68307656a830137f", func := "equerry/equerrylaw20.FramePuts", spec := "framePuts", named := ["equerry/frame.fields", "equerry/crc.halves"], apart := false, laid := [("equerry/crc.halves", laid_equerry_crc_halves), ("equerry/frame.fields", laid_equerry_frame_fields)] }
def FramePutsSaid : Prop := framePutsRow.holds Tryd.pinned (OpenSpec.ofChange framePutsSpec)

/-- ITS FALSE NEIGHBOUR: 'it returns false'. Refute it at one input. -/
def framePutsWrong : ChangeSpec := { name := "framePuts", fn := fun _ => fun
  | [d1, d2] => { results := [.lit (.bool false)], args := [d1, d2] }
  | _ => none }
def FramePutsWrongFalsely : Prop := framePutsRow.holds Tryd.pinned (OpenSpec.ofChange framePutsWrong)

/-- 'equerrylaw20.FrameGets': WHATEVER THE INPUT: true; the input reads as it did. -/
def frameGetsSpec : ChangeSpec := { name := "frameGets", fn := fun _ => fun
  | [d] => { results := [.lit (.bool true)], args := [d] }
  | _ => none }
def frameGetsRow : OpenClaim := { program := "ytocfcfaeboemcaadoor", sum := "986fafc14e620d3e0f32e9860bd55aa082c8f2e57771fd5b68307656a830137f", func := "equerry/equerrylaw20.FrameGets", spec := "frameGets", named := ["equerry/frame.fields", "equerry/crc.halves"], apart := false, laid := [("equerry/crc.halves", laid_equerry_crc_halves), ("equerry/frame.fields", laid_equerry_frame_fields)] }
def FrameGetsSaid : Prop := frameGetsRow.holds Tryd.pinned (OpenSpec.ofChange frameGetsSpec)

/-- ITS FALSE NEIGHBOUR: 'it returns false'. Refute it at one input. -/
def frameGetsWrong : ChangeSpec := { name := "frameGets", fn := fun _ => fun
  | [d] => { results := [.lit (.bool false)], args := [d] }
  | _ => none }
def FrameGetsWrongFalsely : Prop := frameGetsRow.holds Tryd.pinned (OpenSpec.ofChange frameGetsWrong)

/-- 'equerrylaw21.StreamCuts': WHATEVER THE INPUT: true; the input reads as it did. -/
def streamCutsSpec : ChangeSpec := { name := "streamCuts", fn := fun _ => fun
  | [d1, d2] => { results := [.lit (.bool true)], args := [d1, d2] }
  | _ => none }
def streamCutsRow : OpenClaim := { program := "ytocfcfaeboemcaadoor", sum := "986fafc14e620d3e0f32e9860bd55aa082c8f2e57771fd5b68307656a830137f", func := "equerry/equerrylaw21.StreamCuts", spec := "streamCuts", named := ["equerry/crc.halves", "equerry/frame.fields"], apart := false, laid := [("equerry/crc.halves", laid_equerry_crc_halves), ("equerry/frame.fields", laid_equerry_frame_fields)] }
def StreamCutsSaid : Prop := streamCutsRow.holds Tryd.pinned (OpenSpec.ofChange streamCutsSpec)

/-- ITS FALSE NEIGHBOUR: 'it returns false'. Refute it at one input. -/
def streamCutsWrong : ChangeSpec := { name := "streamCuts", fn := fun _ => fun
  | [d1, d2] => { results := [.lit (.bool false)], args := [d1, d2] }
  | _ => none }
def StreamCutsWrongFalsely : Prop := streamCutsRow.holds Tryd.pinned (OpenSpec.ofChange streamCutsWrong)

/-- 'equerrylaw21.StreamNil': WHATEVER THE INPUT: true; the input reads as it did. -/
def streamNilSpec : ChangeSpec := { name := "streamNil", fn := fun _ => fun
  | [d] => { results := [.lit (.bool true)], args := [d] }
  | _ => none }
def streamNilRow : OpenClaim := { program := "ytocfcfaeboemcaadoor", sum := "986fafc14e620d3e0f32e9860bd55aa082c8f2e57771fd5b68307656a830137f", func := "equerry/equerrylaw21.StreamNil", spec := "streamNil", named := ["equerry/crc.halves", "equerry/frame.fields"], apart := false, laid := [("equerry/crc.halves", laid_equerry_crc_halves), ("equerry/frame.fields", laid_equerry_frame_fields)] }
def StreamNilSaid : Prop := streamNilRow.holds Tryd.pinned (OpenSpec.ofChange streamNilSpec)

/-- ITS FALSE NEIGHBOUR: 'it returns false'. Refute it at one input. -/
def streamNilWrong : ChangeSpec := { name := "streamNil", fn := fun _ => fun
  | [d] => { results := [.lit (.bool false)], args := [d] }
  | _ => none }
def StreamNilWrongFalsely : Prop := streamNilRow.holds Tryd.pinned (OpenSpec.ofChange streamNilWrong)

/- THE SECOND FORM. 'bulk': how many values and letters a reading holds, each counted each time it is reached (what is shared counts as often as it is met; a slice's spare places count too). A statement '..UptoSaid' is the law's where the arguments, and the package variables that the reading takes, are together of bulk at most 1048576: NARROWER than '..Said'. Prove '..Said' where nothing that the law and all that it calls make is longer than what came in: it says more and counts as full. Else prove '..UptoSaid'. A law counts once. -/
mutual
def uptoBulk {H : Type} : DataW H → Nat
  | .lit (.string bytes) => bytes.length + 1
  | .lit _ => 1
  | .nil => 1
  | .ptr d => uptoBulk d + 1
  | .slice elems spare => uptoBulkAll elems + uptoBulkAll spare + 1
  | .agg parts => uptoBulkAll parts + 1
  | .iface _ d => uptoBulk d + 1
  | .map entries => uptoBulkEntries entries + 1
  | .held _ => 1
def uptoBulkAll {H : Type} : List (DataW H) → Nat
  | [] => 0
  | d :: r => uptoBulk d + uptoBulkAll r
def uptoBulkEntries {H : Type} : List (Lit × DataW H) → Nat
  | [] => 0
  | x :: r => uptoBulkEntry x + uptoBulkEntries r
def uptoBulkEntry {H : Type} : Lit × DataW H → Nat
  | (.string bytes, d) => bytes.length + uptoBulk d + 1
  | (_, d) => uptoBulk d + 1
 end
def uptoSmall : (H : Type) → List (DataW H) → Bool := fun _ ds => decide (uptoBulkAll ds ≤ 1048576)
def OpenSpec.upto (s : _root_.Go.ChangeSpec) : _root_.Go.OpenSpec := { _root_.Go.OpenSpec.ofChange s with cond := some uptoSmall }

/-- 'equerrylaw20.FrameSame', WHERE WHAT IT READS IS OF BULK AT MOST 1048576: true; the input reads as it did. -/
def frameSameUptoRow : OpenClaim := { program := "ytocfcfaeboemcaadoor", sum := "986fafc14e620d3e0f32e9860bd55aa082c8f2e57771fd5b68307656a830137f", func := "equerry/equerrylaw20.FrameSame", spec := "frameSame", named := ["equerry/frame.fields", "equerry/crc.halves"], apart := false, laid := [("equerry/crc.halves", laid_equerry_crc_halves), ("equerry/frame.fields", laid_equerry_frame_fields)], narrowed := true }
def FrameSameUptoSaid : Prop := frameSameUptoRow.holds Tryd.pinned (OpenSpec.upto frameSameSpec)

/-- 'equerrylaw20.FramePuts', WHERE WHAT IT READS IS OF BULK AT MOST 1048576: true; the input reads as it did. -/
def framePutsUptoRow : OpenClaim := { program := "ytocfcfaeboemcaadoor", sum := "986fafc14e620d3e0f32e9860bd55aa082c8f2e57771fd5b68307656a830137f", func := "equerry/equerrylaw20.FramePuts", spec := "framePuts", named := ["equerry/frame.fields", "equerry/crc.halves"], apart := false, laid := [("equerry/crc.halves", laid_equerry_crc_halves), ("equerry/frame.fields", laid_equerry_frame_fields)], narrowed := true }
def FramePutsUptoSaid : Prop := framePutsUptoRow.holds Tryd.pinned (OpenSpec.upto framePutsSpec)

/-- 'equerrylaw20.FrameGets', WHERE WHAT IT READS IS OF BULK AT MOST 1048576: true; the input reads as it did. -/
def frameGetsUptoRow : OpenClaim := { program := "ytocfcfaeboemcaadoor", sum := "986fafc14e620d3e0f32e9860bd55aa082c8f2e57771fd5b68307656a830137f", func := "equerry/equerrylaw20.FrameGets", spec := "frameGets", named := ["equerry/frame.fields", "equerry/crc.halves"], apart := false, laid := [("equerry/crc.halves", laid_equerry_crc_halves), ("equerry/frame.fields", laid_equerry_frame_fields)], narrowed := true }
def FrameGetsUptoSaid : Prop := frameGetsUptoRow.holds Tryd.pinned (OpenSpec.upto frameGetsSpec)

/-- 'equerrylaw21.StreamCuts', WHERE WHAT IT READS IS OF BULK AT MOST 1048576: true; the input reads as it did. -/
def streamCutsUptoRow : OpenClaim := { program := "ytocfcfaeboemcaadoor", sum := "986fafc14e620d3e0f32e9860bd55aa082c8f2e57771fd5b68307656a830137f", func := "equerry/equerrylaw21.StreamCuts", spec := "streamCuts", named := ["equerry/crc.halves", "equerry/frame.fields"], apart := false, laid := [("equerry/crc.halves", laid_equerry_crc_halves), ("equerry/frame.fields", laid_equerry_frame_fields)], narrowed := true }
def StreamCutsUptoSaid : Prop := streamCutsUptoRow.holds Tryd.pinned (OpenSpec.upto streamCutsSpec)

/-- 'equerrylaw21.StreamNil', WHERE WHAT IT READS IS OF BULK AT MOST 1048576: true; the input reads as it did. -/
def streamNilUptoRow : OpenClaim := { program := "ytocfcfaeboemcaadoor", sum := "986fafc14e620d3e0f32e9860bd55aa082c8f2e57771fd5b68307656a830137f", func := "equerry/equerrylaw21.StreamNil", spec := "streamNil", named := ["equerry/crc.halves", "equerry/frame.fields"], apart := false, laid := [("equerry/crc.halves", laid_equerry_crc_halves), ("equerry/frame.fields", laid_equerry_frame_fields)], narrowed := true }
def StreamNilUptoSaid : Prop := streamNilUptoRow.holds Tryd.pinned (OpenSpec.upto streamNilSpec)

end Rows
end Go.Proofs.YtocfcfaeboemcaaDoor
