/-
  NARROWER THAN 'FOR EVERY INPUT', by the rows' own cells (each row's printed sentence says how): CrcSums: laid · CrcSpoilt: laid · CrcParts: laid · RecPuts: laid · RecSpoilt: laid · RecGets: laid · RecRow: laid.
  DERIVED. THE GIVEN ROWS OF THIS SEAT. 7 by the template 'for every input the law returns true; each argument reads behind the call as it read before'; 0 by the template 'total and deterministic' (their statements: YtpfmaljnnhammaaDoorTotals.lean).
  GIVEN WITH THE SEED: the statements are not yours to turn. If you find one false, say at which input.
  Laid BY PROGRAM, IN A SANDBOX (cutbox-rows.mjs): the forced cells as the released guide's own fill.sh prints them over the translation 390e09dcd535592a… (all of the seat's roots in one cut). By AI agents, Wed Nov 11 2026. No macro, syntax, notation, axiom, sorry.
-/
import Derived.Test.YtpfmaljnnhammaaDoorChecked
import GoSem.Claim
import GoSem.ClaimJoined
import GoSem.ClaimMapViews
import Derived.JoinedTies
import Derived.KernelRfl
namespace Go.Proofs.YtpfmaljnnhammaaDoor
/- THE CELL 'sum', in the pinned program and in every row, IS THE sha256 OF THE DUMP (.gsa) THAT YtpfmaljnnhammaaDoorProg.lean LOADS. Nothing in Lean hashes anything: it is a label: what it is worth is what the hold of that sum in a sandbox is worth. -/
noncomputable def Tryd.pinned : Pinned := { name := "ytpfmaljnnhammaadoor", sum := "390e09dcd535592a64dc0124db9f450c32857f244b580c164f69d2d809cf8a56", checked := Tryd.checked }
namespace Rows
def none {H : Type} : Left H := { results := [], args := [] }

/- WHAT THE LISTED PACKAGE-LEVEL VARIABLES READ AS WHEN THE CALL BEGINS. Each datum BY PROGRAM (the guide's laid-datum.mjs) off the statement by which the dump's own 'gosem.cut.vars' lays the variable. In a bare row this is a premise. The card (YtpfmaljnnhammaaDoorCards.lean) ties it to the program's text. -/
def laid_equerry_crc_halves {H : Type} : DataW H := .agg [.lit (.int .u32 0), .lit (.int .u32 498536548), .lit (.int .u32 997073096), .lit (.int .u32 651767980), .lit (.int .u32 1994146192), .lit (.int .u32 1802195444), .lit (.int .u32 1303535960), .lit (.int .u32 1342533948), .lit (.int .u32 3988292384), .lit (.int .u32 4027552580), .lit (.int .u32 3604390888), .lit (.int .u32 3412177804), .lit (.int .u32 2607071920), .lit (.int .u32 2262029012), .lit (.int .u32 2685067896), .lit (.int .u32 3183342108)]

/-- 'equerrylaw01.CrcSums': WHATEVER THE INPUT: true; the input reads as it did. -/
def crcSumsSpec : ChangeSpec := { name := "crcSums", fn := fun _ => fun
  | [d1, d2] => { results := [.lit (.bool true)], args := [d1, d2] }
  | _ => none }
def crcSumsRow : OpenClaim := { program := "ytpfmaljnnhammaadoor", sum := "390e09dcd535592a64dc0124db9f450c32857f244b580c164f69d2d809cf8a56", func := "equerry/equerrylaw01.CrcSums", spec := "crcSums", named := ["equerry/crc.halves"], apart := false, laid := [("equerry/crc.halves", laid_equerry_crc_halves)] }
def CrcSumsSaid : Prop := crcSumsRow.holds Tryd.pinned (OpenSpec.ofChange crcSumsSpec)

/-- ITS FALSE NEIGHBOUR: 'it returns false'. Refute it at one input. -/
def crcSumsWrong : ChangeSpec := { name := "crcSums", fn := fun _ => fun
  | [d1, d2] => { results := [.lit (.bool false)], args := [d1, d2] }
  | _ => none }
def CrcSumsWrongFalsely : Prop := crcSumsRow.holds Tryd.pinned (OpenSpec.ofChange crcSumsWrong)

/-- 'equerrylaw01.CrcSpoilt': WHATEVER THE INPUT: true; the input reads as it did. -/
def crcSpoiltSpec : ChangeSpec := { name := "crcSpoilt", fn := fun _ => fun
  | [d1, d2, d3] => { results := [.lit (.bool true)], args := [d1, d2, d3] }
  | _ => none }
def crcSpoiltRow : OpenClaim := { program := "ytpfmaljnnhammaadoor", sum := "390e09dcd535592a64dc0124db9f450c32857f244b580c164f69d2d809cf8a56", func := "equerry/equerrylaw01.CrcSpoilt", spec := "crcSpoilt", named := ["equerry/crc.halves"], apart := false, laid := [("equerry/crc.halves", laid_equerry_crc_halves)] }
def CrcSpoiltSaid : Prop := crcSpoiltRow.holds Tryd.pinned (OpenSpec.ofChange crcSpoiltSpec)

/-- ITS FALSE NEIGHBOUR: 'it returns false'. Refute it at one input. -/
def crcSpoiltWrong : ChangeSpec := { name := "crcSpoilt", fn := fun _ => fun
  | [d1, d2, d3] => { results := [.lit (.bool false)], args := [d1, d2, d3] }
  | _ => none }
def CrcSpoiltWrongFalsely : Prop := crcSpoiltRow.holds Tryd.pinned (OpenSpec.ofChange crcSpoiltWrong)

/-- 'equerrylaw01.CrcParts': WHATEVER THE INPUT: true; the input reads as it did. -/
def crcPartsSpec : ChangeSpec := { name := "crcParts", fn := fun _ => fun
  | [d1, d2] => { results := [.lit (.bool true)], args := [d1, d2] }
  | _ => none }
def crcPartsRow : OpenClaim := { program := "ytpfmaljnnhammaadoor", sum := "390e09dcd535592a64dc0124db9f450c32857f244b580c164f69d2d809cf8a56", func := "equerry/equerrylaw01.CrcParts", spec := "crcParts", named := ["equerry/crc.halves"], apart := false, laid := [("equerry/crc.halves", laid_equerry_crc_halves)] }
def CrcPartsSaid : Prop := crcPartsRow.holds Tryd.pinned (OpenSpec.ofChange crcPartsSpec)

/-- ITS FALSE NEIGHBOUR: 'it returns false'. Refute it at one input. -/
def crcPartsWrong : ChangeSpec := { name := "crcParts", fn := fun _ => fun
  | [d1, d2] => { results := [.lit (.bool false)], args := [d1, d2] }
  | _ => none }
def CrcPartsWrongFalsely : Prop := crcPartsRow.holds Tryd.pinned (OpenSpec.ofChange crcPartsWrong)

/-- 'equerrylaw08.RecPuts': WHATEVER THE INPUT: true; the input reads as it did. -/
def recPutsSpec : ChangeSpec := { name := "recPuts", fn := fun _ => fun
  | [d1, d2, d3] => { results := [.lit (.bool true)], args := [d1, d2, d3] }
  | _ => none }
def recPutsRow : OpenClaim := { program := "ytpfmaljnnhammaadoor", sum := "390e09dcd535592a64dc0124db9f450c32857f244b580c164f69d2d809cf8a56", func := "equerry/equerrylaw08.RecPuts", spec := "recPuts", named := ["equerry/crc.halves"], apart := false, laid := [("equerry/crc.halves", laid_equerry_crc_halves)] }
def RecPutsSaid : Prop := recPutsRow.holds Tryd.pinned (OpenSpec.ofChange recPutsSpec)

/-- ITS FALSE NEIGHBOUR: 'it returns false'. Refute it at one input. -/
def recPutsWrong : ChangeSpec := { name := "recPuts", fn := fun _ => fun
  | [d1, d2, d3] => { results := [.lit (.bool false)], args := [d1, d2, d3] }
  | _ => none }
def RecPutsWrongFalsely : Prop := recPutsRow.holds Tryd.pinned (OpenSpec.ofChange recPutsWrong)

/-- 'equerrylaw08.RecSpoilt': WHATEVER THE INPUT: true; the input reads as it did. -/
def recSpoiltSpec : ChangeSpec := { name := "recSpoilt", fn := fun _ => fun
  | [d1, d2, d3] => { results := [.lit (.bool true)], args := [d1, d2, d3] }
  | _ => none }
def recSpoiltRow : OpenClaim := { program := "ytpfmaljnnhammaadoor", sum := "390e09dcd535592a64dc0124db9f450c32857f244b580c164f69d2d809cf8a56", func := "equerry/equerrylaw08.RecSpoilt", spec := "recSpoilt", named := ["equerry/crc.halves"], apart := false, laid := [("equerry/crc.halves", laid_equerry_crc_halves)] }
def RecSpoiltSaid : Prop := recSpoiltRow.holds Tryd.pinned (OpenSpec.ofChange recSpoiltSpec)

/-- ITS FALSE NEIGHBOUR: 'it returns false'. Refute it at one input. -/
def recSpoiltWrong : ChangeSpec := { name := "recSpoilt", fn := fun _ => fun
  | [d1, d2, d3] => { results := [.lit (.bool false)], args := [d1, d2, d3] }
  | _ => none }
def RecSpoiltWrongFalsely : Prop := recSpoiltRow.holds Tryd.pinned (OpenSpec.ofChange recSpoiltWrong)

/-- 'equerrylaw08.RecGets': WHATEVER THE INPUT: true; the input reads as it did. -/
def recGetsSpec : ChangeSpec := { name := "recGets", fn := fun _ => fun
  | [d1, d2] => { results := [.lit (.bool true)], args := [d1, d2] }
  | _ => none }
def recGetsRow : OpenClaim := { program := "ytpfmaljnnhammaadoor", sum := "390e09dcd535592a64dc0124db9f450c32857f244b580c164f69d2d809cf8a56", func := "equerry/equerrylaw08.RecGets", spec := "recGets", named := ["equerry/crc.halves"], apart := false, laid := [("equerry/crc.halves", laid_equerry_crc_halves)] }
def RecGetsSaid : Prop := recGetsRow.holds Tryd.pinned (OpenSpec.ofChange recGetsSpec)

/-- ITS FALSE NEIGHBOUR: 'it returns false'. Refute it at one input. -/
def recGetsWrong : ChangeSpec := { name := "recGets", fn := fun _ => fun
  | [d1, d2] => { results := [.lit (.bool false)], args := [d1, d2] }
  | _ => none }
def RecGetsWrongFalsely : Prop := recGetsRow.holds Tryd.pinned (OpenSpec.ofChange recGetsWrong)

/-- 'equerrylaw08.RecRow': WHATEVER THE INPUT: true; the input reads as it did. -/
def recRowSpec : ChangeSpec := { name := "recRow", fn := fun _ => fun
  | [d1, d2] => { results := [.lit (.bool true)], args := [d1, d2] }
  | _ => none }
def recRowRow : OpenClaim := { program := "ytpfmaljnnhammaadoor", sum := "390e09dcd535592a64dc0124db9f450c32857f244b580c164f69d2d809cf8a56", func := "equerry/equerrylaw08.RecRow", spec := "recRow", named := ["equerry/crc.halves"], apart := false, laid := [("equerry/crc.halves", laid_equerry_crc_halves)] }
def RecRowSaid : Prop := recRowRow.holds Tryd.pinned (OpenSpec.ofChange recRowSpec)

/-- ITS FALSE NEIGHBOUR: 'it returns false'. Refute it at one input. -/
def recRowWrong : ChangeSpec := { name := "recRow", fn := fun _ => fun
  | [d1, d2] => { results := [.lit (.bool false)], args := [d1, d2] }
  | _ => none }
def RecRowWrongFalsely : Prop := recRowRow.holds Tryd.pinned (OpenSpec.ofChange recRowWrong)

/- THE SECOND FORM. 'bulk': how many values and letters a reading holds, each counted each time it is reached (what is shared counts as often as it is met; a slice's spare places count too). A statement '..UptoSaid' is the law's where the arguments, and the package variables that the reading takes, are together of bulk at most 1048576: NARROWER than '..Said'. Prove '..Said' where nothing that the law and all that it calls make is longer than what came in: it says more and counts as full. Else prove '..UptoSaid'. A law counts once. -/
mutual
def uptoBulk {H : Type} : DataW H → Nat
  | .lit (.string bytes) => bytes.length + 1
  | .lit _ => 1
  | .nil => 1
  | .ptr d => uptoBulk d + 1
  | .slice elems spare => uptoBulkAll elems + uptoBulkAll spare + 1
  | .agg parts => uptoBulkAll parts + 1
  | .iface _ d => uptoBulk d + 1
  | .map entries => uptoBulkEntries entries + 1
  | .held _ => 1
def uptoBulkAll {H : Type} : List (DataW H) → Nat
  | [] => 0
  | d :: r => uptoBulk d + uptoBulkAll r
def uptoBulkEntries {H : Type} : List (Lit × DataW H) → Nat
  | [] => 0
  | x :: r => uptoBulkEntry x + uptoBulkEntries r
def uptoBulkEntry {H : Type} : Lit × DataW H → Nat
  | (.string bytes, d) => bytes.length + uptoBulk d + 1
  | (_, d) => uptoBulk d + 1
 end
def uptoSmall : (H : Type) → List (DataW H) → Bool := fun _ ds => decide (uptoBulkAll ds ≤ 1048576)
def OpenSpec.upto (s : _root_.Go.ChangeSpec) : _root_.Go.OpenSpec := { _root_.Go.OpenSpec.ofChange s with cond := some uptoSmall }

/-- 'equerrylaw01.CrcSums', WHERE WHAT IT READS IS OF BULK AT MOST 1048576: true; the input reads as it did. -/
def crcSumsUptoRow : OpenClaim := { program := "ytpfmaljnnhammaadoor", sum := "390e09dcd535592a64dc0124db9f450c32857f244b580c164f69d2d809cf8a56", func := "equerry/equerrylaw01.CrcSums", spec := "crcSums", named := ["equerry/crc.halves"], apart := false, laid := [("equerry/crc.halves", laid_equerry_crc_halves)], narrowed := true }
def CrcSumsUptoSaid : Prop := crcSumsUptoRow.holds Tryd.pinned (OpenSpec.upto crcSumsSpec)

/-- 'equerrylaw01.CrcSpoilt', WHERE WHAT IT READS IS OF BULK AT MOST 1048576: true; the input reads as it did. -/
def crcSpoiltUptoRow : OpenClaim := { program := "ytpfmaljnnhammaadoor", sum := "390e09dcd535592a64dc0124db9f450c32857f244b580c164f69d2d809cf8a56", func := "equerry/equerrylaw01.CrcSpoilt", spec := "crcSpoilt", named := ["equerry/crc.halves"], apart := false, laid := [("equerry/crc.halves", laid_equerry_crc_halves)], narrowed := true }
def CrcSpoiltUptoSaid : Prop := crcSpoiltUptoRow.holds Tryd.pinned (OpenSpec.upto crcSpoiltSpec)

/-- 'equerrylaw01.CrcParts', WHERE WHAT IT READS IS OF BULK AT MOST 1048576: true; the input reads as it did. -/
def crcPartsUptoRow : OpenClaim := { program := "ytpfmaljnnhammaadoor", sum := "390e09dcd535592a64dc0124db9f450c32857f244b580c164f69d2d809cf8a56", func := "equerry/equerrylaw01.CrcParts", spec := "crcParts", named := ["equerry/crc.halves"], apart := false, laid := [("equerry/crc.halves", laid_equerry_crc_halves)], narrowed := true }
def CrcPartsUptoSaid : Prop := crcPartsUptoRow.holds Tryd.pinned (OpenSpec.upto crcPartsSpec)

/-- 'equerrylaw08.RecPuts', WHERE WHAT IT READS IS OF BULK AT MOST 1048576: true; the input reads as it did. -/
def recPutsUptoRow : OpenClaim := { program := "ytpfmaljnnhammaadoor", sum := "390e09dcd535592a64dc0124db9f450c32857f244b580c164f69d2d809cf8a56", func := "equerry/equerrylaw08.RecPuts", spec := "recPuts", named := ["equerry/crc.halves"], apart := false, laid := [("equerry/crc.halves", laid_equerry_crc_halves)], narrowed := true }
def RecPutsUptoSaid : Prop := recPutsUptoRow.holds Tryd.pinned (OpenSpec.upto recPutsSpec)

/-- 'equerrylaw08.RecSpoilt', WHERE WHAT IT READS IS OF BULK AT MOST 1048576: true; the input reads as it did. -/
def recSpoiltUptoRow : OpenClaim := { program := "ytpfmaljnnhammaadoor", sum := "390e09dcd535592a64dc0124db9f450c32857f244b580c164f69d2d809cf8a56", func := "equerry/equerrylaw08.RecSpoilt", spec := "recSpoilt", named := ["equerry/crc.halves"], apart := false, laid := [("equerry/crc.halves", laid_equerry_crc_halves)], narrowed := true }
def RecSpoiltUptoSaid : Prop := recSpoiltUptoRow.holds Tryd.pinned (OpenSpec.upto recSpoiltSpec)

/-- 'equerrylaw08.RecGets', WHERE WHAT IT READS IS OF BULK AT MOST 1048576: true; the input reads as it did. -/
def recGetsUptoRow : OpenClaim := { program := "ytpfmaljnnhammaadoor", sum := "390e09dcd535592a64dc0124db9f450c32857f244b580c164f69d2d809cf8a56", func := "equerry/equerrylaw08.RecGets", spec := "recGets", named := ["equerry/crc.halves"], apart := false, laid := [("equerry/crc.halves", laid_equerry_crc_halves)], narrowed := true }
def RecGetsUptoSaid : Prop := recGetsUptoRow.holds Tryd.pinned (OpenSpec.upto recGetsSpec)

/-- 'equerrylaw08.RecRow', WHERE WHAT IT READS IS OF BULK AT MOST 1048576: true; the input reads as it did. -/
def recRowUptoRow : OpenClaim := { program := "ytpfmaljnnhammaadoor", sum := "390e09dcd535592a64dc0124db9f450c32857f244b580c164f69d2d809cf8a56", func := "equerry/equerrylaw08.RecRow", spec := "recRow", named := ["equerry/crc.halves"], apart := false, laid := [("equerry/crc.halves", laid_equerry_crc_halves)], narrowed := true }
def RecRowUptoSaid : Prop := recRowUptoRow.holds Tryd.pinned (OpenSpec.upto recRowSpec)

end Rows
end Go.Proofs.YtpfmaljnnhammaaDoor
