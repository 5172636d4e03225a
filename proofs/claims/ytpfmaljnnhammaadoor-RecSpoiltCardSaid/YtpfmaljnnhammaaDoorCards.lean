/-
  DERIVED. GIVEN WITH THE SEED: THE CARDS: each row of YtpfmaljnnhammaaDoorRows.lean that lists a variable, with what it lists TIED to the program's text (the seventh form; the later family's looks); each row that meets fmt, with fmt's text TOLD by the authors' own Lean function (tested against real Go, not proved from fmt's source: count such statements apart). THE CARD IS WHAT COUNTS. Prove the row's statement (the work); the ties are given (YtpfmaljnnhammaaDoorTie.lean); close each card by the builder's one call (the guide's Derived/Test/ToyasCard.lean, 'card_holds'). Laid BY PROGRAM, IN A SANDBOX (cutbox-door.mjs). By AI agents, Wed Nov 11 2026. No macro, syntax, notation, axiom, sorry.
-/
import Derived.Test.YtpfmaljnnhammaaDoorRows
import GoSem.ClaimSeven
namespace Go.Proofs.YtpfmaljnnhammaaDoor
namespace Rows

/-- THE TIED CARD OF 'equerrylaw01.CrcSums'. -/
def crcSumsCard : Claim7 := { stood := { row := crcSumsRow, standIns := [], harness := (true, "a646421eccad4d032a993308cc63f3cc59742fded8bc31a0acc4e69d55aca10d"), looks := false }, kinds := [], alts := [], laidByText := true, laidKinds := [.data], laidTests := true, laidLooks := .later }
def CrcSumsCardSaid : Prop := Claim7.holds Tryd.pinned (.plain (OpenSpec.ofChange crcSumsSpec)) crcSumsCard

/-- THE TIED CARD OF 'equerrylaw01.CrcSpoilt'. -/
def crcSpoiltCard : Claim7 := { stood := { row := crcSpoiltRow, standIns := [], harness := (true, "a646421eccad4d032a993308cc63f3cc59742fded8bc31a0acc4e69d55aca10d"), looks := false }, kinds := [], alts := [], laidByText := true, laidKinds := [.data], laidTests := true, laidLooks := .later }
def CrcSpoiltCardSaid : Prop := Claim7.holds Tryd.pinned (.plain (OpenSpec.ofChange crcSpoiltSpec)) crcSpoiltCard

/-- THE TIED CARD OF 'equerrylaw01.CrcParts'. -/
def crcPartsCard : Claim7 := { stood := { row := crcPartsRow, standIns := [], harness := (true, "a646421eccad4d032a993308cc63f3cc59742fded8bc31a0acc4e69d55aca10d"), looks := false }, kinds := [], alts := [], laidByText := true, laidKinds := [.data], laidTests := true, laidLooks := .later }
def CrcPartsCardSaid : Prop := Claim7.holds Tryd.pinned (.plain (OpenSpec.ofChange crcPartsSpec)) crcPartsCard

/-- THE TIED CARD OF 'equerrylaw08.RecPuts'. -/
def recPutsCard : Claim7 := { stood := { row := recPutsRow, standIns := [], harness := (true, "a646421eccad4d032a993308cc63f3cc59742fded8bc31a0acc4e69d55aca10d"), looks := false }, kinds := [], alts := [], laidByText := true, laidKinds := [.data], laidTests := true, laidLooks := .later }
def RecPutsCardSaid : Prop := Claim7.holds Tryd.pinned (.plain (OpenSpec.ofChange recPutsSpec)) recPutsCard

/-- THE TIED CARD OF 'equerrylaw08.RecSpoilt'. -/
def recSpoiltCard : Claim7 := { stood := { row := recSpoiltRow, standIns := [], harness := (true, "a646421eccad4d032a993308cc63f3cc59742fded8bc31a0acc4e69d55aca10d"), looks := false }, kinds := [], alts := [], laidByText := true, laidKinds := [.data], laidTests := true, laidLooks := .later }
def RecSpoiltCardSaid : Prop := Claim7.holds Tryd.pinned (.plain (OpenSpec.ofChange recSpoiltSpec)) recSpoiltCard

/-- THE TIED CARD OF 'equerrylaw08.RecGets'. -/
def recGetsCard : Claim7 := { stood := { row := recGetsRow, standIns := [], harness := (true, "a646421eccad4d032a993308cc63f3cc59742fded8bc31a0acc4e69d55aca10d"), looks := false }, kinds := [], alts := [], laidByText := true, laidKinds := [.data], laidTests := true, laidLooks := .later }
def RecGetsCardSaid : Prop := Claim7.holds Tryd.pinned (.plain (OpenSpec.ofChange recGetsSpec)) recGetsCard

/-- THE TIED CARD OF 'equerrylaw08.RecRow'. -/
def recRowCard : Claim7 := { stood := { row := recRowRow, standIns := [], harness := (true, "a646421eccad4d032a993308cc63f3cc59742fded8bc31a0acc4e69d55aca10d"), looks := false }, kinds := [], alts := [], laidByText := true, laidKinds := [.data], laidTests := true, laidLooks := .later }
def RecRowCardSaid : Prop := Claim7.holds Tryd.pinned (.plain (OpenSpec.ofChange recRowSpec)) recRowCard

/-- THE SECOND FORM's CARD OF 'equerrylaw01.CrcSums'. -/
def crcSumsUptoCard : Claim7 := { stood := { row := crcSumsUptoRow, standIns := [], harness := (true, "a646421eccad4d032a993308cc63f3cc59742fded8bc31a0acc4e69d55aca10d"), looks := false }, kinds := [], alts := [], laidByText := true, laidKinds := [.data], laidTests := true, laidLooks := .later }
def CrcSumsUptoCardSaid : Prop := Claim7.holds Tryd.pinned (.plain (OpenSpec.upto crcSumsSpec)) crcSumsUptoCard

/-- THE SECOND FORM's CARD OF 'equerrylaw01.CrcSpoilt'. -/
def crcSpoiltUptoCard : Claim7 := { stood := { row := crcSpoiltUptoRow, standIns := [], harness := (true, "a646421eccad4d032a993308cc63f3cc59742fded8bc31a0acc4e69d55aca10d"), looks := false }, kinds := [], alts := [], laidByText := true, laidKinds := [.data], laidTests := true, laidLooks := .later }
def CrcSpoiltUptoCardSaid : Prop := Claim7.holds Tryd.pinned (.plain (OpenSpec.upto crcSpoiltSpec)) crcSpoiltUptoCard

/-- THE SECOND FORM's CARD OF 'equerrylaw01.CrcParts'. -/
def crcPartsUptoCard : Claim7 := { stood := { row := crcPartsUptoRow, standIns := [], harness := (true, "a646421eccad4d032a993308cc63f3cc59742fded8bc31a0acc4e69d55aca10d"), looks := false }, kinds := [], alts := [], laidByText := true, laidKinds := [.data], laidTests := true, laidLooks := .later }
def CrcPartsUptoCardSaid : Prop := Claim7.holds Tryd.pinned (.plain (OpenSpec.upto crcPartsSpec)) crcPartsUptoCard

/-- THE SECOND FORM's CARD OF 'equerrylaw08.RecPuts'. -/
def recPutsUptoCard : Claim7 := { stood := { row := recPutsUptoRow, standIns := [], harness := (true, "a646421eccad4d032a993308cc63f3cc59742fded8bc31a0acc4e69d55aca10d"), looks := false }, kinds := [], alts := [], laidByText := true, laidKinds := [.data], laidTests := true, laidLooks := .later }
def RecPutsUptoCardSaid : Prop := Claim7.holds Tryd.pinned (.plain (OpenSpec.upto recPutsSpec)) recPutsUptoCard

/-- THE SECOND FORM's CARD OF 'equerrylaw08.RecSpoilt'. -/
def recSpoiltUptoCard : Claim7 := { stood := { row := recSpoiltUptoRow, standIns := [], harness := (true, "a646421eccad4d032a993308cc63f3cc59742fded8bc31a0acc4e69d55aca10d"), looks := false }, kinds := [], alts := [], laidByText := true, laidKinds := [.data], laidTests := true, laidLooks := .later }
def RecSpoiltUptoCardSaid : Prop := Claim7.holds Tryd.pinned (.plain (OpenSpec.upto recSpoiltSpec)) recSpoiltUptoCard

/-- THE SECOND FORM's CARD OF 'equerrylaw08.RecGets'. -/
def recGetsUptoCard : Claim7 := { stood := { row := recGetsUptoRow, standIns := [], harness := (true, "a646421eccad4d032a993308cc63f3cc59742fded8bc31a0acc4e69d55aca10d"), looks := false }, kinds := [], alts := [], laidByText := true, laidKinds := [.data], laidTests := true, laidLooks := .later }
def RecGetsUptoCardSaid : Prop := Claim7.holds Tryd.pinned (.plain (OpenSpec.upto recGetsSpec)) recGetsUptoCard

/-- THE SECOND FORM's CARD OF 'equerrylaw08.RecRow'. -/
def recRowUptoCard : Claim7 := { stood := { row := recRowUptoRow, standIns := [], harness := (true, "a646421eccad4d032a993308cc63f3cc59742fded8bc31a0acc4e69d55aca10d"), looks := false }, kinds := [], alts := [], laidByText := true, laidKinds := [.data], laidTests := true, laidLooks := .later }
def RecRowUptoCardSaid : Prop := Claim7.holds Tryd.pinned (.plain (OpenSpec.upto recRowSpec)) recRowUptoCard
end Rows
end Go.Proofs.YtpfmaljnnhammaaDoor
