/-
  DERIVED. GIVEN WITH THE SEED: THE CARDS: each row of YtocfcfaeboemcaaDoorRows.lean that lists a variable, with what it lists TIED to the program's text (the seventh form; the later family's looks); each row that meets fmt, with fmt's text TOLD by the authors' own Lean function (tested against real Go, not proved from fmt's source: count such statements apart). THE CARD IS WHAT COUNTS. Prove the row's statement (the work); the ties are given (YtocfcfaeboemcaaDoorTie.lean); close each card by the builder's one call (the guide's Derived/Test/ToyasCard.lean, 'card_holds'). Laid BY PROGRAM, IN A SANDBOX (cutbox-door.mjs). By AI agents, Wed Nov 11 2026. No macro, syntax, notation, axiom, sorry.
-/
import Derived.Test.YtocfcfaeboemcaaDoorRows
import GoSem.ClaimSeven
namespace Go.Proofs.YtocfcfaeboemcaaDoor
namespace Rows

/-- THE TIED CARD OF 'equerrylaw20.FrameSame'. -/
def frameSameCard : Claim7 := { stood := { row := frameSameRow, standIns := [], harness := (true, "ec7ae32d493e1b2b79620b75b74e159ff27504c001e422bae3c46ecc1d4e3246"), looks := false }, kinds := [], alts := [], laidByText := true, laidKinds := [.data, .data], laidTests := true, laidLooks := .later }
def FrameSameCardSaid : Prop := Claim7.holds Tryd.pinned (.plain (OpenSpec.ofChange frameSameSpec)) frameSameCard

/-- THE TIED CARD OF 'equerrylaw20.FramePuts'. -/
def framePutsCard : Claim7 := { stood := { row := framePutsRow, standIns := [], harness := (true, "ec7ae32d493e1b2b79620b75b74e159ff27504c001e422bae3c46ecc1d4e3246"), looks := false }, kinds := [], alts := [], laidByText := true, laidKinds := [.data, .data], laidTests := true, laidLooks := .later }
def FramePutsCardSaid : Prop := Claim7.holds Tryd.pinned (.plain (OpenSpec.ofChange framePutsSpec)) framePutsCard

/-- THE TIED CARD OF 'equerrylaw20.FrameGets'. -/
def frameGetsCard : Claim7 := { stood := { row := frameGetsRow, standIns := [], harness := (true, "ec7ae32d493e1b2b79620b75b74e159ff27504c001e422bae3c46ecc1d4e3246"), looks := false }, kinds := [], alts := [], laidByText := true, laidKinds := [.data, .data], laidTests := true, laidLooks := .later }
def FrameGetsCardSaid : Prop := Claim7.holds Tryd.pinned (.plain (OpenSpec.ofChange frameGetsSpec)) frameGetsCard

/-- THE TIED CARD OF 'equerrylaw21.StreamCuts'. -/
def streamCutsCard : Claim7 := { stood := { row := streamCutsRow, standIns := [], harness := (true, "ec7ae32d493e1b2b79620b75b74e159ff27504c001e422bae3c46ecc1d4e3246"), looks := false }, kinds := [], alts := [], laidByText := true, laidKinds := [.data, .data], laidTests := true, laidLooks := .later }
def StreamCutsCardSaid : Prop := Claim7.holds Tryd.pinned (.plain (OpenSpec.ofChange streamCutsSpec)) streamCutsCard

/-- THE TIED CARD OF 'equerrylaw21.StreamNil'. -/
def streamNilCard : Claim7 := { stood := { row := streamNilRow, standIns := [], harness := (true, "ec7ae32d493e1b2b79620b75b74e159ff27504c001e422bae3c46ecc1d4e3246"), looks := false }, kinds := [], alts := [], laidByText := true, laidKinds := [.data, .data], laidTests := true, laidLooks := .later }
def StreamNilCardSaid : Prop := Claim7.holds Tryd.pinned (.plain (OpenSpec.ofChange streamNilSpec)) streamNilCard

/-- THE SECOND FORM's CARD OF 'equerrylaw20.FrameSame'. -/
def frameSameUptoCard : Claim7 := { stood := { row := frameSameUptoRow, standIns := [], harness := (true, "ec7ae32d493e1b2b79620b75b74e159ff27504c001e422bae3c46ecc1d4e3246"), looks := false }, kinds := [], alts := [], laidByText := true, laidKinds := [.data, .data], laidTests := true, laidLooks := .later }
def FrameSameUptoCardSaid : Prop := Claim7.holds Tryd.pinned (.plain (OpenSpec.upto frameSameSpec)) frameSameUptoCard

/-- THE SECOND FORM's CARD OF 'equerrylaw20.FramePuts'. -/
def framePutsUptoCard : Claim7 := { stood := { row := framePutsUptoRow, standIns := [], harness := (true, "ec7ae32d493e1b2b79620b75b74e159ff27504c001e422bae3c46ecc1d4e3246"), looks := false }, kinds := [], alts := [], laidByText := true, laidKinds := [.data, .data], laidTests := true, laidLooks := .later }
def FramePutsUptoCardSaid : Prop := Claim7.holds Tryd.pinned (.plain (OpenSpec.upto framePutsSpec)) framePutsUptoCard

/-- THE SECOND FORM's CARD OF 'equerrylaw20.FrameGets'. -/
def frameGetsUptoCard : Claim7 := { stood := { row := frameGetsUptoRow, standIns := [], harness := (true, "ec7ae32d493e1b2b79620b75b74e159ff27504c001e422bae3c46ecc1d4e3246"), looks := false }, kinds := [], alts := [], laidByText := true, laidKinds := [.data, .data], laidTests := true, laidLooks := .later }
def FrameGetsUptoCardSaid : Prop := Claim7.holds Tryd.pinned (.plain (OpenSpec.upto frameGetsSpec)) frameGetsUptoCard

/-- THE SECOND FORM's CARD OF 'equerrylaw21.StreamCuts'. -/
def streamCutsUptoCard : Claim7 := { stood := { row := streamCutsUptoRow, standIns := [], harness := (true, "ec7ae32d493e1b2b79620b75b74e159ff27504c001e422bae3c46ecc1d4e3246"), looks := false }, kinds := [], alts := [], laidByText := true, laidKinds := [.data, .data], laidTests := true, laidLooks := .later }
def StreamCutsUptoCardSaid : Prop := Claim7.holds Tryd.pinned (.plain (OpenSpec.upto streamCutsSpec)) streamCutsUptoCard

/-- THE SECOND FORM's CARD OF 'equerrylaw21.StreamNil'. -/
def streamNilUptoCard : Claim7 := { stood := { row := streamNilUptoRow, standIns := [], harness := (true, "ec7ae32d493e1b2b79620b75b74e159ff27504c001e422bae3c46ecc1d4e3246"), looks := false }, kinds := [], alts := [], laidByText := true, laidKinds := [.data, .data], laidTests := true, laidLooks := .later }
def StreamNilUptoCardSaid : Prop := Claim7.holds Tryd.pinned (.plain (OpenSpec.upto streamNilSpec)) streamNilUptoCard
end Rows
end Go.Proofs.YtocfcfaeboemcaaDoor
