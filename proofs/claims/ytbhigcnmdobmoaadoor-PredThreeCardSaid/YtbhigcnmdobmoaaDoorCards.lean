/-
  DERIVED. GIVEN WITH THE SEED: THE CARDS: each row of YtbhigcnmdobmoaaDoorRows.lean that lists a variable, with what it lists TIED to the program's text (the seventh form; the later family's looks); each row that meets fmt, with fmt's text TOLD by the authors' own Lean function (tested against real Go, not proved from fmt's source: count such statements apart). THE CARD IS WHAT COUNTS. Prove the row's statement (the work); the ties are given (YtbhigcnmdobmoaaDoorTie.lean); close each card by the builder's one call (the guide's Derived/Test/ToyasCard.lean, 'card_holds'). Laid BY PROGRAM, IN A SANDBOX (cutbox-door.mjs). By AI agents, Wed Nov 11 2026. No macro, syntax, notation, axiom, sorry.
-/
import Derived.Test.YtbhigcnmdobmoaaDoorRows
import GoSem.ClaimSeven
namespace Go.Proofs.YtbhigcnmdobmoaaDoor
namespace Rows

/-- THE TIED CARD OF 'equerrylaw10.PredHolds'. -/
def predHoldsCard : Claim7 := { stood := { row := predHoldsRow, standIns := [], harness := (true, "d347f985330d8e57b30f69bb9caf91e7c30116f3ae18b4a98a1e934bb0ff8bce"), looks := false }, kinds := [], alts := [], laidByText := true, laidKinds := [.data], laidTests := true, laidLooks := .later }
def PredHoldsCardSaid : Prop := Claim7.holds Tryd.pinned (.plain (OpenSpec.ofChange predHoldsSpec)) predHoldsCard

/-- THE TIED CARD OF 'equerrylaw10.PredThree'. -/
def predThreeCard : Claim7 := { stood := { row := predThreeRow, standIns := [], harness := (true, "d347f985330d8e57b30f69bb9caf91e7c30116f3ae18b4a98a1e934bb0ff8bce"), looks := false }, kinds := [], alts := [], laidByText := true, laidKinds := [.data], laidTests := true, laidLooks := .later }
def PredThreeCardSaid : Prop := Claim7.holds Tryd.pinned (.plain (OpenSpec.ofChange predThreeSpec)) predThreeCard

/-- THE TIED CARD OF 'equerrylaw10.PredSame'. -/
def predSameCard : Claim7 := { stood := { row := predSameRow, standIns := [], harness := (true, "d347f985330d8e57b30f69bb9caf91e7c30116f3ae18b4a98a1e934bb0ff8bce"), looks := false }, kinds := [], alts := [], laidByText := true, laidKinds := [.data], laidTests := true, laidLooks := .later }
def PredSameCardSaid : Prop := Claim7.holds Tryd.pinned (.plain (OpenSpec.ofChange predSameSpec)) predSameCard

/-- THE TIED CARD OF 'equerrylaw10.PredPuts'. -/
def predPutsCard : Claim7 := { stood := { row := predPutsRow, standIns := [], harness := (true, "d347f985330d8e57b30f69bb9caf91e7c30116f3ae18b4a98a1e934bb0ff8bce"), looks := false }, kinds := [], alts := [], laidByText := true, laidKinds := [.data], laidTests := true, laidLooks := .later }
def PredPutsCardSaid : Prop := Claim7.holds Tryd.pinned (.plain (OpenSpec.ofChange predPutsSpec)) predPutsCard

/-- THE SECOND FORM's CARD OF 'equerrylaw10.PredHolds'. -/
def predHoldsUptoCard : Claim7 := { stood := { row := predHoldsUptoRow, standIns := [], harness := (true, "d347f985330d8e57b30f69bb9caf91e7c30116f3ae18b4a98a1e934bb0ff8bce"), looks := false }, kinds := [], alts := [], laidByText := true, laidKinds := [.data], laidTests := true, laidLooks := .later }
def PredHoldsUptoCardSaid : Prop := Claim7.holds Tryd.pinned (.plain (OpenSpec.upto predHoldsSpec)) predHoldsUptoCard

/-- THE SECOND FORM's CARD OF 'equerrylaw10.PredThree'. -/
def predThreeUptoCard : Claim7 := { stood := { row := predThreeUptoRow, standIns := [], harness := (true, "d347f985330d8e57b30f69bb9caf91e7c30116f3ae18b4a98a1e934bb0ff8bce"), looks := false }, kinds := [], alts := [], laidByText := true, laidKinds := [.data], laidTests := true, laidLooks := .later }
def PredThreeUptoCardSaid : Prop := Claim7.holds Tryd.pinned (.plain (OpenSpec.upto predThreeSpec)) predThreeUptoCard

/-- THE SECOND FORM's CARD OF 'equerrylaw10.PredSame'. -/
def predSameUptoCard : Claim7 := { stood := { row := predSameUptoRow, standIns := [], harness := (true, "d347f985330d8e57b30f69bb9caf91e7c30116f3ae18b4a98a1e934bb0ff8bce"), looks := false }, kinds := [], alts := [], laidByText := true, laidKinds := [.data], laidTests := true, laidLooks := .later }
def PredSameUptoCardSaid : Prop := Claim7.holds Tryd.pinned (.plain (OpenSpec.upto predSameSpec)) predSameUptoCard

/-- THE SECOND FORM's CARD OF 'equerrylaw10.PredPuts'. -/
def predPutsUptoCard : Claim7 := { stood := { row := predPutsUptoRow, standIns := [], harness := (true, "d347f985330d8e57b30f69bb9caf91e7c30116f3ae18b4a98a1e934bb0ff8bce"), looks := false }, kinds := [], alts := [], laidByText := true, laidKinds := [.data], laidTests := true, laidLooks := .later }
def PredPutsUptoCardSaid : Prop := Claim7.holds Tryd.pinned (.plain (OpenSpec.upto predPutsSpec)) predPutsUptoCard
end Rows
end Go.Proofs.YtbhigcnmdobmoaaDoor
