/-
  No cell of these rows narrows 'for every input' (looked for: loops, veiled, ifaces, maps, wideKeys, modest, calm, conditions, laid).
  DERIVED. THE GIVEN ROWS OF THIS SEAT. 6 by the template 'for every input the law returns true; each argument reads behind the call as it read before'; 0 by the template 'total and deterministic' (their statements: YtocfcfaeboemcaaTotals.lean).
  GIVEN WITH THE SEED: the statements are not yours to turn. If you find one false, say at which input.
  Laid BY PROGRAM, IN A SANDBOX (cutbox-rows.mjs): the forced cells as the released guide's own fill.sh prints them over the translation 8f8486d6455aa4f1… (all of the seat's roots in one cut). By AI agents, Wed Nov 11 2026. No macro, syntax, notation, axiom, sorry.
-/
import Derived.Test.YtocfcfaeboemcaaChecked
import GoSem.Claim
import GoSem.ClaimJoined
import GoSem.ClaimMapViews
import Derived.JoinedTies
import Derived.KernelRfl
namespace Go.Proofs.Ytocfcfaeboemcaa
/- THE CELL 'sum', in the pinned program and in every row, IS THE sha256 OF THE DUMP (.gsa) THAT YtocfcfaeboemcaaProg.lean LOADS. Nothing in Lean hashes anything: it is a label: what it is worth is what the hold of that sum in a sandbox is worth. -/
noncomputable def Try.pinned : Pinned := { name := "ytocfcfaeboemcaa", sum := "8f8486d6455aa4f19e39126618471634964943bcc116e6bb09dafb1e3915cc75", checked := Try.checked }
namespace Rows
def none {H : Type} : Left H := { results := [], args := [] }

/-- 'equerrylaw25.ClientOnce': WHATEVER THE INPUT: true; the input reads as it did. -/
def clientOnceSpec : ChangeSpec := { name := "clientOnce", fn := fun _ => fun
  | [d1, d2, d3] => { results := [.lit (.bool true)], args := [d1, d2, d3] }
  | _ => none }
def clientOnceRow : OpenClaim := { program := "ytocfcfaeboemcaa", sum := "8f8486d6455aa4f19e39126618471634964943bcc116e6bb09dafb1e3915cc75", func := "equerry/equerrylaw25.ClientOnce", spec := "clientOnce", apart := false }
def ClientOnceSaid : Prop := clientOnceRow.holds Try.pinned (OpenSpec.ofChange clientOnceSpec)

/-- ITS FALSE NEIGHBOUR: 'it returns false'. Refute it at one input. -/
def clientOnceWrong : ChangeSpec := { name := "clientOnce", fn := fun _ => fun
  | [d1, d2, d3] => { results := [.lit (.bool false)], args := [d1, d2, d3] }
  | _ => none }
def ClientOnceWrongFalsely : Prop := clientOnceRow.holds Try.pinned (OpenSpec.ofChange clientOnceWrong)

/-- 'equerrylaw25.ClientNil': WHATEVER THE INPUT: true; the input reads as it did. -/
def clientNilSpec : ChangeSpec := { name := "clientNil", fn := fun _ => fun
  | [d] => { results := [.lit (.bool true)], args := [d] }
  | _ => none }
def clientNilRow : OpenClaim := { program := "ytocfcfaeboemcaa", sum := "8f8486d6455aa4f19e39126618471634964943bcc116e6bb09dafb1e3915cc75", func := "equerry/equerrylaw25.ClientNil", spec := "clientNil", apart := false }
def ClientNilSaid : Prop := clientNilRow.holds Try.pinned (OpenSpec.ofChange clientNilSpec)

/-- ITS FALSE NEIGHBOUR: 'it returns false'. Refute it at one input. -/
def clientNilWrong : ChangeSpec := { name := "clientNil", fn := fun _ => fun
  | [d] => { results := [.lit (.bool false)], args := [d] }
  | _ => none }
def ClientNilWrongFalsely : Prop := clientNilRow.holds Try.pinned (OpenSpec.ofChange clientNilWrong)

/-- 'equerrylaw26.SourceFull': WHATEVER THE INPUT: true; the input reads as it did. -/
def sourceFullSpec : ChangeSpec := { name := "sourceFull", fn := fun _ => fun
  | [d1, d2, d3] => { results := [.lit (.bool true)], args := [d1, d2, d3] }
  | _ => none }
def sourceFullRow : OpenClaim := { program := "ytocfcfaeboemcaa", sum := "8f8486d6455aa4f19e39126618471634964943bcc116e6bb09dafb1e3915cc75", func := "equerry/equerrylaw26.SourceFull", spec := "sourceFull", inPlace := ["math.Float64bits"], unfollowed := true, recurses := true, apart := false }
def SourceFullSaid : Prop := sourceFullRow.holds Try.pinned (OpenSpec.ofChange sourceFullSpec)

/-- ITS FALSE NEIGHBOUR: 'it returns false'. Refute it at one input. -/
def sourceFullWrong : ChangeSpec := { name := "sourceFull", fn := fun _ => fun
  | [d1, d2, d3] => { results := [.lit (.bool false)], args := [d1, d2, d3] }
  | _ => none }
def SourceFullWrongFalsely : Prop := sourceFullRow.holds Try.pinned (OpenSpec.ofChange sourceFullWrong)

/-- 'equerrylaw26.SourceOrder': WHATEVER THE INPUT: true; the input reads as it did. -/
def sourceOrderSpec : ChangeSpec := { name := "sourceOrder", fn := fun _ => fun
  | [d1, d2, d3] => { results := [.lit (.bool true)], args := [d1, d2, d3] }
  | _ => none }
def sourceOrderRow : OpenClaim := { program := "ytocfcfaeboemcaa", sum := "8f8486d6455aa4f19e39126618471634964943bcc116e6bb09dafb1e3915cc75", func := "equerry/equerrylaw26.SourceOrder", spec := "sourceOrder", inPlace := ["math.Float64bits", "math.Float64frombits"], unfollowed := true, recurses := true, apart := false }
def SourceOrderSaid : Prop := sourceOrderRow.holds Try.pinned (OpenSpec.ofChange sourceOrderSpec)

/-- ITS FALSE NEIGHBOUR: 'it returns false'. Refute it at one input. -/
def sourceOrderWrong : ChangeSpec := { name := "sourceOrder", fn := fun _ => fun
  | [d1, d2, d3] => { results := [.lit (.bool false)], args := [d1, d2, d3] }
  | _ => none }
def SourceOrderWrongFalsely : Prop := sourceOrderRow.holds Try.pinned (OpenSpec.ofChange sourceOrderWrong)

/-- 'equerrylaw26.SourcePlays': WHATEVER THE INPUT: true; the input reads as it did. -/
def sourcePlaysSpec : ChangeSpec := { name := "sourcePlays", fn := fun _ => fun
  | [d1, d2, d3] => { results := [.lit (.bool true)], args := [d1, d2, d3] }
  | _ => none }
def sourcePlaysRow : OpenClaim := { program := "ytocfcfaeboemcaa", sum := "8f8486d6455aa4f19e39126618471634964943bcc116e6bb09dafb1e3915cc75", func := "equerry/equerrylaw26.SourcePlays", spec := "sourcePlays", inPlace := ["math.Float64bits", "math.Float64frombits"], unfollowed := true, recurses := true, apart := false }
def SourcePlaysSaid : Prop := sourcePlaysRow.holds Try.pinned (OpenSpec.ofChange sourcePlaysSpec)

/-- ITS FALSE NEIGHBOUR: 'it returns false'. Refute it at one input. -/
def sourcePlaysWrong : ChangeSpec := { name := "sourcePlays", fn := fun _ => fun
  | [d1, d2, d3] => { results := [.lit (.bool false)], args := [d1, d2, d3] }
  | _ => none }
def SourcePlaysWrongFalsely : Prop := sourcePlaysRow.holds Try.pinned (OpenSpec.ofChange sourcePlaysWrong)

/-- 'equerrylaw26.SourceNil': WHATEVER THE INPUT: true; the input reads as it did. -/
def sourceNilSpec : ChangeSpec := { name := "sourceNil", fn := fun _ => fun
  | [d] => { results := [.lit (.bool true)], args := [d] }
  | _ => none }
def sourceNilRow : OpenClaim := { program := "ytocfcfaeboemcaa", sum := "8f8486d6455aa4f19e39126618471634964943bcc116e6bb09dafb1e3915cc75", func := "equerry/equerrylaw26.SourceNil", spec := "sourceNil", inPlace := ["math.Float64frombits", "math.Float64bits"], unfollowed := true, recurses := true, apart := false }
def SourceNilSaid : Prop := sourceNilRow.holds Try.pinned (OpenSpec.ofChange sourceNilSpec)

/-- ITS FALSE NEIGHBOUR: 'it returns false'. Refute it at one input. -/
def sourceNilWrong : ChangeSpec := { name := "sourceNil", fn := fun _ => fun
  | [d] => { results := [.lit (.bool false)], args := [d] }
  | _ => none }
def SourceNilWrongFalsely : Prop := sourceNilRow.holds Try.pinned (OpenSpec.ofChange sourceNilWrong)

/- THE SECOND FORM. 'bulk': how many values and letters a reading holds, each counted each time it is reached (what is shared counts as often as it is met; a slice's spare places count too). A statement '..UptoSaid' is the law's where the arguments, and the package variables that the reading takes, are together of bulk at most 1048576: NARROWER than '..Said'. Prove '..Said' where nothing that the law and all that it calls make is longer than what came in: it says more and counts as full. Else prove '..UptoSaid'. A law counts once. -/
mutual
def uptoBulk {H : Type} : DataW H → Nat
  | .lit (.string bytes) => bytes.length + 1
  | .lit _ => 1
  | .nil => 1
  | .ptr d => uptoBulk d + 1
  | .slice elems spare => uptoBulkAll elems + uptoBulkAll spare + 1
  | .agg parts => uptoBulkAll parts + 1
  | .iface _ d => uptoBulk d + 1
  | .map entries => uptoBulkEntries entries + 1
  | .held _ => 1
def uptoBulkAll {H : Type} : List (DataW H) → Nat
  | [] => 0
  | d :: r => uptoBulk d + uptoBulkAll r
def uptoBulkEntries {H : Type} : List (Lit × DataW H) → Nat
  | [] => 0
  | x :: r => uptoBulkEntry x + uptoBulkEntries r
def uptoBulkEntry {H : Type} : Lit × DataW H → Nat
  | (.string bytes, d) => bytes.length + uptoBulk d + 1
  | (_, d) => uptoBulk d + 1
 end
def uptoSmall : (H : Type) → List (DataW H) → Bool := fun _ ds => decide (uptoBulkAll ds ≤ 1048576)
def OpenSpec.upto (s : _root_.Go.ChangeSpec) : _root_.Go.OpenSpec := { _root_.Go.OpenSpec.ofChange s with cond := some uptoSmall }

/-- 'equerrylaw25.ClientOnce', WHERE WHAT IT READS IS OF BULK AT MOST 1048576: true; the input reads as it did. -/
def clientOnceUptoRow : OpenClaim := { program := "ytocfcfaeboemcaa", sum := "8f8486d6455aa4f19e39126618471634964943bcc116e6bb09dafb1e3915cc75", func := "equerry/equerrylaw25.ClientOnce", spec := "clientOnce", apart := false, narrowed := true }
def ClientOnceUptoSaid : Prop := clientOnceUptoRow.holds Try.pinned (OpenSpec.upto clientOnceSpec)

/-- 'equerrylaw25.ClientNil', WHERE WHAT IT READS IS OF BULK AT MOST 1048576: true; the input reads as it did. -/
def clientNilUptoRow : OpenClaim := { program := "ytocfcfaeboemcaa", sum := "8f8486d6455aa4f19e39126618471634964943bcc116e6bb09dafb1e3915cc75", func := "equerry/equerrylaw25.ClientNil", spec := "clientNil", apart := false, narrowed := true }
def ClientNilUptoSaid : Prop := clientNilUptoRow.holds Try.pinned (OpenSpec.upto clientNilSpec)

/-- 'equerrylaw26.SourceFull', WHERE WHAT IT READS IS OF BULK AT MOST 1048576: true; the input reads as it did. -/
def sourceFullUptoRow : OpenClaim := { program := "ytocfcfaeboemcaa", sum := "8f8486d6455aa4f19e39126618471634964943bcc116e6bb09dafb1e3915cc75", func := "equerry/equerrylaw26.SourceFull", spec := "sourceFull", inPlace := ["math.Float64bits"], unfollowed := true, recurses := true, apart := false, narrowed := true }
def SourceFullUptoSaid : Prop := sourceFullUptoRow.holds Try.pinned (OpenSpec.upto sourceFullSpec)

/-- 'equerrylaw26.SourceOrder', WHERE WHAT IT READS IS OF BULK AT MOST 1048576: true; the input reads as it did. -/
def sourceOrderUptoRow : OpenClaim := { program := "ytocfcfaeboemcaa", sum := "8f8486d6455aa4f19e39126618471634964943bcc116e6bb09dafb1e3915cc75", func := "equerry/equerrylaw26.SourceOrder", spec := "sourceOrder", inPlace := ["math.Float64bits", "math.Float64frombits"], unfollowed := true, recurses := true, apart := false, narrowed := true }
def SourceOrderUptoSaid : Prop := sourceOrderUptoRow.holds Try.pinned (OpenSpec.upto sourceOrderSpec)

/-- 'equerrylaw26.SourcePlays', WHERE WHAT IT READS IS OF BULK AT MOST 1048576: true; the input reads as it did. -/
def sourcePlaysUptoRow : OpenClaim := { program := "ytocfcfaeboemcaa", sum := "8f8486d6455aa4f19e39126618471634964943bcc116e6bb09dafb1e3915cc75", func := "equerry/equerrylaw26.SourcePlays", spec := "sourcePlays", inPlace := ["math.Float64bits", "math.Float64frombits"], unfollowed := true, recurses := true, apart := false, narrowed := true }
def SourcePlaysUptoSaid : Prop := sourcePlaysUptoRow.holds Try.pinned (OpenSpec.upto sourcePlaysSpec)

/-- 'equerrylaw26.SourceNil', WHERE WHAT IT READS IS OF BULK AT MOST 1048576: true; the input reads as it did. -/
def sourceNilUptoRow : OpenClaim := { program := "ytocfcfaeboemcaa", sum := "8f8486d6455aa4f19e39126618471634964943bcc116e6bb09dafb1e3915cc75", func := "equerry/equerrylaw26.SourceNil", spec := "sourceNil", inPlace := ["math.Float64frombits", "math.Float64bits"], unfollowed := true, recurses := true, apart := false, narrowed := true }
def SourceNilUptoSaid : Prop := sourceNilUptoRow.holds Try.pinned (OpenSpec.upto sourceNilSpec)

end Rows
end Go.Proofs.Ytocfcfaeboemcaa
