/-
  No cell of these rows narrows 'for every input' (looked for: loops, veiled, ifaces, maps, wideKeys, modest, calm, conditions, laid).
  DERIVED. THE GIVEN ROWS OF THIS SEAT. 12 by the template 'for every input the law returns true; each argument reads behind the call as it read before'; 0 by the template 'total and deterministic' (their statements: YtdioeohfpgikmaaTotals.lean).
  GIVEN WITH THE SEED: the statements are not yours to turn. If you find one false, say at which input.
  Laid BY PROGRAM, IN A SANDBOX (cutbox-rows.mjs): the forced cells as the released guide's own fill.sh prints them over the translation 72e244ef73d3966e… (all of the seat's roots in one cut). By AI agents, Wed Nov 11 2026. No macro, syntax, notation, axiom, sorry.
-/
import Derived.Test.YtdioeohfpgikmaaChecked
import GoSem.Claim
import GoSem.ClaimJoined
import GoSem.ClaimMapViews
import Derived.JoinedTies
import Derived.KernelRfl
namespace Go.Proofs.Ytdioeohfpgikmaa
/- THE CELL 'sum', in the pinned program and in every row, IS THE sha256 OF THE DUMP (.gsa) THAT YtdioeohfpgikmaaProg.lean LOADS. Nothing in Lean hashes anything: it is a label: what it is worth is what the hold of that sum in a sandbox is worth. -/
noncomputable def Try.pinned : Pinned := { name := "ytdioeohfpgikmaa", sum := "72e244ef73d3966e4c7b83c174e15a3b8e64bba6b048a6e8d89e812d000d97fb", checked := Try.checked }
namespace Rows
def none {H : Type} : Left H := { results := [], args := [] }

/-- 'equerrylaw23.BackPauses': WHATEVER THE INPUT: true; the input reads as it did. -/
def backPausesSpec : ChangeSpec := { name := "backPauses", fn := fun _ => fun
  | [d1, d2] => { results := [.lit (.bool true)], args := [d1, d2] }
  | _ => none }
def backPausesRow : OpenClaim := { program := "ytdioeohfpgikmaa", sum := "72e244ef73d3966e4c7b83c174e15a3b8e64bba6b048a6e8d89e812d000d97fb", func := "equerry/equerrylaw23.BackPauses", spec := "backPauses", apart := false }
def BackPausesSaid : Prop := backPausesRow.holds Try.pinned (OpenSpec.ofChange backPausesSpec)

/-- ITS FALSE NEIGHBOUR: 'it returns false'. Refute it at one input. -/
def backPausesWrong : ChangeSpec := { name := "backPauses", fn := fun _ => fun
  | [d1, d2] => { results := [.lit (.bool false)], args := [d1, d2] }
  | _ => none }
def BackPausesWrongFalsely : Prop := backPausesRow.holds Try.pinned (OpenSpec.ofChange backPausesWrong)

/-- 'equerrylaw23.BackNil': WHATEVER THE INPUT: true; the input reads as it did. -/
def backNilSpec : ChangeSpec := { name := "backNil", fn := fun _ => fun
  | [d] => { results := [.lit (.bool true)], args := [d] }
  | _ => none }
def backNilRow : OpenClaim := { program := "ytdioeohfpgikmaa", sum := "72e244ef73d3966e4c7b83c174e15a3b8e64bba6b048a6e8d89e812d000d97fb", func := "equerry/equerrylaw23.BackNil", spec := "backNil", apart := false }
def BackNilSaid : Prop := backNilRow.holds Try.pinned (OpenSpec.ofChange backNilSpec)

/-- ITS FALSE NEIGHBOUR: 'it returns false'. Refute it at one input. -/
def backNilWrong : ChangeSpec := { name := "backNil", fn := fun _ => fun
  | [d] => { results := [.lit (.bool false)], args := [d] }
  | _ => none }
def BackNilWrongFalsely : Prop := backNilRow.holds Try.pinned (OpenSpec.ofChange backNilWrong)

/-- 'equerrylaw23.BackPlays': WHATEVER THE INPUT: true; the input reads as it did. -/
def backPlaysSpec : ChangeSpec := { name := "backPlays", fn := fun _ => fun
  | [d1, d2] => { results := [.lit (.bool true)], args := [d1, d2] }
  | _ => none }
def backPlaysRow : OpenClaim := { program := "ytdioeohfpgikmaa", sum := "72e244ef73d3966e4c7b83c174e15a3b8e64bba6b048a6e8d89e812d000d97fb", func := "equerry/equerrylaw23.BackPlays", spec := "backPlays", apart := false }
def BackPlaysSaid : Prop := backPlaysRow.holds Try.pinned (OpenSpec.ofChange backPlaysSpec)

/-- ITS FALSE NEIGHBOUR: 'it returns false'. Refute it at one input. -/
def backPlaysWrong : ChangeSpec := { name := "backPlays", fn := fun _ => fun
  | [d1, d2] => { results := [.lit (.bool false)], args := [d1, d2] }
  | _ => none }
def BackPlaysWrongFalsely : Prop := backPlaysRow.holds Try.pinned (OpenSpec.ofChange backPlaysWrong)

/-- 'equerrylaw23.BackEnds': WHATEVER THE INPUT: true; the input reads as it did. -/
def backEndsSpec : ChangeSpec := { name := "backEnds", fn := fun _ => fun
  | [d1, d2] => { results := [.lit (.bool true)], args := [d1, d2] }
  | _ => none }
def backEndsRow : OpenClaim := { program := "ytdioeohfpgikmaa", sum := "72e244ef73d3966e4c7b83c174e15a3b8e64bba6b048a6e8d89e812d000d97fb", func := "equerry/equerrylaw23.BackEnds", spec := "backEnds", apart := false }
def BackEndsSaid : Prop := backEndsRow.holds Try.pinned (OpenSpec.ofChange backEndsSpec)

/-- ITS FALSE NEIGHBOUR: 'it returns false'. Refute it at one input. -/
def backEndsWrong : ChangeSpec := { name := "backEnds", fn := fun _ => fun
  | [d1, d2] => { results := [.lit (.bool false)], args := [d1, d2] }
  | _ => none }
def BackEndsWrongFalsely : Prop := backEndsRow.holds Try.pinned (OpenSpec.ofChange backEndsWrong)

/-- 'equerrylaw24.ServeAgain': WHATEVER THE INPUT: true; the input reads as it did. -/
def serveAgainSpec : ChangeSpec := { name := "serveAgain", fn := fun _ => fun
  | [d1, d2, d3, d4, d5] => { results := [.lit (.bool true)], args := [d1, d2, d3, d4, d5] }
  | _ => none }
def serveAgainRow : OpenClaim := { program := "ytdioeohfpgikmaa", sum := "72e244ef73d3966e4c7b83c174e15a3b8e64bba6b048a6e8d89e812d000d97fb", func := "equerry/equerrylaw24.ServeAgain", spec := "serveAgain", apart := false }
def ServeAgainSaid : Prop := serveAgainRow.holds Try.pinned (OpenSpec.ofChange serveAgainSpec)

/-- ITS FALSE NEIGHBOUR: 'it returns false'. Refute it at one input. -/
def serveAgainWrong : ChangeSpec := { name := "serveAgain", fn := fun _ => fun
  | [d1, d2, d3, d4, d5] => { results := [.lit (.bool false)], args := [d1, d2, d3, d4, d5] }
  | _ => none }
def ServeAgainWrongFalsely : Prop := serveAgainRow.holds Try.pinned (OpenSpec.ofChange serveAgainWrong)

/-- 'equerrylaw24.ServeFlows': WHATEVER THE INPUT: true; the input reads as it did. -/
def serveFlowsSpec : ChangeSpec := { name := "serveFlows", fn := fun _ => fun
  | [d1, d2, d3] => { results := [.lit (.bool true)], args := [d1, d2, d3] }
  | _ => none }
def serveFlowsRow : OpenClaim := { program := "ytdioeohfpgikmaa", sum := "72e244ef73d3966e4c7b83c174e15a3b8e64bba6b048a6e8d89e812d000d97fb", func := "equerry/equerrylaw24.ServeFlows", spec := "serveFlows", apart := false }
def ServeFlowsSaid : Prop := serveFlowsRow.holds Try.pinned (OpenSpec.ofChange serveFlowsSpec)

/-- ITS FALSE NEIGHBOUR: 'it returns false'. Refute it at one input. -/
def serveFlowsWrong : ChangeSpec := { name := "serveFlows", fn := fun _ => fun
  | [d1, d2, d3] => { results := [.lit (.bool false)], args := [d1, d2, d3] }
  | _ => none }
def ServeFlowsWrongFalsely : Prop := serveFlowsRow.holds Try.pinned (OpenSpec.ofChange serveFlowsWrong)

/-- 'equerrylaw24.ServeWindow': WHATEVER THE INPUT: true; the input reads as it did. -/
def serveWindowSpec : ChangeSpec := { name := "serveWindow", fn := fun _ => fun
  | [d1, d2, d3] => { results := [.lit (.bool true)], args := [d1, d2, d3] }
  | _ => none }
def serveWindowRow : OpenClaim := { program := "ytdioeohfpgikmaa", sum := "72e244ef73d3966e4c7b83c174e15a3b8e64bba6b048a6e8d89e812d000d97fb", func := "equerry/equerrylaw24.ServeWindow", spec := "serveWindow", apart := false }
def ServeWindowSaid : Prop := serveWindowRow.holds Try.pinned (OpenSpec.ofChange serveWindowSpec)

/-- ITS FALSE NEIGHBOUR: 'it returns false'. Refute it at one input. -/
def serveWindowWrong : ChangeSpec := { name := "serveWindow", fn := fun _ => fun
  | [d1, d2, d3] => { results := [.lit (.bool false)], args := [d1, d2, d3] }
  | _ => none }
def ServeWindowWrongFalsely : Prop := serveWindowRow.holds Try.pinned (OpenSpec.ofChange serveWindowWrong)

/-- 'equerrylaw24.ServePlays': WHATEVER THE INPUT: true; the input reads as it did. -/
def servePlaysSpec : ChangeSpec := { name := "servePlays", fn := fun _ => fun
  | [d1, d2, d3] => { results := [.lit (.bool true)], args := [d1, d2, d3] }
  | _ => none }
def servePlaysRow : OpenClaim := { program := "ytdioeohfpgikmaa", sum := "72e244ef73d3966e4c7b83c174e15a3b8e64bba6b048a6e8d89e812d000d97fb", func := "equerry/equerrylaw24.ServePlays", spec := "servePlays", apart := false }
def ServePlaysSaid : Prop := servePlaysRow.holds Try.pinned (OpenSpec.ofChange servePlaysSpec)

/-- ITS FALSE NEIGHBOUR: 'it returns false'. Refute it at one input. -/
def servePlaysWrong : ChangeSpec := { name := "servePlays", fn := fun _ => fun
  | [d1, d2, d3] => { results := [.lit (.bool false)], args := [d1, d2, d3] }
  | _ => none }
def ServePlaysWrongFalsely : Prop := servePlaysRow.holds Try.pinned (OpenSpec.ofChange servePlaysWrong)

/-- 'equerrylaw24.ServeNil': WHATEVER THE INPUT: true; the input reads as it did. -/
def serveNilSpec : ChangeSpec := { name := "serveNil", fn := fun _ => fun
  | [d] => { results := [.lit (.bool true)], args := [d] }
  | _ => none }
def serveNilRow : OpenClaim := { program := "ytdioeohfpgikmaa", sum := "72e244ef73d3966e4c7b83c174e15a3b8e64bba6b048a6e8d89e812d000d97fb", func := "equerry/equerrylaw24.ServeNil", spec := "serveNil", apart := false }
def ServeNilSaid : Prop := serveNilRow.holds Try.pinned (OpenSpec.ofChange serveNilSpec)

/-- ITS FALSE NEIGHBOUR: 'it returns false'. Refute it at one input. -/
def serveNilWrong : ChangeSpec := { name := "serveNil", fn := fun _ => fun
  | [d] => { results := [.lit (.bool false)], args := [d] }
  | _ => none }
def ServeNilWrongFalsely : Prop := serveNilRow.holds Try.pinned (OpenSpec.ofChange serveNilWrong)

/-- 'equerrylaw16.SnapSame': WHATEVER THE INPUT: true; the input reads as it did. -/
def snapSameSpec : ChangeSpec := { name := "snapSame", fn := fun _ => fun
  | [d1, d2] => { results := [.lit (.bool true)], args := [d1, d2] }
  | _ => none }
def snapSameRow : OpenClaim := { program := "ytdioeohfpgikmaa", sum := "72e244ef73d3966e4c7b83c174e15a3b8e64bba6b048a6e8d89e812d000d97fb", func := "equerry/equerrylaw16.SnapSame", spec := "snapSame", apart := false }
def SnapSameSaid : Prop := snapSameRow.holds Try.pinned (OpenSpec.ofChange snapSameSpec)

/-- ITS FALSE NEIGHBOUR: 'it returns false'. Refute it at one input. -/
def snapSameWrong : ChangeSpec := { name := "snapSame", fn := fun _ => fun
  | [d1, d2] => { results := [.lit (.bool false)], args := [d1, d2] }
  | _ => none }
def SnapSameWrongFalsely : Prop := snapSameRow.holds Try.pinned (OpenSpec.ofChange snapSameWrong)

/-- 'equerrylaw16.SnapPuts': WHATEVER THE INPUT: true; the input reads as it did. -/
def snapPutsSpec : ChangeSpec := { name := "snapPuts", fn := fun _ => fun
  | [d] => { results := [.lit (.bool true)], args := [d] }
  | _ => none }
def snapPutsRow : OpenClaim := { program := "ytdioeohfpgikmaa", sum := "72e244ef73d3966e4c7b83c174e15a3b8e64bba6b048a6e8d89e812d000d97fb", func := "equerry/equerrylaw16.SnapPuts", spec := "snapPuts", inPlace := ["math/bits.Add64"], apart := false }
def SnapPutsSaid : Prop := snapPutsRow.holds Try.pinned (OpenSpec.ofChange snapPutsSpec)

/-- ITS FALSE NEIGHBOUR: 'it returns false'. Refute it at one input. -/
def snapPutsWrong : ChangeSpec := { name := "snapPuts", fn := fun _ => fun
  | [d] => { results := [.lit (.bool false)], args := [d] }
  | _ => none }
def SnapPutsWrongFalsely : Prop := snapPutsRow.holds Try.pinned (OpenSpec.ofChange snapPutsWrong)

/-- 'equerrylaw16.SnapGets': WHATEVER THE INPUT: true; the input reads as it did. -/
def snapGetsSpec : ChangeSpec := { name := "snapGets", fn := fun _ => fun
  | [d] => { results := [.lit (.bool true)], args := [d] }
  | _ => none }
def snapGetsRow : OpenClaim := { program := "ytdioeohfpgikmaa", sum := "72e244ef73d3966e4c7b83c174e15a3b8e64bba6b048a6e8d89e812d000d97fb", func := "equerry/equerrylaw16.SnapGets", spec := "snapGets", inPlace := ["math/bits.Add64"], apart := false }
def SnapGetsSaid : Prop := snapGetsRow.holds Try.pinned (OpenSpec.ofChange snapGetsSpec)

/-- ITS FALSE NEIGHBOUR: 'it returns false'. Refute it at one input. -/
def snapGetsWrong : ChangeSpec := { name := "snapGets", fn := fun _ => fun
  | [d] => { results := [.lit (.bool false)], args := [d] }
  | _ => none }
def SnapGetsWrongFalsely : Prop := snapGetsRow.holds Try.pinned (OpenSpec.ofChange snapGetsWrong)

/- THE SECOND FORM. 'bulk': how many values and letters a reading holds, each counted each time it is reached (what is shared counts as often as it is met; a slice's spare places count too). A statement '..UptoSaid' is the law's where the arguments, and the package variables that the reading takes, are together of bulk at most 1048576: NARROWER than '..Said'. Prove '..Said' where nothing that the law and all that it calls make is longer than what came in: it says more and counts as full. Else prove '..UptoSaid'. A law counts once. -/
mutual
def uptoBulk {H : Type} : DataW H → Nat
  | .lit (.string bytes) => bytes.length + 1
  | .lit _ => 1
  | .nil => 1
  | .ptr d => uptoBulk d + 1
  | .slice elems spare => uptoBulkAll elems + uptoBulkAll spare + 1
  | .agg parts => uptoBulkAll parts + 1
  | .iface _ d => uptoBulk d + 1
  | .map entries => uptoBulkEntries entries + 1
  | .held _ => 1
def uptoBulkAll {H : Type} : List (DataW H) → Nat
  | [] => 0
  | d :: r => uptoBulk d + uptoBulkAll r
def uptoBulkEntries {H : Type} : List (Lit × DataW H) → Nat
  | [] => 0
  | x :: r => uptoBulkEntry x + uptoBulkEntries r
def uptoBulkEntry {H : Type} : Lit × DataW H → Nat
  | (.string bytes, d) => bytes.length + uptoBulk d + 1
  | (_, d) => uptoBulk d + 1
 end
def uptoSmall : (H : Type) → List (DataW H) → Bool := fun _ ds => decide (uptoBulkAll ds ≤ 1048576)
def OpenSpec.upto (s : _root_.Go.ChangeSpec) : _root_.Go.OpenSpec := { _root_.Go.OpenSpec.ofChange s with cond := some uptoSmall }

/-- 'equerrylaw23.BackPauses', WHERE WHAT IT READS IS OF BULK AT MOST 1048576: true; the input reads as it did. -/
def backPausesUptoRow : OpenClaim := { program := "ytdioeohfpgikmaa", sum := "72e244ef73d3966e4c7b83c174e15a3b8e64bba6b048a6e8d89e812d000d97fb", func := "equerry/equerrylaw23.BackPauses", spec := "backPauses", apart := false, narrowed := true }
def BackPausesUptoSaid : Prop := backPausesUptoRow.holds Try.pinned (OpenSpec.upto backPausesSpec)

/-- 'equerrylaw23.BackNil', WHERE WHAT IT READS IS OF BULK AT MOST 1048576: true; the input reads as it did. -/
def backNilUptoRow : OpenClaim := { program := "ytdioeohfpgikmaa", sum := "72e244ef73d3966e4c7b83c174e15a3b8e64bba6b048a6e8d89e812d000d97fb", func := "equerry/equerrylaw23.BackNil", spec := "backNil", apart := false, narrowed := true }
def BackNilUptoSaid : Prop := backNilUptoRow.holds Try.pinned (OpenSpec.upto backNilSpec)

/-- 'equerrylaw23.BackPlays', WHERE WHAT IT READS IS OF BULK AT MOST 1048576: true; the input reads as it did. -/
def backPlaysUptoRow : OpenClaim := { program := "ytdioeohfpgikmaa", sum := "72e244ef73d3966e4c7b83c174e15a3b8e64bba6b048a6e8d89e812d000d97fb", func := "equerry/equerrylaw23.BackPlays", spec := "backPlays", apart := false, narrowed := true }
def BackPlaysUptoSaid : Prop := backPlaysUptoRow.holds Try.pinned (OpenSpec.upto backPlaysSpec)

/-- 'equerrylaw23.BackEnds', WHERE WHAT IT READS IS OF BULK AT MOST 1048576: true; the input reads as it did. -/
def backEndsUptoRow : OpenClaim := { program := "ytdioeohfpgikmaa", sum := "72e244ef73d3966e4c7b83c174e15a3b8e64bba6b048a6e8d89e812d000d97fb", func := "equerry/equerrylaw23.BackEnds", spec := "backEnds", apart := false, narrowed := true }
def BackEndsUptoSaid : Prop := backEndsUptoRow.holds Try.pinned (OpenSpec.upto backEndsSpec)

/-- 'equerrylaw24.ServeAgain', WHERE WHAT IT READS IS OF BULK AT MOST 1048576: true; the input reads as it did. -/
def serveAgainUptoRow : OpenClaim := { program := "ytdioeohfpgikmaa", sum := "72e244ef73d3966e4c7b83c174e15a3b8e64bba6b048a6e8d89e812d000d97fb", func := "equerry/equerrylaw24.ServeAgain", spec := "serveAgain", apart := false, narrowed := true }
def ServeAgainUptoSaid : Prop := serveAgainUptoRow.holds Try.pinned (OpenSpec.upto serveAgainSpec)

/-- 'equerrylaw24.ServeFlows', WHERE WHAT IT READS IS OF BULK AT MOST 1048576: true; the input reads as it did. -/
def serveFlowsUptoRow : OpenClaim := { program := "ytdioeohfpgikmaa", sum := "72e244ef73d3966e4c7b83c174e15a3b8e64bba6b048a6e8d89e812d000d97fb", func := "equerry/equerrylaw24.ServeFlows", spec := "serveFlows", apart := false, narrowed := true }
def ServeFlowsUptoSaid : Prop := serveFlowsUptoRow.holds Try.pinned (OpenSpec.upto serveFlowsSpec)

/-- 'equerrylaw24.ServeWindow', WHERE WHAT IT READS IS OF BULK AT MOST 1048576: true; the input reads as it did. -/
def serveWindowUptoRow : OpenClaim := { program := "ytdioeohfpgikmaa", sum := "72e244ef73d3966e4c7b83c174e15a3b8e64bba6b048a6e8d89e812d000d97fb", func := "equerry/equerrylaw24.ServeWindow", spec := "serveWindow", apart := false, narrowed := true }
def ServeWindowUptoSaid : Prop := serveWindowUptoRow.holds Try.pinned (OpenSpec.upto serveWindowSpec)

/-- 'equerrylaw24.ServePlays', WHERE WHAT IT READS IS OF BULK AT MOST 1048576: true; the input reads as it did. -/
def servePlaysUptoRow : OpenClaim := { program := "ytdioeohfpgikmaa", sum := "72e244ef73d3966e4c7b83c174e15a3b8e64bba6b048a6e8d89e812d000d97fb", func := "equerry/equerrylaw24.ServePlays", spec := "servePlays", apart := false, narrowed := true }
def ServePlaysUptoSaid : Prop := servePlaysUptoRow.holds Try.pinned (OpenSpec.upto servePlaysSpec)

/-- 'equerrylaw24.ServeNil', WHERE WHAT IT READS IS OF BULK AT MOST 1048576: true; the input reads as it did. -/
def serveNilUptoRow : OpenClaim := { program := "ytdioeohfpgikmaa", sum := "72e244ef73d3966e4c7b83c174e15a3b8e64bba6b048a6e8d89e812d000d97fb", func := "equerry/equerrylaw24.ServeNil", spec := "serveNil", apart := false, narrowed := true }
def ServeNilUptoSaid : Prop := serveNilUptoRow.holds Try.pinned (OpenSpec.upto serveNilSpec)

/-- 'equerrylaw16.SnapSame', WHERE WHAT IT READS IS OF BULK AT MOST 1048576: true; the input reads as it did. -/
def snapSameUptoRow : OpenClaim := { program := "ytdioeohfpgikmaa", sum := "72e244ef73d3966e4c7b83c174e15a3b8e64bba6b048a6e8d89e812d000d97fb", func := "equerry/equerrylaw16.SnapSame", spec := "snapSame", apart := false, narrowed := true }
def SnapSameUptoSaid : Prop := snapSameUptoRow.holds Try.pinned (OpenSpec.upto snapSameSpec)

/-- 'equerrylaw16.SnapPuts', WHERE WHAT IT READS IS OF BULK AT MOST 1048576: true; the input reads as it did. -/
def snapPutsUptoRow : OpenClaim := { program := "ytdioeohfpgikmaa", sum := "72e244ef73d3966e4c7b83c174e15a3b8e64bba6b048a6e8d89e812d000d97fb", func := "equerry/equerrylaw16.SnapPuts", spec := "snapPuts", inPlace := ["math/bits.Add64"], apart := false, narrowed := true }
def SnapPutsUptoSaid : Prop := snapPutsUptoRow.holds Try.pinned (OpenSpec.upto snapPutsSpec)

/-- 'equerrylaw16.SnapGets', WHERE WHAT IT READS IS OF BULK AT MOST 1048576: true; the input reads as it did. -/
def snapGetsUptoRow : OpenClaim := { program := "ytdioeohfpgikmaa", sum := "72e244ef73d3966e4c7b83c174e15a3b8e64bba6b048a6e8d89e812d000d97fb", func := "equerry/equerrylaw16.SnapGets", spec := "snapGets", inPlace := ["math/bits.Add64"], apart := false, narrowed := true }
def SnapGetsUptoSaid : Prop := snapGetsUptoRow.holds Try.pinned (OpenSpec.upto snapGetsSpec)

end Rows
end Go.Proofs.Ytdioeohfpgikmaa
