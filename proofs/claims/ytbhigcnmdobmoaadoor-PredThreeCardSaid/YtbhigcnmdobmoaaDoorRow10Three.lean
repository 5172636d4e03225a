/- PredThree is proved, as its tied card says it: for every input the law returns true, and the input reads as it did. Conditions: the listed package-level variables hold what their initialisers lay (the card ties that to the program's text). By an AI agent. -/
import Derived.Test.YtbhigcnmdobmoaaDoorRows
import Derived.Test.YtbhigcnmdobmoaaDoorCards
import Derived.Test.YtbhigcnmdobmoaaDoorTie
import Derived.WalkKit
import Derived.ProofKit
import Derived.OpenShut
import Derived.LaidLaws
import Derived.SevenTiedAt
import Derived.Test.YtbhigcnmdobmoaaDoorL10t
set_option linter.unusedVariables false
namespace Go.Proofs.YtbhigcnmdobmoaaDoor
namespace predThree
open Go.ChangeShapes Go.WideShapes Go.ChangeAt Go.RowKit

theorem own : ownKnob Tryd.prog.godebug = none := by kernel_rfl
theorem law : ∀ x, Shal.okAll Shal.Pr.law10PredThree.con.ps x → ∃ n r, Shal.Pr.law10PredThree.con.f n x = some r ∧ r.1 = true := fun x h =>
  ⟨5100, (true, ()), Shal.Pr.lawPredThree x.1 x.2.1 h, rfl⟩
/-- A world in which the variables hold what is listed. -/
noncomputable def laidWorld (os : Os) : World :=
  let w0 := World.holding Tryd.prog os ⟨#[], #[], []⟩
  { w0 with heap := (w0.heap.modify 0 fun
      | .cells _ t frozen => .cells #[.bool false, .bool false, .bool false, .bool false, .bool true, .bool false, .bool true, .bool false, .bool true, .bool true, .bool false, .bool false, .bool true, .bool true, .bool false, .bool false, .bool false, .bool true, .bool false, .bool true, .bool true] t frozen
      | o => o) }
theorem laid_met (os : Os) (args : Array Value) : laidMet Tryd.prog Rows.predThreeRow.laid ((laidWorld os).forCall (fun _ _ => 0) ⟨#[], args, []⟩).memory :=
  laidMet_of_run' 8 (by kernel_rfl) (by kernel_rfl)
theorem lay : Shal.Lay Tryd.prog Rows.predThreeRow.laid Shal.Pr.globs := ⟨0, _, _, 93, rfl, by kernel_rfl, by kernel_rfl, by kernel_rfl, by kernel_rfl, rfl⟩

set_option maxRecDepth 100000 in
theorem lifted (os : Os) (started : os.Started) (H : Type) (enc : TypeId × Value → H) (F : Stop.Interp) :
    ReturnsInHanded {} Tryd.checked os 4 .any ((OpenSpec.ofChange Rows.predThreeSpec).preRow enc Tryd.prog Tryd.f4 Rows.predThreeRow.domain false Rows.predThreeRow.laid) (((OpenSpec.ofChange Rows.predThreeSpec).at F).post enc Tryd.prog Tryd.f4 false true false false) := by
  refine returnsInHanded_of_row (C := Tryd.checked) (s := OpenSpec.ofChange Rows.predThreeSpec) own started (by kernel_rfl) Tryd.func4
    (witness_row_at (enc := enc) (C := Tryd.checked) false (laidWorld os) #[.agg #[.int .u8 0, .int .i64 0, .int .u64 0, .string ⟨#[]⟩], .agg #[.int .u8 0, .int .i64 0, .int .u64 0, .string ⟨#[]⟩]] rfl (by kernel_rfl) (by kernel_rfl) (by kernel_rfl)
      (OpenSpec.preRow_of_cond 8 (x := ([.agg [.lit (.int .u8 0), .lit (.int .i64 0), .lit (.int .u64 0), .lit (.string [])], .agg [.lit (.int .u8 0), .lit (.int .i64 0), .lit (.int .u64 0), .lit (.string [])]], [], [])) (by kernel_rfl) (by kernel_rfl) (fun k hk => by cases hk) (by kernel_rfl) (laid_met os _))) ?_
  intro W base args ds gs before hval hW _ _ hwt hL _ _
  exact Shal.law_row (s := Rows.predThreeSpec) Shal.Pr.law10PredThree.sound (Shal.gok_of hL lay) rfl law (by kernel_rfl) (by kernel_rfl) (by kernel_rfl) Tryd.underlying4 rfl (fun ds hl => by
    rw [Tryd.params4] at hl
    match ds, hl with
    | [a0, a1], _ => exact ⟨rfl, rfl, rfl⟩) hval hW hwt

theorem row : Rows.PredThreeSaid :=
  OpenClaim.holds_of_cond 4 Tryd.f4 rfl rfl rfl rfl rfl rfl rfl ⟨rfl, rfl, rfl, rfl, rfl⟩ rfl rfl rfl rfl rfl (by kernel_rfl) Tryd.func4 (by kernel_rfl)
    (of_decide_eq_true (by kernel_rfl)) (by unfold Func.isWrapper; first | (rw [if_pos (by decide +kernel)]; kernel_rfl) | (rw [if_neg (by decide +kernel)]; exact ⟨rfl, rfl⟩))
    (fun os started H enc _ F => by rw [OpenClaim.pre_eq_preRow]; exact lifted os started H enc F)

/-- THE TIED CARD. -/
theorem said : Rows.PredThreeCardSaid :=
  Claim7.holds_tied_plain_at .later [] [.data] true (true, "d347f985330d8e57b30f69bb9caf91e7c30116f3ae18b4a98a1e934bb0ff8bce") false
    row (fun _ h => by cases h) (by kernel_rfl) (fun _ h => by cases h) predThree_row_tie rfl ⟨rfl, rfl⟩ (by kernel_rfl) rfl
    (fun f fn hf hfn => by
      obtain rfl : f = 4 := Option.some.inj ((show Tryd.prog.funcNamed "equerry/equerrylaw10.PredThree" = some 4 by kernel_rfl).symm.trans hf) |>.symm
      obtain rfl : fn = Tryd.f4 := (Option.some.inj (Tryd.func4.symm.trans hfn)).symm
      exact ⟨by kernel_rfl, fun j t ht => by
        rw [Tryd.params4] at ht
        have key : t ∈ [43, 43] := by
          have := List.mem_of_getElem? (by simpa using ht : ([43, 43] : List Nat)[j]? = some t)
          exact this
        simp only [List.mem_cons, List.not_mem_nil, or_false] at key
        rcases key with rfl | rfl
        · exact (show Tryd.prog.wantsStandIn 43 = false by kernel_rfl)
        · exact (show Tryd.prog.wantsStandIn 43 = false by kernel_rfl)⟩)
    (by kernel_rfl)
end predThree
#print axioms predThree.said
end Go.Proofs.YtbhigcnmdobmoaaDoor
