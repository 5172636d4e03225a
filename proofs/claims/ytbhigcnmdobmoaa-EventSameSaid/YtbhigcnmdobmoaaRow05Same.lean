/- EventSame is proved: for every input the law returns true, and the input reads as it did. Conditions: none. By an AI agent. -/
import Derived.Test.YtbhigcnmdobmoaaRows
import Derived.WalkKit
import Derived.ProofKit
import Derived.OpenShut
import Derived.Test.YtbhigcnmdobmoaaL05s
set_option linter.unusedVariables false
namespace Go.Proofs.Ytbhigcnmdobmoaa
namespace eventSame
open Go.ChangeShapes Go.WideShapes Go.ChangeAt Go.RowKit

theorem own : ownKnob Try.prog.godebug = none := by kernel_rfl
theorem law : ∀ x, Shal.okAll Shal.Pr.law05EventSame.con.ps x → ∃ n r, Shal.Pr.law05EventSame.con.f n x = some r ∧ r.1 = true := fun x h =>
  ⟨x.1.2.1.length + x.2.1.2.1.length + 100, (true, ()), Shal.Pr.lawEventSame x.1 x.2.1 h, rfl⟩

set_option maxRecDepth 100000 in
theorem lifted (os : Os) (started : os.Started) (H : Type) (enc : TypeId × Value → H) (F : Stop.Interp) :
    ReturnsInHanded {} Try.checked os 3 .any ((OpenSpec.ofChange Rows.eventSameSpec).preRow enc Try.prog Try.f3 Rows.eventSameRow.domain false Rows.eventSameRow.laid) (((OpenSpec.ofChange Rows.eventSameSpec).at F).post enc Try.prog Try.f3 false true false false) := by
  refine returnsInHanded_of_row (C := Try.checked) (s := OpenSpec.ofChange Rows.eventSameSpec) own started (by kernel_rfl) Try.func3
    (witness_row_at (enc := enc) (C := Try.checked) false (World.holding Try.prog os ⟨#[], #[], []⟩) #[.agg #[.int .u8 0, .slice none 0 0], .agg #[.int .u8 0, .slice none 0 0]] rfl (by kernel_rfl) (by kernel_rfl) (by kernel_rfl)
      (OpenSpec.preRow_of_cond 8 (x := ([.agg [.lit (.int .u8 0), .nil], .agg [.lit (.int .u8 0), .nil]], [], [])) (by kernel_rfl) (by kernel_rfl) (fun k hk => by cases hk) (by kernel_rfl) ⟨[], rfl, List.nodup_nil, fun b off h => by cases h⟩)) ?_
  intro W base args ds gs before hval hW _ _ hwt hL _ _
  exact Shal.law_row (s := Rows.eventSameSpec) Shal.Pr.law05EventSame.sound (fun b q h => by cases h) rfl law (by kernel_rfl) (by kernel_rfl) (by kernel_rfl) Try.underlying4 rfl (fun ds hl => by
    rw [Try.params3] at hl
    match ds, hl with
    | [a0, a1], _ => exact ⟨rfl, rfl, rfl⟩) hval hW hwt

theorem said : Rows.EventSameSaid :=
  OpenClaim.holds_of_cond 3 Try.f3 rfl rfl rfl rfl rfl rfl rfl ⟨rfl, rfl, rfl, rfl, rfl⟩ rfl rfl rfl rfl rfl (by kernel_rfl) Try.func3 (by kernel_rfl)
    (of_decide_eq_true (by kernel_rfl)) (by unfold Func.isWrapper; first | (rw [if_pos (by decide +kernel)]; kernel_rfl) | (rw [if_neg (by decide +kernel)]; exact ⟨rfl, rfl⟩))
    (fun os started H enc _ F => by rw [OpenClaim.pre_eq_preRow]; exact lifted os started H enc F)
end eventSame
#print axioms eventSame.said
end Go.Proofs.Ytbhigcnmdobmoaa
