/- TreeMay is proved: for every input the law returns true, and the input reads as it did. Conditions: none. By an AI agent. -/
import Derived.Test.YtbhigcnmdobmoaaRows
import Derived.WalkKit
import Derived.ProofKit
import Derived.OpenShut
import Derived.Test.YtbhigcnmdobmoaaL11
set_option linter.unusedVariables false
namespace Go.Proofs.Ytbhigcnmdobmoaa
namespace treeMay
open Go.ChangeShapes Go.WideShapes Go.ChangeAt Go.RowKit

theorem own : ownKnob Try.prog.godebug = none := by kernel_rfl
theorem law : ∀ x, Shal.okAll Shal.Pr.law11TreeMay.con.ps x → ∃ n r, Shal.Pr.law11TreeMay.con.f n x = some r ∧ r.1 = true := fun x h =>
  ⟨x.1.1.length + (x.1.1.map Go.Shal.Pr.lenN).sum + 8000, (true, ()), Shal.Pr.lawTreeMay x.1 h, rfl⟩

set_option maxRecDepth 100000 in
theorem lifted (os : Os) (started : os.Started) (H : Type) (enc : TypeId × Value → H) (F : Stop.Interp) :
    ReturnsInHanded {} Try.checked os 8 .any ((OpenSpec.ofChange Rows.treeMaySpec).preRow enc Try.prog Try.f8 Rows.treeMayRow.domain false Rows.treeMayRow.laid) (((OpenSpec.ofChange Rows.treeMaySpec).at F).post enc Try.prog Try.f8 false true false false) := by
  refine returnsInHanded_of_row (C := Try.checked) (s := OpenSpec.ofChange Rows.treeMaySpec) own started (by kernel_rfl) Try.func8
    (witness_row_at (enc := enc) (C := Try.checked) false (World.holding Try.prog os ⟨#[], #[], []⟩) #[.agg #[.slice none 0 0, .int .u64 0]] rfl (by kernel_rfl) (by kernel_rfl) (by kernel_rfl)
      (OpenSpec.preRow_of_cond 8 (x := ([.agg [.nil, .lit (.int .u64 0)]], [], [])) (by kernel_rfl) (by kernel_rfl) (fun k hk => by cases hk) (by kernel_rfl) ⟨[], rfl, List.nodup_nil, fun b off h => by cases h⟩)) ?_
  intro W base args ds gs before hval hW _ _ hwt hL _ _
  exact Shal.law_row (s := Rows.treeMaySpec) Shal.Pr.law11TreeMay.sound (fun b q h => by cases h) rfl law (by kernel_rfl) (by kernel_rfl) (by kernel_rfl) Try.underlying4 rfl (fun ds hl => by
    rw [Try.params8] at hl
    match ds, hl with
    | [a0], _ => exact ⟨rfl, rfl, rfl⟩) hval hW hwt

theorem said : Rows.TreeMaySaid :=
  OpenClaim.holds_of_cond 8 Try.f8 rfl rfl rfl rfl rfl rfl rfl ⟨rfl, rfl, rfl, rfl, rfl⟩ rfl rfl rfl rfl rfl (by kernel_rfl) Try.func8 (by kernel_rfl)
    (of_decide_eq_true (by kernel_rfl)) (by unfold Func.isWrapper; first | (rw [if_pos (by decide +kernel)]; kernel_rfl) | (rw [if_neg (by decide +kernel)]; exact ⟨rfl, rfl⟩))
    (fun os started H enc _ F => by rw [OpenClaim.pre_eq_preRow]; exact lifted os started H enc F)
end treeMay
#print axioms treeMay.said
end Go.Proofs.Ytbhigcnmdobmoaa
