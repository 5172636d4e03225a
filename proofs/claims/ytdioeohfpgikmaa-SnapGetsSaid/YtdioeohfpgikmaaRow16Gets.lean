/- SnapGets is proved: for every input the law returns true, and the input reads as it did. Conditions: none. By an AI agent. -/
import Derived.Test.YtdioeohfpgikmaaRows
import Derived.WalkKit
import Derived.ProofKit
import Derived.OpenShut
import Derived.Test.YtdioeohfpgikmaaL16b
set_option linter.unusedVariables false
namespace Go.Proofs.Ytdioeohfpgikmaa
namespace snapGets
open Go.ChangeShapes Go.WideShapes Go.ChangeAt Go.RowKit

theorem own : ownKnob Try.prog.godebug = none := by kernel_rfl
theorem law : ∀ x, Shal.okAll Shal.Pr.law16SnapGets.con.ps x → ∃ n r, Shal.Pr.law16SnapGets.con.f n x = some r ∧ r.1 = true := fun x h =>
  ⟨4000, (true, ()), Shal.Pr.lawSnapGets x.1 h, rfl⟩

set_option maxRecDepth 100000 in
theorem lifted (os : Os) (started : os.Started) (H : Type) (enc : TypeId × Value → H) (F : Stop.Interp) :
    ReturnsInHanded {} Try.checked os 14 .any ((OpenSpec.ofChange Rows.snapGetsSpec).preRow enc Try.prog Try.f14 Rows.snapGetsRow.domain false Rows.snapGetsRow.laid) (((OpenSpec.ofChange Rows.snapGetsSpec).at F).post enc Try.prog Try.f14 false true false false) := by
  refine returnsInHanded_of_row (C := Try.checked) (s := OpenSpec.ofChange Rows.snapGetsSpec) own started (by kernel_rfl) Try.func14
    (witness_row_at (enc := enc) (C := Try.checked) false (World.holding Try.prog os ⟨#[], #[], []⟩) #[.slice none 0 0] rfl (by kernel_rfl) (by kernel_rfl) (by kernel_rfl)
      (OpenSpec.preRow_of_cond 8 (x := ([.nil], [], [])) (by kernel_rfl) (by kernel_rfl) (fun k hk => by cases hk) (by kernel_rfl) ⟨[], rfl, List.nodup_nil, fun b off h => by cases h⟩)) ?_
  intro W base args ds gs before hval hW _ _ hwt hL _ _
  exact Shal.law_row (s := Rows.snapGetsSpec) Shal.Pr.law16SnapGets.sound (fun b q h => by cases h) rfl law (by kernel_rfl) (by kernel_rfl) (by kernel_rfl) Try.underlying4 rfl (fun ds hl => by
    rw [Try.params14] at hl
    match ds, hl with
    | [a0], _ => exact ⟨rfl, rfl, rfl⟩) hval hW hwt

theorem said : Rows.SnapGetsSaid :=
  OpenClaim.holds_of_cond 14 Try.f14 rfl rfl rfl rfl rfl rfl rfl ⟨rfl, rfl, rfl, rfl, rfl⟩ rfl rfl rfl rfl rfl (by kernel_rfl) Try.func14 (by kernel_rfl)
    (of_decide_eq_true (by kernel_rfl)) (by unfold Func.isWrapper; first | (rw [if_pos (by decide +kernel)]; kernel_rfl) | (rw [if_neg (by decide +kernel)]; exact ⟨rfl, rfl⟩))
    (fun os started H enc _ F => by rw [OpenClaim.pre_eq_preRow]; exact lifted os started H enc F)
end snapGets
#print axioms snapGets.said
end Go.Proofs.Ytdioeohfpgikmaa
