/- ValueTwo is proved: for every input the law returns true, and the input reads as it did. Conditions: none. By an AI agent. -/
import Derived.Test.YtfnhgbonlbemhaaRows
import Derived.WalkKit
import Derived.ProofKit
import Derived.OpenShut
import Derived.Test.YtfnhgbonlbemhaaL04t
set_option linter.unusedVariables false
namespace Go.Proofs.Ytfnhgbonlbemhaa
namespace valueTwo
open Go.ChangeShapes Go.WideShapes Go.ChangeAt Go.RowKit

theorem own : ownKnob Try.prog.godebug = none := by kernel_rfl
theorem law : ∀ x, Shal.okAll Shal.Pr.law04ValueTwo.con.ps x → ∃ n r, Shal.Pr.law04ValueTwo.con.f n x = some r ∧ r.1 = true := fun x h =>
  ⟨3000, (true, ()), Shal.Pr.lawValueTwo x.1 x.2.1 h, rfl⟩

set_option maxRecDepth 100000 in
theorem lifted (os : Os) (started : os.Started) (H : Type) (enc : TypeId × Value → H) (F : Stop.Interp) :
    ReturnsInHanded {} Try.checked os 10 .any ((OpenSpec.ofChange Rows.valueTwoSpec).preRow enc Try.prog Try.f10 Rows.valueTwoRow.domain false Rows.valueTwoRow.laid) (((OpenSpec.ofChange Rows.valueTwoSpec).at F).post enc Try.prog Try.f10 false true false false) := by
  refine returnsInHanded_of_row (C := Try.checked) (s := OpenSpec.ofChange Rows.valueTwoSpec) own started (by kernel_rfl) Try.func10
    (witness_row_at (enc := enc) (C := Try.checked) false (World.holding Try.prog os ⟨#[], #[], []⟩) #[.agg #[.int .u8 0, .int .i64 0, .int .u64 0, .string ⟨#[]⟩], .agg #[.int .u8 0, .int .i64 0, .int .u64 0, .string ⟨#[]⟩]] rfl (by kernel_rfl) (by kernel_rfl) (by kernel_rfl)
      (OpenSpec.preRow_of_cond 8 (x := ([.agg [.lit (.int .u8 0), .lit (.int .i64 0), .lit (.int .u64 0), .lit (.string [])], .agg [.lit (.int .u8 0), .lit (.int .i64 0), .lit (.int .u64 0), .lit (.string [])]], [], [])) (by kernel_rfl) (by kernel_rfl) (fun k hk => by cases hk) (by kernel_rfl) ⟨[], rfl, List.nodup_nil, fun b off h => by cases h⟩)) ?_
  intro W base args ds gs before hval hW _ _ hwt hL _ _
  exact Shal.law_row (s := Rows.valueTwoSpec) Shal.Pr.law04ValueTwo.sound (fun b q h => by cases h) rfl law (by kernel_rfl) (by kernel_rfl) (by kernel_rfl) Try.underlying4 rfl (fun ds hl => by
    rw [Try.params10] at hl
    match ds, hl with
    | [a0, a1], _ => exact ⟨rfl, rfl, rfl⟩) hval hW hwt

theorem said : Rows.ValueTwoSaid :=
  OpenClaim.holds_of_cond 10 Try.f10 rfl rfl rfl rfl rfl rfl rfl ⟨rfl, rfl, rfl, rfl, rfl⟩ rfl rfl rfl rfl rfl (by kernel_rfl) Try.func10 (by kernel_rfl)
    (of_decide_eq_true (by kernel_rfl)) (by unfold Func.isWrapper; first | (rw [if_pos (by decide +kernel)]; kernel_rfl) | (rw [if_neg (by decide +kernel)]; exact ⟨rfl, rfl⟩))
    (fun os started H enc _ F => by rw [OpenClaim.pre_eq_preRow]; exact lifted os started H enc F)
end valueTwo
#print axioms valueTwo.said
end Go.Proofs.Ytfnhgbonlbemhaa
