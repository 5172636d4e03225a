/- ValueOrder is proved: for every input the law returns true, and the input reads as it did. Conditions: none. By an AI agent. -/
import Derived.Test.YtfnhgbonlbemhaaRows
import Derived.WalkKit
import Derived.ProofKit
import Derived.OpenShut
import Derived.Test.YtfnhgbonlbemhaaL04o
set_option linter.unusedVariables false
namespace Go.Proofs.Ytfnhgbonlbemhaa
namespace valueOrder
open Go.ChangeShapes Go.WideShapes Go.ChangeAt Go.RowKit

theorem own : ownKnob Try.prog.godebug = none := by kernel_rfl
theorem law : ∀ x, Shal.okAll Shal.Pr.law04ValueOrder.con.ps x → ∃ n r, Shal.Pr.law04ValueOrder.con.f n x = some r ∧ r.1 = true := fun x h =>
  ⟨3000, (true, ()), Shal.Pr.lawValueOrder x.1 x.2.1 x.2.2.1 h, rfl⟩

set_option maxRecDepth 100000 in
theorem lifted (os : Os) (started : os.Started) (H : Type) (enc : TypeId × Value → H) (F : Stop.Interp) :
    ReturnsInHanded {} Try.checked os 9 .any ((OpenSpec.ofChange Rows.valueOrderSpec).preRow enc Try.prog Try.f9 Rows.valueOrderRow.domain false Rows.valueOrderRow.laid) (((OpenSpec.ofChange Rows.valueOrderSpec).at F).post enc Try.prog Try.f9 false true false false) := by
  refine returnsInHanded_of_row (C := Try.checked) (s := OpenSpec.ofChange Rows.valueOrderSpec) own started (by kernel_rfl) Try.func9
    (witness_row_at (enc := enc) (C := Try.checked) false (World.holding Try.prog os ⟨#[], #[], []⟩) #[.agg #[.int .u8 0, .int .i64 0, .int .u64 0, .string ⟨#[]⟩], .agg #[.int .u8 0, .int .i64 0, .int .u64 0, .string ⟨#[]⟩], .agg #[.int .u8 0, .int .i64 0, .int .u64 0, .string ⟨#[]⟩]] rfl (by kernel_rfl) (by kernel_rfl) (by kernel_rfl)
      (OpenSpec.preRow_of_cond 8 (x := ([.agg [.lit (.int .u8 0), .lit (.int .i64 0), .lit (.int .u64 0), .lit (.string [])], .agg [.lit (.int .u8 0), .lit (.int .i64 0), .lit (.int .u64 0), .lit (.string [])], .agg [.lit (.int .u8 0), .lit (.int .i64 0), .lit (.int .u64 0), .lit (.string [])]], [], [])) (by kernel_rfl) (by kernel_rfl) (fun k hk => by cases hk) (by kernel_rfl) ⟨[], rfl, List.nodup_nil, fun b off h => by cases h⟩)) ?_
  intro W base args ds gs before hval hW _ _ hwt hL _ _
  exact Shal.law_row (s := Rows.valueOrderSpec) Shal.Pr.law04ValueOrder.sound (fun b q h => by cases h) rfl law (by kernel_rfl) (by kernel_rfl) (by kernel_rfl) Try.underlying4 rfl (fun ds hl => by
    rw [Try.params9] at hl
    match ds, hl with
    | [a0, a1, a2], _ => exact ⟨rfl, rfl, rfl⟩) hval hW hwt

theorem said : Rows.ValueOrderSaid :=
  OpenClaim.holds_of_cond 9 Try.f9 rfl rfl rfl rfl rfl rfl rfl ⟨rfl, rfl, rfl, rfl, rfl⟩ rfl rfl rfl rfl rfl (by kernel_rfl) Try.func9 (by kernel_rfl)
    (of_decide_eq_true (by kernel_rfl)) (by unfold Func.isWrapper; first | (rw [if_pos (by decide +kernel)]; kernel_rfl) | (rw [if_neg (by decide +kernel)]; exact ⟨rfl, rfl⟩))
    (fun os started H enc _ F => by rw [OpenClaim.pre_eq_preRow]; exact lifted os started H enc F)
end valueOrder
#print axioms valueOrder.said
end Go.Proofs.Ytfnhgbonlbemhaa
