/- FrameGets is proved, as its tied card says it: for every input the law returns true, and the input reads as it did. Conditions: the listed package-level variables hold what their initialisers lay (the card ties that to the program's text). By an AI agent. -/
import Derived.Test.YtocfcfaeboemcaaDoorRows
import Derived.Test.YtocfcfaeboemcaaDoorCards
import Derived.Test.YtocfcfaeboemcaaDoorTie
import Derived.WalkKit
import Derived.ProofKit
import Derived.OpenShut
import Derived.LaidLaws
import Derived.SevenTiedAt
import Derived.Test.YtocfcfaeboemcaaDoorL20g
set_option linter.unusedVariables false
namespace Go.Proofs.YtocfcfaeboemcaaDoor
namespace frameGets
open Go.ChangeShapes Go.WideShapes Go.ChangeAt Go.RowKit

theorem own : ownKnob Tryd.prog.godebug = none := by kernel_rfl
theorem law : ∀ x, Shal.okAll Shal.Pr.law20FrameGets.con.ps x → ∃ n r, Shal.Pr.law20FrameGets.con.f n x = some r ∧ r.1 = true := fun x h =>
  ⟨200005, (true, ()), Shal.Pr.lawFrameGets x.1 h, rfl⟩
/-- A world in which the variables hold what is listed. -/
noncomputable def laidWorld (os : Os) : World :=
  let w0 := World.holding Tryd.prog os ⟨#[], #[], []⟩
  { w0 with heap := ((w0.heap.modify 1 fun
      | .cells _ t frozen => .cells #[.int .u32 0, .int .u32 498536548, .int .u32 997073096, .int .u32 651767980, .int .u32 1994146192, .int .u32 1802195444, .int .u32 1303535960, .int .u32 1342533948, .int .u32 3988292384, .int .u32 4027552580, .int .u32 3604390888, .int .u32 3412177804, .int .u32 2607071920, .int .u32 2262029012, .int .u32 2685067896, .int .u32 3183342108] t frozen
      | o => o).modify 0 fun
      | .cells _ t frozen => .cells #[.int .u8 0, .int .u8 17, .int .u8 7, .int .u8 21, .int .u8 5, .int .u8 31, .int .u8 7, .int .u8 7, .int .u8 7, .int .u8 7, .int .u8 7, .int .u8 5, .int .u8 21, .int .u8 4, .int .u8 4, .int .u8 1, .int .u8 4, .int .u8 15] t frozen
      | o => o) }
theorem laid_met (os : Os) (args : Array Value) : laidMet Tryd.prog Rows.frameGetsRow.laid ((laidWorld os).forCall (fun _ _ => 0) ⟨#[], args, []⟩).memory :=
  laidMet_of_run' 8 (by kernel_rfl) (by kernel_rfl)
theorem lay : Shal.Lay Tryd.prog Rows.frameGetsRow.laid Shal.Pr.globs := ⟨1, _, _, 99, rfl, by kernel_rfl, by kernel_rfl, by kernel_rfl, by kernel_rfl, ⟨0, _, _, 91, rfl, by kernel_rfl, by kernel_rfl, by kernel_rfl, by kernel_rfl, rfl⟩⟩

set_option maxRecDepth 100000 in
theorem lifted (os : Os) (started : os.Started) (H : Type) (enc : TypeId × Value → H) (F : Stop.Interp) :
    ReturnsInHanded {} Tryd.checked os 5 .any ((OpenSpec.ofChange Rows.frameGetsSpec).preRow enc Tryd.prog Tryd.f5 Rows.frameGetsRow.domain false Rows.frameGetsRow.laid) (((OpenSpec.ofChange Rows.frameGetsSpec).at F).post enc Tryd.prog Tryd.f5 false true false false) := by
  refine returnsInHanded_of_row (C := Tryd.checked) (s := OpenSpec.ofChange Rows.frameGetsSpec) own started (by kernel_rfl) Tryd.func5
    (witness_row_at (enc := enc) (C := Tryd.checked) false (laidWorld os) #[.slice none 0 0] rfl (by kernel_rfl) (by kernel_rfl) (by kernel_rfl)
      (OpenSpec.preRow_of_cond 8 (x := ([.nil], [], [])) (by kernel_rfl) (by kernel_rfl) (fun k hk => by cases hk) (by kernel_rfl) (laid_met os _))) ?_
  intro W base args ds gs before hval hW _ _ hwt hL _ _
  exact Shal.law_row (s := Rows.frameGetsSpec) Shal.Pr.law20FrameGets.sound (Shal.gok_of hL lay) rfl law (by kernel_rfl) (by kernel_rfl) (by kernel_rfl) Tryd.underlying4 rfl (fun ds hl => by
    rw [Tryd.params5] at hl
    match ds, hl with
    | [a0], _ => exact ⟨rfl, rfl, rfl⟩) hval hW hwt

theorem row : Rows.FrameGetsSaid :=
  OpenClaim.holds_of_cond 5 Tryd.f5 rfl rfl rfl rfl rfl rfl rfl ⟨rfl, rfl, rfl, rfl, rfl⟩ rfl rfl rfl rfl rfl (by kernel_rfl) Tryd.func5 (by kernel_rfl)
    (of_decide_eq_true (by kernel_rfl)) (by unfold Func.isWrapper; first | (rw [if_pos (by decide +kernel)]; kernel_rfl) | (rw [if_neg (by decide +kernel)]; exact ⟨rfl, rfl⟩))
    (fun os started H enc _ F => by rw [OpenClaim.pre_eq_preRow]; exact lifted os started H enc F)

/-- THE TIED CARD. -/
theorem said : Rows.FrameGetsCardSaid :=
  Claim7.holds_tied_plain_at .later [] [.data, .data] true (true, "ec7ae32d493e1b2b79620b75b74e159ff27504c001e422bae3c46ecc1d4e3246") false
    row (fun _ h => by cases h) (by kernel_rfl) (fun _ h => by cases h) frameGets_row_tie rfl ⟨rfl, rfl⟩ (by kernel_rfl) rfl
    (fun f fn hf hfn => by
      obtain rfl : f = 5 := Option.some.inj ((show Tryd.prog.funcNamed "equerry/equerrylaw20.FrameGets" = some 5 by kernel_rfl).symm.trans hf) |>.symm
      obtain rfl : fn = Tryd.f5 := (Option.some.inj (Tryd.func5.symm.trans hfn)).symm
      exact ⟨by kernel_rfl, fun j t ht => by
        rw [Tryd.params5] at ht
        have key : t ∈ [24] := by
          have := List.mem_of_getElem? (by simpa using ht : ([24] : List Nat)[j]? = some t)
          exact this
        simp only [List.mem_cons, List.not_mem_nil, or_false] at key
        subst key
        · exact (show Tryd.prog.wantsStandIn 24 = false by kernel_rfl)⟩)
    (by kernel_rfl)
end frameGets
#print axioms frameGets.said
end Go.Proofs.YtocfcfaeboemcaaDoor
