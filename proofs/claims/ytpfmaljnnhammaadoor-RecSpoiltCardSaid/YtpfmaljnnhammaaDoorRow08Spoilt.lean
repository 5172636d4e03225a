/- RecSpoilt is proved, as its tied card says it: for every input the law returns true, and the input reads as it did. Conditions: the listed package-level variables hold what their initialisers lay (the card ties that to the program's text). By an AI agent. -/
import Derived.Test.YtpfmaljnnhammaaDoorRows
import Derived.Test.YtpfmaljnnhammaaDoorCards
import Derived.Test.YtpfmaljnnhammaaDoorTie
import Derived.WalkKit
import Derived.ProofKit
import Derived.OpenShut
import Derived.LaidLaws
import Derived.SevenTiedAt
import Derived.Test.YtpfmaljnnhammaaDoorL08s
set_option linter.unusedVariables false
namespace Go.Proofs.YtpfmaljnnhammaaDoor
namespace recSpoilt
open Go.ChangeShapes Go.WideShapes Go.ChangeAt Go.RowKit

theorem own : ownKnob Tryd.prog.godebug = none := by kernel_rfl
theorem law : ∀ x, Shal.okAll Shal.Pr.law08RecSpoilt.con.ps x → ∃ n r, Shal.Pr.law08RecSpoilt.con.f n x = some r ∧ r.1 = true := fun x h =>
  ⟨200000, (true, ()), Shal.Pr.lawRecSpoilt x.1 x.2.1 x.2.2.1 h, rfl⟩
/-- A world in which the variables hold what is listed. -/
noncomputable def laidWorld (os : Os) : World :=
  let w0 := World.holding Tryd.prog os ⟨#[], #[], []⟩
  { w0 with heap := (w0.heap.modify 0 fun
      | .cells _ t frozen => .cells #[.int .u32 0, .int .u32 498536548, .int .u32 997073096, .int .u32 651767980, .int .u32 1994146192, .int .u32 1802195444, .int .u32 1303535960, .int .u32 1342533948, .int .u32 3988292384, .int .u32 4027552580, .int .u32 3604390888, .int .u32 3412177804, .int .u32 2607071920, .int .u32 2262029012, .int .u32 2685067896, .int .u32 3183342108] t frozen
      | o => o) }
theorem laid_met (os : Os) (args : Array Value) : laidMet Tryd.prog Rows.recSpoiltRow.laid ((laidWorld os).forCall (fun _ _ => 0) ⟨#[], args, []⟩).memory :=
  laidMet_of_run' 8 (by kernel_rfl) (by kernel_rfl)
theorem lay : Shal.Lay Tryd.prog Rows.recSpoiltRow.laid Shal.Pr.globs := ⟨0, _, _, 61, rfl, by kernel_rfl, by kernel_rfl, by kernel_rfl, by kernel_rfl, rfl⟩

set_option maxRecDepth 100000 in
theorem lifted (os : Os) (started : os.Started) (H : Type) (enc : TypeId × Value → H) (F : Stop.Interp) :
    ReturnsInHanded {} Tryd.checked os 7 .any ((OpenSpec.ofChange Rows.recSpoiltSpec).preRow enc Tryd.prog Tryd.f7 Rows.recSpoiltRow.domain false Rows.recSpoiltRow.laid) (((OpenSpec.ofChange Rows.recSpoiltSpec).at F).post enc Tryd.prog Tryd.f7 false true false false) := by
  refine returnsInHanded_of_row (C := Tryd.checked) (s := OpenSpec.ofChange Rows.recSpoiltSpec) own started (by kernel_rfl) Tryd.func7
    (witness_row_at (enc := enc) (C := Tryd.checked) false (laidWorld os) #[.slice none 0 0, .int .u16 0, .agg #[.int .u8 0, .int .u8 0, .int .u8 0, .int .u8 0]] rfl (by kernel_rfl) (by kernel_rfl) (by kernel_rfl)
      (OpenSpec.preRow_of_cond 8 (x := ([.nil, .lit (.int .u16 0), .agg [.lit (.int .u8 0), .lit (.int .u8 0), .lit (.int .u8 0), .lit (.int .u8 0)]], [], [])) (by kernel_rfl) (by kernel_rfl) (fun k hk => by cases hk) (by kernel_rfl) (laid_met os _))) ?_
  intro W base args ds gs before hval hW _ _ hwt hL _ _
  exact Shal.law_row (s := Rows.recSpoiltSpec) Shal.Pr.law08RecSpoilt.sound (Shal.gok_of hL lay) rfl law (by kernel_rfl) (by kernel_rfl) (by kernel_rfl) Tryd.underlying4 rfl (fun ds hl => by
    rw [Tryd.params7] at hl
    match ds, hl with
    | [a0, a1, a2], _ => exact ⟨rfl, rfl, rfl⟩) hval hW hwt

theorem row : Rows.RecSpoiltSaid :=
  OpenClaim.holds_of_cond 7 Tryd.f7 rfl rfl rfl rfl rfl rfl rfl ⟨rfl, rfl, rfl, rfl, rfl⟩ rfl rfl rfl rfl rfl (by kernel_rfl) Tryd.func7 (by kernel_rfl)
    (of_decide_eq_true (by kernel_rfl)) (by unfold Func.isWrapper; first | (rw [if_pos (by decide +kernel)]; kernel_rfl) | (rw [if_neg (by decide +kernel)]; exact ⟨rfl, rfl⟩))
    (fun os started H enc _ F => by rw [OpenClaim.pre_eq_preRow]; exact lifted os started H enc F)

/-- THE TIED CARD. -/
theorem said : Rows.RecSpoiltCardSaid :=
  Claim7.holds_tied_plain_at .later [] [.data] true (true, "a646421eccad4d032a993308cc63f3cc59742fded8bc31a0acc4e69d55aca10d") false
    row (fun _ h => by cases h) (by kernel_rfl) (fun _ h => by cases h) recSpoilt_row_tie rfl ⟨rfl, rfl⟩ (by kernel_rfl) rfl
    (fun f fn hf hfn => by
      obtain rfl : f = 7 := Option.some.inj ((show Tryd.prog.funcNamed "equerry/equerrylaw08.RecSpoilt" = some 7 by kernel_rfl).symm.trans hf) |>.symm
      obtain rfl : fn = Tryd.f7 := (Option.some.inj (Tryd.func7.symm.trans hfn)).symm
      exact ⟨by kernel_rfl, fun j t ht => by
        rw [Tryd.params7] at ht
        have key : t ∈ [22, 41, 28] := by
          have := List.mem_of_getElem? (by simpa using ht : ([22, 41, 28] : List Nat)[j]? = some t)
          exact this
        simp only [List.mem_cons, List.not_mem_nil, or_false] at key
        rcases key with rfl | rfl | rfl
        · exact (show Tryd.prog.wantsStandIn 22 = false by kernel_rfl)
        · exact (show Tryd.prog.wantsStandIn 41 = false by kernel_rfl)
        · exact (show Tryd.prog.wantsStandIn 28 = false by kernel_rfl)⟩)
    (by kernel_rfl)
end recSpoilt
#print axioms recSpoilt.said
end Go.Proofs.YtpfmaljnnhammaaDoor
