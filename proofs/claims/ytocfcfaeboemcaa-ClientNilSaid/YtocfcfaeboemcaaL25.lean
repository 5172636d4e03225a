/- The plain law of a nil client: it does nothing. No condition but that the arguments fit their types. By an AI agent. -/
import Derived.Test.YtocfcfaeboemcaaGen25
set_option linter.unusedVariables false
namespace Go.Shal.Pr
open Go Go.Shal Go.Proofs

theorem clone_nil : slicesClone 100 [] = some (([], ()), ()) := by
  unfold slicesClone nilQ both
  simp [chk, apOk]
theorem fixed25 : law25Fixed 100 = some (true, ()) := by
  unfold law25Fixed clientNew
  simp only [clone_nil]
  kernel_rfl
theorem cut1 (o : S1) : ∃ l, law25Cut 100 [o] = some (l, ()) := by
  unfold law25Cut
  unfold law25Cut.l2 law25Cut.b2
  simp only [List.length_cons, List.length_nil, show decide ((0 : Int) < ((0 + 1 : Nat) : Int)) = true from rfl, cond_true, show ixOk [o] (0 : Int) = true from rfl, chk, show decide ((0 : Int) > 200) = false from rfl, cond_false, show cutOk [o] (0 : Int) 0 = true from rfl]
  cases decide (((ixL ((0 : Int), (0 : Int), ((0 : Int), (0 : Int), (0 : Int), (0 : Int), (0 : Int), [], ()), false, ()) [o] 0).2.2.1.2.2.2.2.2.1.length : Int) > 2000) with
  | true => exact ⟨_, rfl⟩
  | false =>
    simp only [cond_false]
    unfold law25Cut.l2 law25Cut.b2
    exact ⟨[o], rfl⟩
/-- THE LAW. -/
theorem lawClientNil (o : S1) (_ : okAll law25ClientNil.con.ps (o, ())) : law25ClientNil 100 o = some (true, ()) := by
  unfold law25ClientNil
  obtain ⟨l, hl⟩ := cut1 o
  rw [hl, fixed25]
  simp only [Option.bind_some]
  cases (l.length : Int) == (0 : Int) with
  | true => rfl
  | false => rfl
end Go.Shal.Pr
