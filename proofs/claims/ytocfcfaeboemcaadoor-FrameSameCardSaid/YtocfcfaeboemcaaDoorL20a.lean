/- The plain law of frames' sameness: what the printed functions compute is the document's. No condition but that the arguments fit their types. By an AI agent. -/
import Derived.Test.YtocfcfaeboemcaaDoorGen20
set_option linter.unusedVariables false
namespace Go.Shal.Pr
open Go Go.Shal Go.Proofs
theorem wrap_i64 {x : Int} (h0 : -9223372036854775808 ≤ x) (h1 : x < 9223372036854775808) : IntKind.i64.wrap x = x := by
  simp only [IntKind.wrap, IntKind.signed, IntKind.bits]
  simp
  omega
theorem ixL_get {l : List Int} {i : Nat} (h : i < l.length) : ixL (0 : Int) l i = l[i] := by
  unfold ixL
  simp [List.getElem?_eq_getElem h]
theorem equal_rounds (fu : Nat) (k1 : Bool → Option (Bool × Unit)) (k2 : Unit → Option (Bool × Unit)) (a b : List Int) (ha : a.length ≤ 100000) (hb : b.length = a.length) : ∀ (m i : Nat), i ≤ a.length → a.length < i + m →
    slicesEqual.l4 fu k1 k2 m a b a.length i = cond (a.drop i == b.drop i) (k2 ()) (k1 false) := by
  intro m
  induction m with
  | zero => intro i h1 h2; omega
  | succ m ih =>
    intro i h1 h2
    unfold slicesEqual.l4 slicesEqual.b4
    by_cases h : i < a.length
    · have hi : (i : Int) < a.length := by omega
      have hx : ixOk a i = true := by simp [ixOk, h]
      have hy : ixOk b i = true := by simp [ixOk, hb, h]
      have e1 : IntKind.i64.wrap ((i : Int) + 1) = (i + 1 : Nat) := wrap_i64 (by omega) (by omega)
      have hb' : i < b.length := by omega
      rw [List.drop_eq_getElem_cons h, List.drop_eq_getElem_cons hb']
      simp only [hi, decide_true, cond_true, chk, hx, hy, ixL_get h, ixL_get hb', e1, List.cons_beq_cons]
      by_cases he : a[i] = b[i]
      · have h1 : (a[i] != b[i]) = false := by simp [he]
        have h2 : (a[i] == b[i]) = true := by simp [he]
        simp only [h1, h2, cond_false, Bool.true_and]
        exact ih (i + 1) (by omega) (by omega)
      · have h1 : (a[i] != b[i]) = true := by simp [he]
        have h2 : (a[i] == b[i]) = false := by simp [he]
        simp only [h1, h2, cond_true, Bool.false_and, cond_false]
    · have hi : ¬ (i : Int) < a.length := by omega
      rw [List.drop_of_length_le (by omega), List.drop_of_length_le (by omega)]
      simp only [hi, decide_false, cond_false]
      rfl
theorem equal_eq (fu : Nat) (a b : List Int) (ha : a.length ≤ 100000) (hf : a.length < fu) : slicesEqual fu a b = some (a == b, ()) := by
  unfold slicesEqual
  by_cases h : a.length = b.length
  · have h1 : ((a.length : Int) != (b.length : Int)) = false := by simp [h]
    have := equal_rounds fu (fun q => some (q, ())) (fun _ => some (true, ())) a b ha h.symm fu 0 (by omega) (by omega)
    simp only [h1, cond_false]
    refine this.trans ?_
    rw [List.drop_zero, List.drop_zero]
    cases (a == b) <;> rfl
  · have h1 : ((a.length : Int) != (b.length : Int)) = true := by rw [bne_iff_ne]; omega
    have h2 : (a == b) = false := by
      rw [beq_eq_false_iff_ne]
      intro e; exact h (by rw [e])
    simp only [h1, cond_true, h2]
theorem same_eq (fu : Nat) (a b : S0) (ha : a.2.2.2.2.2.1.length ≤ 100000) (hf : a.2.2.2.2.2.1.length < fu) : frameSame fu a b = ref20Same fu a b := by
  unfold frameSame ref20Same
  simp only [equal_eq fu _ _ ha hf, Option.bind_some]
theorem refSame_val (fu : Nat) (a b : S0) : ∃ r, ref20Same fu a b = some (r, ()) := by
  unfold ref20Same
  cases a.1 == b.1 <;> cases a.2.1 == b.2.1 <;> cases a.2.2.1 == b.2.2.1 <;> cases a.2.2.2.1 == b.2.2.2.1 <;> cases h : (a.2.2.2.2.1 == b.2.2.2.2.1) <;> simp only [cond_true, cond_false] <;> exact ⟨_, rfl⟩
theorem refSame_self (fu : Nat) (a : S0) : ref20Same fu a a = some (true, ()) := by
  unfold ref20Same
  simp only [beq_self_eq_true, cond_true]
theorem fixed20 : law20Fixed 4000 = some (true, ()) := by kernel_rfl

/-- THE LAW. -/
theorem lawFrameSame (a b : S0) (_ : okAll law20FrameSame.con.ps (a, b, ())) : law20FrameSame 4000 a b = some (true, ()) := by
  unfold law20FrameSame
  rw [fixed20]
  by_cases h1 : (a.2.2.2.2.2.1.length : Int) > 3000
  · simp only [h1, decide_true, cond_true, Option.bind_some]
  by_cases h2 : (b.2.2.2.2.2.1.length : Int) > 3000
  · simp only [h1, h2, decide_true, decide_false, cond_true, cond_false, Option.bind_some]
  obtain ⟨r, hr⟩ := refSame_val 4000 a b
  simp only [h1, h2, decide_false, cond_false, Option.bind_some, cond_true, same_eq 4000 a b (by omega) (by omega), same_eq 4000 a a (by omega) (by omega), hr, refSame_self, beq_self_eq_true]
end Go.Shal.Pr
