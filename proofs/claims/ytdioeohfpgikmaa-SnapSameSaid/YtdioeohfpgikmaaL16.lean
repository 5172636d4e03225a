/- The plain law of states' sameness: what the printed functions compute is the document's. No condition but that the arguments fit their types. By an AI agent. -/
import Derived.Test.YtdioeohfpgikmaaGen16
set_option linter.unusedVariables false
namespace Go.Shal.Pr
open Go Go.Shal Go.Proofs

theorem wrap_i64 {x : Int} (h0 : -9223372036854775808 ≤ x) (h1 : x < 9223372036854775808) : IntKind.i64.wrap x = x := by
  simp only [IntKind.wrap, IntKind.signed, IntKind.bits]
  simp
  omega
theorem ixS {l : List S0} {i : Nat} (h : i < l.length) : ixL ((0 : Int), (0 : Int), (0 : Int), ()) l i = l[i] := by
  unfold ixL
  simp [List.getElem?_eq_getElem h]
theorem eqv_self (x : S0) : Kd.eqv kS0 x x = true := by
  obtain ⟨a, b, c, u⟩ := x
  show ((a == a) && ((b == b) && ((c == c) && true))) = true
  simp
/-- Rows that are the same, one by one. -/
def eqL : List S0 → List S0 → Bool
  | x :: r, y :: q => Kd.eqv kS0 x y && eqL r q
  | _, _ => true
theorem eqL_self : ∀ l : List S0, eqL l l = true
  | [] => rfl
  | x :: r => by
    show (Kd.eqv kS0 x x && eqL r r) = true
    rw [eqv_self, eqL_self r]; rfl
theorem equal_rounds (fu : Nat) (k1 : Bool → Option (Bool × Unit)) (k2 : Unit → Option (Bool × Unit)) (a b : List S0) (ha : a.length ≤ 100000) (hb : b.length = a.length) : ∀ (m i : Nat), i ≤ a.length → a.length < i + m →
    slicesEqual.l4 fu k1 k2 m a b a.length i = cond (eqL (a.drop i) (b.drop i)) (k2 ()) (k1 false) := by
  intro m
  induction m with
  | zero => intro i h1 h2; omega
  | succ m ih =>
    intro i h1 h2
    unfold slicesEqual.l4 slicesEqual.b4
    by_cases h : i < a.length
    · have hi : (i : Int) < a.length := by omega
      have hx : ixOk a i = true := by simp [ixOk, h]
      have hy : ixOk b i = true := by simp [ixOk, hb, h]
      have e1 : IntKind.i64.wrap ((i : Int) + 1) = (i + 1 : Nat) := wrap_i64 (by omega) (by omega)
      rw [List.drop_eq_getElem_cons h, List.drop_eq_getElem_cons (show i < b.length by omega)]
      simp only [hi, decide_true, cond_true, chk, hx, hy, ixS h, ixS (show i < b.length by omega), e1]
      show _ = cond (Kd.eqv kS0 a[i] b[i] && eqL (a.drop (i + 1)) (b.drop (i + 1))) (k2 ()) (k1 false)
      cases Kd.eqv kS0 a[i] b[i] with
      | false => rfl
      | true => exact ih (i + 1) (by omega) (by omega)
    · have hi : ¬ (i : Int) < a.length := by omega
      rw [List.drop_of_length_le (by omega)]
      simp only [hi, decide_false, cond_false]
      rfl
theorem same_rounds (fu : Nat) (k1 : Bool → Option (Bool × Unit)) (k2 : Unit → Option (Bool × Unit)) (p q : S1) (ha : p.2.2.2.2.1.length ≤ 100000) (hb : q.2.2.2.2.1.length = p.2.2.2.2.1.length) : ∀ (m i : Nat), i ≤ p.2.2.2.2.1.length → p.2.2.2.2.1.length < i + m →
    ref15Same.l4 fu k1 k2 m p.2.2.2.2.1.length i p q = cond (eqL (p.2.2.2.2.1.drop i) (q.2.2.2.2.1.drop i)) (k2 ()) (k1 false) := by
  intro m
  induction m with
  | zero => intro i h1 h2; omega
  | succ m ih =>
    intro i h1 h2
    unfold ref15Same.l4 ref15Same.b4
    by_cases h : i < p.2.2.2.2.1.length
    · have hi : (i : Int) < p.2.2.2.2.1.length := by omega
      have hx : ixOk p.2.2.2.2.1 i = true := by simp [ixOk, h]
      have hy : ixOk q.2.2.2.2.1 i = true := by simp [ixOk, hb, h]
      have e1 : IntKind.i64.wrap ((i : Int) + 1) = (i + 1 : Nat) := wrap_i64 (by omega) (by omega)
      rw [List.drop_eq_getElem_cons h, List.drop_eq_getElem_cons (show i < q.2.2.2.2.1.length by omega)]
      simp only [hi, decide_true, cond_true, chk, hx, hy, ixS h, ixS (show i < q.2.2.2.2.1.length by omega), e1]
      show _ = cond (Kd.eqv kS0 p.2.2.2.2.1[i] q.2.2.2.2.1[i] && eqL (p.2.2.2.2.1.drop (i + 1)) (q.2.2.2.2.1.drop (i + 1))) (k2 ()) (k1 false)
      cases Kd.eqv kS0 p.2.2.2.2.1[i] q.2.2.2.2.1[i] with
      | false => rfl
      | true => exact ih (i + 1) (by omega) (by omega)
    · have hi : ¬ (i : Int) < p.2.2.2.2.1.length := by omega
      rw [List.drop_of_length_le (by omega)]
      simp only [hi, decide_false, cond_false]
      rfl
/-- Are two states the same? -/
def same16 (p q : S1) : Bool := (p.1 == q.1) && ((p.2.1 == q.2.1) && ((p.2.2.1 == q.2.2.1) && ((p.2.2.2.1 == q.2.2.2.1) && (((p.2.2.2.2.1.length : Int) == (q.2.2.2.2.1.length : Int)) && eqL p.2.2.2.2.1 q.2.2.2.2.1))))
theorem same16_self (p : S1) : same16 p p = true := by simp [same16, eqL_self]
theorem equal_eq (fu : Nat) (a b : List S0) (ha : a.length ≤ 100000) (hf : a.length < fu) : slicesEqual fu a b = some (((a.length : Int) == (b.length : Int)) && eqL a b, ()) := by
  unfold slicesEqual
  cases h : ((a.length : Int) == (b.length : Int)) with
  | false =>
    have : ((a.length : Int) != (b.length : Int)) = true := by simp [bne, h]
    simp only [this, cond_true, Bool.false_and]
  | true =>
    have h1 : ((a.length : Int) != (b.length : Int)) = false := by simp [bne, h]
    have := equal_rounds fu (fun q => some (q, ())) (fun _ => some (true, ())) a b ha (by have := eq_of_beq h; omega) fu 0 (by omega) (by omega)
    simp only [h1, cond_false, Bool.true_and]
    refine this.trans ?_
    rw [List.drop_zero, List.drop_zero]
    cases eqL a b <;> rfl
theorem snapSame_eq (fu : Nat) (p q : S1) (ha : p.2.2.2.2.1.length ≤ 100000) (hf : p.2.2.2.2.1.length < fu) : snapSame fu p q = some (same16 p q, ()) := by
  unfold snapSame same16
  rw [equal_eq fu _ _ ha hf]
  cases p.1 == q.1 <;> cases p.2.1 == q.2.1 <;> cases p.2.2.1 == q.2.2.1 <;> cases p.2.2.2.1 == q.2.2.2.1 <;> rfl
theorem refSame_eq (fu : Nat) (p q : S1) (ha : p.2.2.2.2.1.length ≤ 100000) (hf : p.2.2.2.2.1.length < fu) : ref15Same fu p q = some (same16 p q, ()) := by
  unfold ref15Same same16
  have key : (cond ((p.2.2.2.2.1.length : Int) != (q.2.2.2.2.1.length : Int)) (some (false, ())) (ref15Same.l4 fu (fun vq3 => some (vq3, ())) (fun (_ : Unit) => some (true, ())) fu (p.2.2.2.2.1.length : Int) (0 : Int) p q) : Option (Bool × Unit)) = some (((p.2.2.2.2.1.length : Int) == (q.2.2.2.2.1.length : Int)) && eqL p.2.2.2.2.1 q.2.2.2.2.1, ()) := by
    cases h : ((p.2.2.2.2.1.length : Int) == (q.2.2.2.2.1.length : Int)) with
    | false =>
      have : ((p.2.2.2.2.1.length : Int) != (q.2.2.2.2.1.length : Int)) = true := by simp [bne, h]
      simp only [this, cond_true, Bool.false_and]
    | true =>
      have h1 : ((p.2.2.2.2.1.length : Int) != (q.2.2.2.2.1.length : Int)) = false := by simp [bne, h]
      have := same_rounds fu (fun q => some (q, ())) (fun _ => some (true, ())) p q ha (by have := eq_of_beq h; omega) fu 0 (by omega) (by omega)
      simp only [h1, cond_false, Bool.true_and]
      refine this.trans ?_
      rw [List.drop_zero, List.drop_zero]
      cases eqL p.2.2.2.2.1 q.2.2.2.2.1 <;> rfl
  simp only [key]
  have b1 : (p.1 != q.1) = !(p.1 == q.1) := rfl
  have b2 : (p.2.1 != q.2.1) = !(p.2.1 == q.2.1) := rfl
  have b3 : (p.2.2.2.1 != q.2.2.2.1) = !(p.2.2.2.1 == q.2.2.2.1) := rfl
  rw [b1, b2, b3]
  cases p.1 == q.1 <;> cases p.2.1 == q.2.1 <;> cases p.2.2.1 == q.2.2.1 <;> cases p.2.2.2.1 == q.2.2.2.1 <;> rfl
theorem fixed16 : law16Fixed 300 = some (true, ()) := by kernel_rfl

/-- THE LAW. -/
theorem lawSnapSame (p q : S1) (_ : okAll law16SnapSame.con.ps (p, q, ())) : law16SnapSame 300 p q = some (true, ()) := by
  unfold law16SnapSame
  rw [fixed16]
  by_cases h1 : (p.2.2.2.2.1.length : Int) > 200
  · simp only [h1, decide_true, cond_true, Option.bind_some]
  by_cases h2 : (q.2.2.2.2.1.length : Int) > 200
  · simp only [h1, h2, decide_true, decide_false, cond_true, cond_false, Option.bind_some]
  simp only [h1, h2, decide_false, cond_false, Option.bind_some, cond_true, snapSame_eq 300 p q (by omega) (by omega), refSame_eq 300 p q (by omega) (by omega), snapSame_eq 300 p p (by omega) (by omega), beq_self_eq_true, same16_self]
end Go.Shal.Pr
