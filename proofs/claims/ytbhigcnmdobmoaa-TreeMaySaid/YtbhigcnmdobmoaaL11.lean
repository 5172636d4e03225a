/- The plain laws of trees of nodes. By an AI agent. -/
import Derived.Test.YtbhigcnmdobmoaaGen11
set_option linter.unusedVariables false
namespace Go.Shal.Pr
open Go Go.Shal Go.Proofs
abbrev Sp0 : Type := Bool × Int × Int × Unit
theorem wrap_i64 {x : Int} (h0 : -9223372036854775808 ≤ x) (h1 : x < 9223372036854775808) : IntKind.i64.wrap x = x := by
  simp only [IntKind.wrap, IntKind.signed, IntKind.bits]
  simp
  omega
theorem wrap_u8 (x : Int) : IntKind.u8.wrap x = x % 256 := by
  simp only [IntKind.wrap, IntKind.signed, IntKind.bits]
  simp
theorem apOk1 {xs ys : List Int} (h : xs.length + ys.length ≤ 1000000) : apOk xs ys 1 = true := by
  unfold apOk
  exact decide_eq_true (Nat.le_trans (Nat.mul_le_mul_right 1 h) (by decide))
theorem u64Of {x : Int} (h : inR .u64 x) : 0 ≤ x ∧ x < 18446744073709551616 := by
  simp [inR, IntKind.min, IntKind.max, IntKind.signed, IntKind.bits] at h
  omega
theorem i64Of {x : Int} (h : inR .i64 x) : -9223372036854775808 ≤ x ∧ x < 9223372036854775808 := by
  simp [inR, IntKind.min, IntKind.max, IntKind.signed, IntKind.bits] at h
  omega
abbrev Va : Type := Int × Int × Nat × List Int × Unit
theorem ne_beq {x y : Int} (h : ¬ x = y) : (x == y) = false := beq_false_of_ne h
def F64 (x : Nat) : Prop := x < 18446744073709551616
theorem extBits_eq (fu : Nat) {x : Nat} (h : F64 x) : extBits.f fu (x, ()) = some ((x : Int), ()) := by
  show (match decide (x < 18446744073709551616) with | true => some ((x : Int), ()) | false => none) = _
  have : decide (x < 18446744073709551616) = true := decide_eq_true (show x < 18446744073709551616 from h)
  rw [this]
theorem bits_bind {β : Type} (fu : Nat) {x : Nat} (h : F64 x) (K : (Kd.struct extBits.rs).T → Option β) : (extBits.f fu (x, ())).bind K = K ((x : Int), ()) := by rw [extBits_eq fu h]; rfl
def mayV (v : Va) : Bool := decide (v.1 ≤ 3) && (decide (v.2.1 = 0) || decide (v.1 = 1)) && (decide (v.2.2.1 = 0) || decide (v.1 = 2)) && (decide (v.2.2.2.1 = []) || decide (v.1 = 3)) && decide (v.2.2.2.1.length ≤ 255)
theorem valueMay_eq (fu : Nat) (v : Va) (h : F64 v.2.2.1) : valueMay fu v = some (mayV v, ()) := by
  obtain ⟨k, i, x, s, u⟩ := v
  have h0 : F64 0 := by unfold F64; omega
  have q1 : ∀ y : Nat, (((0 : Nat) : Int) == (y : Int)) = decide (y = 0) := fun y => by
    by_cases hy : y = 0
    · subst hy; rfl
    · rw [decide_eq_false hy]; exact ne_beq (by omega)
  have q2 : ∀ y : Int, ((0 : Int) == y) = decide (y = 0) := fun y => by
    by_cases hy : y = 0
    · subst hy; rfl
    · rw [decide_eq_false hy]; exact ne_beq (by omega)
  have q3 : ∀ y : List Int, (([] : List Int) == y) = decide (y = []) := fun y => by cases y <;> rfl
  have q4 : decide ((s.length : Int) ≤ 255) = decide (s.length ≤ 255) := by
    by_cases hs : s.length ≤ 255
    · rw [decide_eq_true hs, decide_eq_true (by omega)]
    · rw [decide_eq_false hs, decide_eq_false (by omega)]
  have h' : F64 x := h
  unfold valueMay valueHeld mayV
  by_cases k1 : k = 1
  · subst k1
    simp only [beq_self_eq_true, cond_true, Option.bind_some, bits_bind fu h', bits_bind fu h0, q1, q3, q4]
    cases decide (s.length ≤ 255) <;> cases decide (s = []) <;> cases decide (x = 0) <;> simp
  · by_cases k2 : k = 2
    · subst k2
      simp only [ne_beq (show ¬ (2 : Int) = 1 by decide), beq_self_eq_true, cond_true, cond_false, Option.bind_some, bits_bind fu h', q2, q3, q4]
      cases decide (s.length ≤ 255) <;> cases decide (s = []) <;> cases decide (i = 0) <;> simp
    · by_cases k3 : k = 3
      · subst k3
        simp only [ne_beq (show ¬ (3 : Int) = 1 by decide), ne_beq (show ¬ (3 : Int) = 2 by decide), beq_self_eq_true, cond_true, cond_false, Option.bind_some, bits_bind fu h', bits_bind fu h0, q1, q2, q4]
        cases decide (s.length ≤ 255) <;> cases decide (i = 0) <;> cases decide (x = 0) <;> simp
      · simp only [ne_beq k1, ne_beq k2, ne_beq k3, cond_false, Option.bind_some, bits_bind fu h', bits_bind fu h0, q1, q2, q3, q4, k1, k2, k3, decide_false, Bool.or_false]
        cases decide (k ≤ 3) <;> cases decide (s.length ≤ 255) <;> cases decide (i = 0) <;> cases decide (x = 0) <;> cases decide (s = []) <;> simp
theorem refMay_eq (fu : Nat) (v : Va) (h : F64 v.2.2.1) : ref04May fu v = some (mayV v, ()) := by
  obtain ⟨k, i, x, s, u⟩ := v
  have h' : F64 x := h
  have q1 : ((x : Int) == 0) = decide (x = 0) := by
    by_cases hy : x = 0
    · subst hy; rfl
    · rw [decide_eq_false hy]; exact ne_beq (by omega)
  have q2 : ∀ a b : Int, (a == b) = decide (a = b) := fun _ _ => rfl
  have q3 : (s == ([] : List Int)) = decide (s = []) := by cases s <;> rfl
  have q4 : decide ((s.length : Int) ≤ 255) = decide (s.length ≤ 255) := by
    by_cases hs : s.length ≤ 255
    · rw [decide_eq_true hs, decide_eq_true (by omega)]
    · rw [decide_eq_false hs, decide_eq_false (by omega)]
  have q5 : decide (k < 4) = decide (k ≤ 3) := by
    by_cases hs : k ≤ 3
    · rw [decide_eq_true hs, decide_eq_true (by omega)]
    · rw [decide_eq_false hs, decide_eq_false (by omega)]
  unfold ref04May mayV
  unfold ref04May.j2
  rw [bits_bind fu h', bits_bind fu h']
  simp only [ref04May.j3, ref04May.j4, q1, q2, q3, q4, q5]
  cases decide (k ≤ 3) <;> cases decide (s.length ≤ 255) <;> cases decide (i = 0) <;> cases decide (x = 0) <;> cases decide (s = []) <;> cases decide (k = 1) <;> cases decide (k = 2) <;> cases decide (k = 3) <;> rfl
theorem ixOkN {α : Type} {l : List α} {i : Nat} (h : i < l.length) : ixOk l (i : Int) = true := by unfold ixOk; simp; omega
theorem drop_one {α : Type} {l : List α} {i : Nat} (h : i < l.length) : l.drop i = l[i] :: l.drop (i + 1) := List.drop_eq_getElem_cons h
abbrev Rw : Type := Int × Int × Int × List Int × Unit
def rawV (x : Rw) : Va := (x.1, x.2.1, x.2.2.1.toNat, x.2.2.2.1, ())
theorem raw_eq (fu : Nat) (x : Rw) : law04RawValue fu x = some (rawV x, ()) := rfl
def vaFit (v : Va) : Prop := (-9223372036854775808 ≤ v.2.1 ∧ v.2.1 ≤ 9223372036854775807) ∧ F64 v.2.2.1
theorem raw_fit {x : Rw} (h : (Kd.struct [(.int .u8), (.int .i64), (.int .u64), .str]).ok x) : vaFit (rawV x) := by
  obtain ⟨-, k2, k3, -⟩ := h
  have k2 := i64Of k2
  have k3 : 0 ≤ x.2.2.1 ∧ x.2.2.1 < 18446744073709551616 := u64Of k3
  have k2 : -9223372036854775808 ≤ x.2.1 ∧ x.2.1 < 9223372036854775808 := k2
  exact ⟨⟨k2.1, by show x.2.1 ≤ _; omega⟩, by show x.2.2.1.toNat < _; omega⟩
theorem u8Of {x : Int} (h : inR .u8 x) : 0 ≤ x ∧ x < 256 := by
  simp [inR, IntKind.min, IntKind.max, IntKind.signed, IntKind.bits] at h
  omega
abbrev Te : Type := Int × Int × Va × Unit
abbrev Pd : Type := Bool × Int × List Te × Unit
abbrev RT : Type := Int × Int × Rw × Unit
def rawT (x : RT) : Te := (x.1, x.2.1, rawV x.2.2.1, ())
theorem apOk48 {xs ys : List Te} (h : xs.length + ys.length ≤ 100000) : apOk xs ys 48 = true := by
  have hL : (10000000 : Nat) ≤ LIM := by decide
  unfold apOk
  exact decide_eq_true (by omega)
theorem ixRT {l : List RT} {i : Nat} (h : i < l.length) : ixL ((0 : Int), (0 : Int), ((0 : Int), (0 : Int), (0 : Int), ([] : List Int), ()), ()) l i = l[i] := by
  unfold ixL
  simp [List.getElem?_eq_getElem h]
theorem ixT {l : List Te} {i : Nat} (h : i < l.length) : ixL ((0 : Int), (0 : Int), ((0 : Int), (0 : Int), (0 : Nat), ([] : List Int), ()), ()) l i = l[i] := by
  unfold ixL
  simp [List.getElem?_eq_getElem h]
theorem raw10_rounds (fu : Nat) (k2 : Bool → Int → List Te → Bool → Int → List Te → Option (Pd × Unit)) (l : List RT) (hl : l.length ≤ 140737488355328) (b1 b2 : Bool) (c1 c2 : Int) (c1x : List Te) : ∀ (k m i : Nat), i + k = l.length → k < m →
    law10RawPred.l3 fu k2 m l l.length i b1 c1 c1x b2 c2 ((l.take (min i 10)).map rawT) = k2 b1 c1 c1x b2 c2 ((l.take 10).map rawT) := by
  intro k
  induction k with
  | zero =>
    intro m i h1 h2
    obtain ⟨m, rfl⟩ : ∃ j, m = j + 1 := ⟨m - 1, by omega⟩
    unfold law10RawPred.l3 law10RawPred.b3
    rw [decide_eq_false (by omega), cond_false]
    congr 2
    by_cases h : i ≤ 10
    · rw [show min i 10 = i by omega, List.take_of_length_le (by omega), List.take_of_length_le (by omega)]
    · rw [show min i 10 = 10 by omega]
  | succ k ih =>
    intro m i h1 h2
    obtain ⟨m, rfl⟩ : ∃ j, m = j + 1 := ⟨m - 1, by omega⟩
    have hi : i < l.length := by omega
    have e1 : IntKind.i64.wrap ((i : Int) + 1) = ((i + 1 : Nat) : Int) := wrap_i64 (by omega) (by omega)
    have := ih m (i + 1) (by omega) (by omega)
    unfold law10RawPred.l3 law10RawPred.b3
    rw [decide_eq_true (by omega), cond_true, ixOkN hi, ixRT hi]
    simp only [raw_eq, chk, cond_true, Option.bind_some, e1]
    by_cases h30 : (i : Int) < 10
    · have e2 : apOk ((l.take (min i 10)).map rawT) [rawT l[i]] 48 = true := apOk48 (by simp; omega)
      have e3 : (((l[i].1, l[i].2.1, rawV l[i].2.2.1, ()) : Te)) = rawT l[i] := rfl
      simp only [decide_eq_true h30, cond_true, e3, e2]
      rw [show min (i + 1) 10 = i + 1 by omega, List.take_succ_eq_append_getElem hi, List.map_append] at this
      rw [show min i 10 = i by omega]
      exact this
    · simp only [decide_eq_false h30, cond_false]
      rw [show min (i + 1) 10 = 10 by omega] at this
      rw [show min i 10 = 10 by omega]
      exact this
def rawP (x : Bool × Int × List RT × Unit) : Pd := (x.1, x.2.1, (x.2.2.1.take 10).map rawT, ())
theorem rawP_eq (fu : Nat) (x : Bool × Int × List RT × Unit) (hl : x.2.2.1.length ≤ 140737488355328) (hfu : x.2.2.1.length < fu) : law10RawPred fu x = some (rawP x, ()) := by
  unfold law10RawPred
  have := raw10_rounds fu (fun c1q2 c1q2x2 c1q2x3 c2q2 c2q2x2 c2q2x3 => some ((c2q2, c2q2x2, c2q2x3, ()), ())) x.2.2.1 hl false x.1 0 x.2.1 [] x.2.2.1.length fu 0 (by omega) hfu
  rw [show min 0 10 = 0 from rfl, List.take_zero, List.map_nil] at this
  exact this
theorem great10_rounds (fu : Nat) (k2 : Int → Option (Bool × Unit)) (p : Pd) (hl : p.2.2.1.length ≤ 40) : ∀ (k m i : Nat) (n : Int), i + k = p.2.2.1.length → k < m → ∃ n', ref10Great.l5 fu k2 m n p.2.2.1.length i p = k2 n' := by
  intro k
  induction k with
  | zero =>
    intro m i n h1 h2
    obtain ⟨m, rfl⟩ : ∃ j, m = j + 1 := ⟨m - 1, by omega⟩
    unfold ref10Great.l5 ref10Great.b5
    rw [decide_eq_false (by omega), cond_false]
    exact ⟨n, rfl⟩
  | succ k ih =>
    intro m i n h1 h2
    obtain ⟨m, rfl⟩ : ∃ j, m = j + 1 := ⟨m - 1, by omega⟩
    have hi : i < p.2.2.1.length := by omega
    have e1 : IntKind.i64.wrap ((i : Int) + 1) = ((i + 1 : Nat) : Int) := wrap_i64 (by omega) (by omega)
    unfold ref10Great.l5 ref10Great.b5
    rw [decide_eq_true (by omega), cond_true, ixOkN hi, ixT hi]
    simp only [chk, cond_true, e1]
    exact ih m (i + 1) _ (by omega) (by omega)
theorem great10_eq (fu : Nat) (hfu : 50 ≤ fu) (p : Pd) : ∃ g, ref10Great fu p = some (g, ()) := by
  unfold ref10Great
  by_cases h : (p.2.2.1.length : Int) > 20
  · exact ⟨true, by simp only [decide_eq_true h, cond_true]⟩
  · obtain ⟨n', hn⟩ := great10_rounds fu (fun nq2 => some (decide (nq2 > (3000 : Int)), ())) p (by omega) p.2.2.1.length fu 0 p.2.2.1.length (by omega) (by omega)
    refine ⟨decide (n' > (3000 : Int)), ?_⟩
    simp only [decide_eq_false h, cond_false]
    exact hn
def okT (l : List Te) : Prop := ∀ t ∈ l, F64 t.2.2.1.2.2.1
theorem rawP_ok {x : Bool × Int × List RT × Unit} (h : kS5.ok x) : okT (rawP x).2.2.1 ∧ (rawP x).2.2.1.length ≤ 10 ∧ x.2.2.1.length ≤ 140737488355328 := by
  obtain ⟨-, -, h2, -⟩ := h
  refine ⟨?_, by simp [rawP]; omega, ?_⟩
  · intro v hv
    obtain ⟨w, hw, rfl⟩ := List.mem_map.1 hv
    obtain ⟨-, -, ⟨-, -, k3, -⟩, -⟩ := h2.2 w (List.mem_of_mem_take hw)
    have k3 : 0 ≤ w.2.2.1.2.2.1 ∧ w.2.2.1.2.2.1 < 18446744073709551616 := u64Of k3
    show w.2.2.1.2.2.1.toNat < _
    omega
  · have hb : x.2.2.1.length * 1 ≤ x.2.2.1.length * (Kd.bytes kS4) := Nat.mul_le_mul_left _ (by decide)
    have hr : reachBytes = 140737488351232 + 4096 - 4096 := by decide
    have : x.2.2.1.length * (Kd.bytes kS4) ≤ reachBytes := h2.1
    omega
def teFit (t : Te) : Prop := (0 ≤ t.1 ∧ t.1 ≤ 255) ∧ (0 ≤ t.2.1 ∧ t.2.1 ≤ 255) ∧ vaFit t.2.2.1 ∧ 0 ≤ t.2.2.1.1
def rightT (t : Te) : Bool := mayV t.2.2.1 && (if t.2.1 = 7 then decide (t.2.2.1.1 = 0) else if t.2.1 = 8 then decide (t.2.2.1.1 = 3) else decide (1 ≤ t.2.1) && (decide (t.2.1 ≤ 6) && !decide (t.2.2.1.1 = 0)))
theorem beq_dec (x y : Int) : (x == y) = decide (x = y) := rfl
theorem bne_dec' (x y : Int) : (x != y) = !decide (x = y) := rfl
theorem predRight_eq (fu : Nat) (t : Te) (h : teFit t) : predRight fu t = some (rightT t, ()) := by
  unfold predRight rightT
  rw [valueMay_eq fu _ h.2.2.1.2]
  simp only [Option.bind_some, beq_dec, bne_dec']
  cases mayV t.2.2.1 with
  | false => rfl
  | true =>
    simp only [Bool.not_true, cond_false, Bool.true_and]
    by_cases h7 : t.2.1 = 7
    · simp [h7]
    · by_cases h8 : t.2.1 = 8
      · simp [h8]
      · simp only [decide_eq_false h7, decide_eq_false h8, if_neg h7, if_neg h8, cond_false]
        by_cases h1 : 1 ≤ t.2.1
        · rw [decide_eq_true (show t.2.1 ≥ 1 from h1)]
          by_cases h6 : t.2.1 ≤ 6
          · rw [decide_eq_true h6]; rfl
          · rw [decide_eq_false h6]; rfl
        · rw [decide_eq_false (show ¬ t.2.1 ≥ 1 from h1)]; rfl
theorem refRight_eq (fu : Nat) (t : Te) (h : teFit t) : ref10Right fu t = some (rightT t, ()) := by
  unfold ref10Right rightT
  rw [refMay_eq fu _ h.2.2.1.2]
  simp only [Option.bind_some, beq_dec, bne_dec']
  by_cases h1 : t.2.1 < 1
  · rw [decide_eq_true h1, if_neg (by omega), if_neg (by omega), decide_eq_false (show ¬ 1 ≤ t.2.1 by omega)]
    simp
  · rw [decide_eq_false h1, decide_eq_true (show 1 ≤ t.2.1 by omega)]
    by_cases h8 : t.2.1 > 8
    · rw [decide_eq_true h8, if_neg (by omega), if_neg (by omega), decide_eq_false (show ¬ t.2.1 ≤ 6 by omega)]
      simp
    · rw [decide_eq_false h8]
      cases mayV t.2.2.1 with
      | false => rfl
      | true =>
        simp only [Bool.not_true, cond_false, Bool.true_and]
        by_cases h7 : t.2.1 = 7
        · simp [h7]
        · by_cases h8 : t.2.1 = 8
          · simp [h8]
          · rw [decide_eq_true (show t.2.1 ≤ 6 by omega)]
            simp only [decide_eq_false h7, decide_eq_false h8, if_neg h7, if_neg h8, cond_false, Bool.true_and]
theorem index10_rounds (fu : Nat) (k1 : Int → Option ((Int × Unit) × (Unit))) (k2 : Unit → Option ((Int × Unit) × (Unit))) (l : List Te) (hv : ∀ v ∈ l, teFit v) (hl : l.length ≤ 1000) : ∀ (k m i : Nat), i + k = l.length → k < m →
    ((l.drop i).all rightT = true → slicesIndexFuncF130.l2 fu k1 k2 m l l.length i = k2 ()) ∧ ((l.drop i).all rightT = false → ∃ j : Nat, slicesIndexFuncF130.l2 fu k1 k2 m l l.length i = k1 j) := by
  intro k
  induction k with
  | zero =>
    intro m i h1 h2
    obtain ⟨m, rfl⟩ : ∃ j, m = j + 1 := ⟨m - 1, by omega⟩
    rw [List.drop_eq_nil_of_le (by omega)]
    refine ⟨fun _ => ?_, fun h => absurd h (by decide)⟩
    unfold slicesIndexFuncF130.l2 slicesIndexFuncF130.b2
    rw [decide_eq_false (by omega), cond_false]
  | succ k ih =>
    intro m i h1 h2
    obtain ⟨m, rfl⟩ : ∃ j, m = j + 1 := ⟨m - 1, by omega⟩
    have hi : i < l.length := by omega
    have e1 : IntKind.i64.wrap ((i : Int) + 1) = ((i + 1 : Nat) : Int) := wrap_i64 (by omega) (by omega)
    have := ih m (i + 1) (by omega) (by omega)
    rw [drop_one hi]
    unfold slicesIndexFuncF130.l2 slicesIndexFuncF130.b2 predMay1
    rw [decide_eq_true (by omega), cond_true, ixOkN hi, ixT hi]
    simp only [predRight_eq fu _ (hv _ (List.getElem_mem hi)), chk, cond_true, Option.bind_some, e1, List.all_cons]
    cases hm : rightT l[i] with
    | true => simpa using this
    | false => simp only [Bool.false_and, Bool.not_false, cond_true]; exact ⟨fun h => (nomatch h), fun _ => ⟨i, rfl⟩⟩
def pdFit (p : Pd) : Prop := ∀ t ∈ p.2.2.1, teFit t
def mayP (p : Pd) : Bool := !(p.1 && !decide (p.2.1 = 0)) && (decide (p.2.2.1.length ≤ 4) && p.2.2.1.all rightT)
theorem contains10_eq (fu : Nat) (l : List Te) (hv : ∀ v ∈ l, teFit v) (hl : l.length ≤ 1000) (hfu : l.length < fu) : slicesContainsFuncF113 fu l = some ((!(l.all rightT), ()), ()) := by
  have := index10_rounds fu (fun vq3 => some ((vq3, ()), (()))) (fun _ => some (((-1 : Int), ()), (()))) l hv hl l.length fu 0 (by omega) (by omega)
  rw [List.drop_zero] at this
  unfold slicesContainsFuncF113 slicesIndexFuncF130
  rw [show ((0 : Int)) = ((0 : Nat) : Int) from rfl]
  cases hm : l.all rightT with
  | true => rw [this.1 hm]; rfl
  | false =>
    obtain ⟨j, hj⟩ := this.2 hm
    rw [hj]
    simp only [Option.bind_some, decide_eq_true (show (j : Int) ≥ ((0 : Nat) : Int) by omega), Bool.not_false]
theorem predMay_eq (fu : Nat) (hfu : 10 ≤ fu) (p : Pd) (hp : pdFit p) : predMay fu p = some (mayP p, ()) := by
  unfold predMay mayP
  have tail : (cond (decide ((p.2.2.1.length : Int) > 4)) (some (false, ())) ((slicesContainsFuncF113 fu p.2.2.1).bind fun r2 => some (!r2.1.1, ()))) = some (decide (p.2.2.1.length ≤ 4) && p.2.2.1.all rightT, ()) := by
    by_cases h : p.2.2.1.length ≤ 4
    · rw [decide_eq_false (show ¬ (p.2.2.1.length : Int) > 4 by omega), decide_eq_true h, contains10_eq fu _ hp (by omega) (by omega)]
      simp
    · rw [decide_eq_true (show (p.2.2.1.length : Int) > 4 by omega), decide_eq_false h]; rfl
  simp only [bne_dec', tail]
  cases p.1 with
  | false => rfl
  | true =>
    by_cases h : p.2.1 = 0
    · simp [h]
    · simp [h]
theorem refMay10_rounds (fu : Nat) (k1 : Bool → Option (Bool × Unit)) (k2 : Pd → Option (Bool × Unit)) (p : Pd) (hv : pdFit p) (hl : p.2.2.1.length ≤ 1000) : ∀ (k m i : Nat), i + k = p.2.2.1.length → k < m →
    ref10May.l2 fu k1 k2 m p.2.2.1.length i p = if (p.2.2.1.drop i).all rightT = true then k2 p else k1 false := by
  intro k
  induction k with
  | zero =>
    intro m i h1 h2
    obtain ⟨m, rfl⟩ : ∃ j, m = j + 1 := ⟨m - 1, by omega⟩
    rw [List.drop_eq_nil_of_le (by omega)]
    unfold ref10May.l2 ref10May.b2
    rw [decide_eq_false (by omega), cond_false]
    rfl
  | succ k ih =>
    intro m i h1 h2
    obtain ⟨m, rfl⟩ : ∃ j, m = j + 1 := ⟨m - 1, by omega⟩
    have hi : i < p.2.2.1.length := by omega
    have e1 : IntKind.i64.wrap ((i : Int) + 1) = ((i + 1 : Nat) : Int) := wrap_i64 (by omega) (by omega)
    have := ih m (i + 1) (by omega) (by omega)
    rw [drop_one hi]
    unfold ref10May.l2 ref10May.b2
    rw [decide_eq_true (by omega), cond_true, ixOkN hi, ixT hi]
    simp only [refRight_eq fu _ (hv _ (List.getElem_mem hi)), chk, cond_true, Option.bind_some, e1, List.all_cons]
    by_cases hm : rightT p.2.2.1[i] = true
    · simp only [hm, Bool.not_true, cond_false, Bool.true_and]; exact this
    · have hm' : rightT p.2.2.1[i] = false := by simpa using hm
      simp [hm']
theorem refMayP_eq (fu : Nat) (hfu : 50 ≤ fu) (p : Pd) (hp : pdFit p) (hl : p.2.2.1.length ≤ 30) : ref10May fu p = some (mayP p, ()) := by
  unfold ref10May mayP
  have := refMay10_rounds fu (fun vq3 => some (vq3, ())) (fun b0q4 => cond (decide ((b0q4.2.2.1.length : Int) ≤ (4 : Int))) (cond b0q4.1 (some (!(b0q4.2.1 != (0 : Int)), ())) (some (true, ()))) (some (false, ()))) p hp (by omega) p.2.2.1.length fu 0 (by omega) (by omega)
  rw [List.drop_zero] at this
  refine Eq.trans this ?_
  have q : decide ((p.2.2.1.length : Int) ≤ 4) = decide (p.2.2.1.length ≤ 4) := by
    by_cases hs : p.2.2.1.length ≤ 4
    · rw [decide_eq_true hs, decide_eq_true (by omega)]
    · rw [decide_eq_false hs, decide_eq_false (by omega)]
  cases hm : p.2.2.1.all rightT with
  | true =>
    simp only [if_true, q, Bool.and_true, bne_dec']
    cases decide (p.2.2.1.length ≤ 4) <;> cases p.1 <;> cases decide (p.2.1 = 0) <;> rfl
  | false => simp
/-! ### Nodes, and their forests -/
abbrev No : Type := Int × Pd × Bool × Pd × Int × Int × Int × Unit
def siz (x : No) : Int := x.2.2.2.2.2.2.1
theorem ixN {l : List No} {i : Nat} (h : i < l.length) : ixL ((0 : Int), (false, (0 : Int), ([] : List Te), ()), false, (false, (0 : Int), ([] : List Te), ()), (0 : Int), (0 : Int), (0 : Int), ()) l i = l[i] := by
  unfold ixL
  simp [List.getElem?_eq_getElem h]
theorem ixT0 {l : List (Tr No)} {d : Tr No} {i : Nat} (h : i < l.length) : ixL d l i = l[i] := by
  unfold ixL
  simp [List.getElem?_eq_getElem h]
def chunks : List No → Option (List (List No))
  | [] => some []
  | x :: r => if 0 ≤ siz x ∧ siz x < (r.length : Int) + 1 then (chunks (r.drop (siz x).toNat)).map ((x :: r.take (siz x).toNat) :: ·) else none
termination_by l => l.length
decreasing_by simp; omega
def forest : List No → Option (List (Tr No))
  | [] => some []
  | x :: r => if 0 ≤ siz x ∧ siz x < (r.length : Int) + 1 then (forest (r.take (siz x).toNat)).bind fun s => (forest (r.drop (siz x).toNat)).map fun q => Tr.mk x s :: q else none
termination_by l => l.length
decreasing_by
  · simp; omega
  · simp; omega
theorem forest_nil : forest [] = some [] := by rw [forest]
theorem chunks_nil : chunks [] = some [] := by rw [chunks]
theorem forest_len : ∀ (n : Nat) (l : List No) (s : List (Tr No)), l.length ≤ n → forest l = some s → (s = [] ↔ l = []) ∧ s.length ≤ l.length := by
  intro n
  induction n with
  | zero =>
    intro l s hl h
    obtain rfl : l = [] := List.eq_nil_of_length_eq_zero (by omega)
    rw [forest_nil] at h
    cases h
    simp
  | succ n ih =>
    intro l s hl h
    cases l with
    | nil => rw [forest_nil] at h; cases h; simp
    | cons x r =>
      rw [forest] at h
      split at h
      · rename_i hx
        obtain ⟨s1, h1, h⟩ := Option.bind_eq_some_iff.1 h
        obtain ⟨q, h2, h⟩ := Option.map_eq_some_iff.1 h
        subst h
        have := ih _ _ (by simp at hl ⊢; omega) h2
        simp at this ⊢
        omega
      · cases h
/-! ### A tree's figures -/
def noneP (p : Pd) : Bool := !p.1 && (decide (p.2.1 = 0) && decide (p.2.2.1.length = 0))
def plainF (x : No) (k : Nat) (z : Bool) : Bool :=
  (x.2.2.1 || noneP x.2.2.2.1) &&
  (if x.1 = 1 then decide (x.2.2.2.2.1 = 0) && (decide (x.2.2.2.2.2.1 = 0) && (!x.2.2.1 && z))
   else noneP x.2.1 && (if x.1 = 2 then decide (x.2.2.2.2.1 = 0) && (decide (x.2.2.2.2.2.1 = 0) && decide (2 ≤ k))
    else if x.1 = 3 then decide (x.2.2.2.2.1 = 0) && (decide (x.2.2.2.2.2.1 = 0) && (decide (2 ≤ k) && !x.2.2.1))
    else if x.1 = 4 then decide (k = 1) && (decide (1 ≤ x.2.2.2.2.1) && (decide (x.2.2.2.2.1 ≤ x.2.2.2.2.2.1) && decide (x.2.2.2.2.2.1 ≤ 8)))
    else false))
mutual
def frm : Tr No → Bool
  | ⟨x, l⟩ => plainF x l.length (decide (l.length = 0)) && frmL l
def frmL : List (Tr No) → Bool
  | [] => true
  | t :: r => frm t && frmL r
end
mutual
def dep : Tr No → Int
  | ⟨_, l⟩ => depL l 0
def depL : List (Tr No) → Int → Int
  | [], a => a
  | t :: r, a => depL r (max2 a (IntKind.i64.wrap (dep t + 1)))
end
def fin2 (x : No) (n : Int) : Int := if x.1 = 4 then IntKind.i64.wrap (n * IntKind.i64.wrap x.2.2.2.2.2.1) else n
mutual
def plc : Tr No → Int
  | ⟨x, l⟩ => if l.length = 0 then 1 else fin2 x (plcL l 0)
def plcL : List (Tr No) → Int → Int
  | [], a => a
  | t :: r, a => plcL r (IntKind.i64.wrap (a + plc t))
end
mutual
def tsz : Tr No → Nat
  | ⟨_, l⟩ => 1 + tszL l
def tszL : List (Tr No) → Nat
  | [] => 0
  | t :: r => tsz t + tszL r
end
theorem forest_sz : ∀ (n : Nat) (l : List No) (s : List (Tr No)), l.length ≤ n → forest l = some s → tszL s = l.length := by
  intro n
  induction n with
  | zero =>
    intro l s hl h
    obtain rfl : l = [] := List.eq_nil_of_length_eq_zero (by omega)
    rw [forest_nil] at h
    cases h
    simp [tszL]
  | succ n ih =>
    intro l s hl h
    cases l with
    | nil => rw [forest_nil] at h; cases h; simp [tszL]
    | cons x r =>
      rw [forest] at h
      split at h
      · rename_i hx
        obtain ⟨s1, h1, h⟩ := Option.bind_eq_some_iff.1 h
        obtain ⟨q, h2, h⟩ := Option.map_eq_some_iff.1 h
        subst h
        have e1 := ih _ _ (by simp at hl ⊢; omega) h1
        have e2 := ih _ _ (by simp at hl ⊢; omega) h2
        simp [tszL, tsz, e1, e2]
        omega
      · cases h
theorem tsz_mem : ∀ {l : List (Tr No)} {t : Tr No}, t ∈ l → tsz t ≤ tszL l
  | _ :: r, t, h => by
    rcases List.mem_cons.1 h with rfl | h
    · simp [tszL]
    · have := tsz_mem h
      simp [tszL]; omega
theorem tsz_len : ∀ (l : List (Tr No)), l.length ≤ tszL l
  | [] => by simp
  | ⟨_, _⟩ :: r => by
    have := tsz_len r
    simp [tszL, tsz]; omega
/-! ### The program's parts -/
theorem apOk24 {xs ys : List (List No)} (h : xs.length + ys.length ≤ 100000) : apOk xs ys 24 = true := by
  have hL : (10000000 : Nat) ≤ LIM := by decide
  unfold apOk
  exact decide_eq_true (by omega)
def endC (k1 k2 : List (List No) → Option ((List (List No)) × Unit)) (out : List (List No)) : Option (List (List No)) → Option ((List (List No)) × Unit)
  | none => k1 []
  | some cs => k2 (out ++ cs)
theorem parts_rounds (fu : Nat) (k1 k2 : List (List No) → Option ((List (List No)) × Unit)) : ∀ (n : Nat) (rest : List No) (m : Nat) (out : List (List No)), rest.length ≤ n → n < m → out.length + n ≤ 1000 →
    treeParts.l5 fu k1 k2 m out rest = endC k1 k2 out (chunks rest) := by
  intro n
  induction n with
  | zero =>
    intro rest m out h1 h2 h3
    obtain ⟨m, rfl⟩ : ∃ j, m = j + 1 := ⟨m - 1, by omega⟩
    obtain rfl : rest = [] := List.eq_nil_of_length_eq_zero (by omega)
    rw [chunks_nil]
    unfold treeParts.l5 treeParts.b5 endC
    simp
  | succ n ih =>
    intro rest m out h1 h2 h3
    obtain ⟨m, rfl⟩ : ∃ j, m = j + 1 := ⟨m - 1, by omega⟩
    cases rest with
    | nil =>
      rw [chunks_nil]
      unfold treeParts.l5 treeParts.b5 endC
      simp
    | cons x r =>
      simp only [List.length_cons] at h1
      have i0 : ixOk (x :: r) (0 : Int) = true := ixOkN (i := 0) (by simp)
      have i1 : ixL ((0 : Int), (false, (0 : Int), ([] : List Te), ()), false, (false, (0 : Int), ([] : List Te), ()), (0 : Int), (0 : Int), (0 : Int), ()) (x :: r) (0 : Int) = x := ixN (i := 0) (by simp)
      rw [chunks]
      unfold treeParts.l5 treeParts.b5
      simp only [decide_eq_true (show (((x :: r).length : Nat) : Int) > 0 by rw [List.length_cons]; omega), cond_true, i0, i1, chk]
      rw [show x.2.2.2.2.2.2.1 = siz x from rfl]
      by_cases hx : 0 ≤ siz x ∧ siz x < (r.length : Int) + 1
      · rw [if_pos hx]
        obtain ⟨s, hs⟩ : ∃ s : Nat, siz x = s := ⟨(siz x).toNat, by omega⟩
        rw [hs] at hx ⊢
        have hsr : s ≤ r.length := by omega
        have e1 : IntKind.i64.wrap ((s : Int) + 1) = ((s + 1 : Nat) : Int) := by rw [wrap_i64 (by omega) (by omega)]; omega
        have c1 : cut3 (x :: r) (0 : Int) ((s + 1 : Nat) : Int) ((s + 1 : Nat) : Int) = true := by
          unfold cut3; simp; omega
        have c2 : cutOk (x :: r) ((s + 1 : Nat) : Int) (((x :: r).length : Nat) : Int) = true := by
          unfold cutOk; simp; omega
        have c3 : cutL (x :: r) (0 : Int) ((s + 1 : Nat) : Int) = x :: r.take s := by
          unfold cutL
          rw [show ((s + 1 : Nat) : Int) - 0 = ((s + 1 : Nat) : Int) by omega, Int.toNat_natCast]
          rfl
        have c4 : cutL (x :: r) ((s + 1 : Nat) : Int) (((x :: r).length : Nat) : Int) = r.drop s := by
          unfold cutL
          rw [Int.toNat_natCast, List.drop_succ_cons, List.take_of_length_le (by simp; omega)]
        have c5 : apOk out [x :: r.take s] 24 = true := apOk24 (by simp; omega)
        simp only [decide_eq_false (show ¬ (s : Int) < 0 by omega), decide_eq_false (show ¬ (s : Int) ≥ (((x :: r).length : Nat) : Int) by simp; omega), cond_false, cond_true, e1, c1, c2, c3, c4, c5, Int.toNat_natCast]
        rw [ih (r.drop s) m (out ++ [x :: r.take s]) (by simp; omega) (by omega) (by simp; omega)]
        cases chunks (r.drop s) with
        | none => rfl
        | some cs => simp [endC]
      · rw [if_neg hx]
        by_cases h0 : siz x < 0
        · simp only [decide_eq_true h0, cond_true]; rfl
        · simp only [decide_eq_false h0, cond_false, decide_eq_true (show siz x ≥ (((x :: r).length : Nat) : Int) by simp; omega), cond_true]; rfl
def partsL : List No → List (List No)
  | [] => []
  | x :: r => if siz x = (r.length : Int) then (chunks r).getD [] else []
theorem partsL_cons (x : No) (r : List No) : partsL (x :: r) = if siz x = (r.length : Int) then (chunks r).getD [] else [] := rfl
theorem len_zero (l : List No) : ((l.length : Int) == 0) = decide (l = []) := by
  cases l with
  | nil => rfl
  | cons x r =>
    rw [decide_eq_false (by simp)]
    exact ne_beq (by simp; omega)
theorem treeParts_eq (fu : Nat) (l : List No) (hl : l.length ≤ 900) (hfu : 1000 ≤ fu) : treeParts fu l = some (partsL l, ()) := by
  unfold treeParts
  simp only [len_zero]
  cases l with
  | nil => rfl
  | cons x r =>
    simp only [List.length_cons] at hl
    have i0 : ixOk (x :: r) (0 : Int) = true := ixOkN (i := 0) (by simp)
    have i1 : ixL ((0 : Int), (false, (0 : Int), ([] : List Te), ()), false, (false, (0 : Int), ([] : List Te), ()), (0 : Int), (0 : Int), (0 : Int), ()) (x :: r) (0 : Int) = x := ixN (i := 0) (by simp)
    have e1 : IntKind.i64.wrap ((((x :: r).length : Nat) : Int) - 1) = (r.length : Int) := by rw [List.length_cons, wrap_i64 (by omega) (by omega)]; omega
    have c1 : cutOk (x :: r) (1 : Int) (((x :: r).length : Nat) : Int) = true := by unfold cutOk; simp; omega
    have c2 : cutL (x :: r) (1 : Int) (((x :: r).length : Nat) : Int) = r := by
      unfold cutL
      rw [show (1 : Int).toNat = 1 from rfl, List.drop_succ_cons, List.drop_zero, List.take_of_length_le (by simp)]
    rw [decide_eq_false (by simp)]
    simp only [cond_false, i0, i1, e1, c1, c2, chk, cond_true, bne_dec']
    rw [show x.2.2.2.2.2.2.1 = siz x from rfl]
    unfold partsL
    by_cases hx : siz x = (r.length : Int)
    · simp only [decide_eq_true hx, Bool.not_true, cond_false, if_pos hx]
      rw [parts_rounds fu _ _ r.length r fu [] (by omega) (by omega) (by simp; omega)]
      cases chunks r <;> rfl
    · simp only [decide_eq_false hx, Bool.not_false, cond_true, if_neg hx]
theorem treeNone_eq (fu : Nat) (p : Pd) : treeNone fu p = some (noneP p, ()) := by
  unfold treeNone noneP
  have : ((p.2.2.1.length : Int) == 0) = decide (p.2.2.1.length = 0) := by
    rw [beq_dec]
    by_cases h : p.2.2.1.length = 0
    · rw [decide_eq_true h, decide_eq_true (by omega)]
    · rw [decide_eq_false h, decide_eq_false (by omega)]
  simp only [this, beq_dec]
  cases p.1 <;> cases decide (p.2.1 = 0) <;> rfl
theorem refNone_eq (fu : Nat) (p : Pd) : ref11None fu p = some (noneP p, ()) := treeNone_eq fu p
theorem treePlain_eq (fu : Nat) (x : No) (k : Nat) : treePlain fu x (k : Int) = some (plainF x k (decide (siz x = 0)), ()) := by
  have k1 : decide ((k : Int) ≥ 2) = decide (2 ≤ k) := by
    by_cases h : 2 ≤ k
    · rw [decide_eq_true h, decide_eq_true (by omega)]
    · rw [decide_eq_false h, decide_eq_false (by omega)]
  have k2 : ((k : Int) == 1) = decide (k = 1) := by
    rw [beq_dec]
    by_cases h : k = 1
    · rw [decide_eq_true h, decide_eq_true (by omega)]
    · rw [decide_eq_false h, decide_eq_false (by omega)]
  unfold treePlain treePlain.j2 treePlain.j4 plainF siz
  simp only [treeNone_eq, Option.bind_some, k1, k2, beq_dec, bne_dec', ge_iff_le]
  by_cases h1 : x.1 = 1
  · simp only [h1, decide_true, if_true, Bool.not_true, cond_false, cond_true]
    cases x.2.2.1 <;> cases noneP x.2.2.2.1 <;> cases decide (x.2.2.2.2.1 = 0) <;> cases decide (x.2.2.2.2.2.1 = 0) <;> cases decide (x.2.2.2.2.2.2.1 = 0) <;> rfl
  · simp only [if_neg h1, decide_eq_false h1, Bool.not_false, cond_true, cond_false]
    by_cases h2 : x.1 = 2
    · simp only [h2, decide_true, if_true, cond_true]
      cases x.2.2.1 <;> cases noneP x.2.2.2.1 <;> cases noneP x.2.1 <;> cases decide (x.2.2.2.2.1 = 0) <;> cases decide (x.2.2.2.2.2.1 = 0) <;> cases decide (2 ≤ k) <;> rfl
    · simp only [if_neg h2, decide_eq_false h2, cond_false]
      by_cases h3 : x.1 = 3
      · simp only [h3, decide_true, if_true, cond_true]
        cases x.2.2.1 <;> cases noneP x.2.2.2.1 <;> cases noneP x.2.1 <;> cases decide (x.2.2.2.2.1 = 0) <;> cases decide (x.2.2.2.2.2.1 = 0) <;> cases decide (2 ≤ k) <;> rfl
      · simp only [if_neg h3, decide_eq_false h3, cond_false]
        by_cases h4 : x.1 = 4
        · simp only [h4, decide_true, if_true, cond_true]
          cases x.2.2.1 <;> cases noneP x.2.2.2.1 <;> cases noneP x.2.1 <;> cases decide (x.2.2.2.2.1 = 0) <;> cases decide (x.2.2.2.2.2.1 = 0) <;> cases decide (k = 1) <;> cases decide (1 ≤ x.2.2.2.2.1) <;> cases decide (x.2.2.2.2.1 ≤ x.2.2.2.2.2.1) <;> cases decide (x.2.2.2.2.2.1 ≤ 8) <;> rfl
        · simp only [if_neg h4, decide_eq_false h4, cond_false]
          cases x.2.2.1 <;> cases noneP x.2.2.2.1 <;> cases noneP x.2.1 <;> cases decide (x.2.2.2.2.1 = 0) <;> cases decide (x.2.2.2.2.2.1 = 0) <;> rfl
/-! ### Whether a pattern is formed -/
def formF (l : List No) : Bool := match forest l with
  | some [t] => frm t
  | _ => false
theorem forest_one {x : No} {a : List No} (h : siz x = a.length) : forest (x :: a) = (forest a).map fun s => [Tr.mk x s] := by
  rw [forest, if_pos (by omega), h, Int.toNat_natCast, List.take_of_length_le (Nat.le_refl _), List.drop_eq_nil_of_le (Nat.le_refl _), forest_nil]
  cases forest a <;> rfl
def Spec (r : List No) : Option (List (List No)) → Prop
  | none => forest r = none
  | some cs => (∀ c ∈ cs, c.length ≤ r.length ∧ c ≠ []) ∧ match forest r with
    | some s => cs.map forest = s.map (fun t => some [t])
    | none => ∃ c ∈ cs, forest c = none
theorem chunks_spec : ∀ (n : Nat) (r : List No), r.length ≤ n → Spec r (chunks r) := by
  intro n
  induction n with
  | zero =>
    intro r h
    obtain rfl : r = [] := List.eq_nil_of_length_eq_zero (by omega)
    rw [chunks_nil]
    unfold Spec
    rw [forest_nil]
    exact ⟨fun c hc => (nomatch hc), rfl⟩
  | succ n ih =>
    intro r h
    cases r with
    | nil =>
      rw [chunks_nil]
      unfold Spec
      rw [forest_nil]
      exact ⟨fun c hc => (nomatch hc), rfl⟩
    | cons x r =>
      simp only [List.length_cons] at h
      rw [chunks]
      by_cases hx : 0 ≤ siz x ∧ siz x < (r.length : Int) + 1
      · rw [if_pos hx]
        have hf : forest (x :: r) = (forest (r.take (siz x).toNat)).bind fun s => (forest (r.drop (siz x).toNat)).map fun q => Tr.mk x s :: q := by rw [forest, if_pos hx]
        have h1 : forest (x :: r.take (siz x).toNat) = (forest (r.take (siz x).toNat)).map fun s => [Tr.mk x s] := forest_one (by rw [List.length_take]; omega)
        have := ih (r.drop (siz x).toNat) (by simp; omega)
        have hlb : (r.take (siz x).toNat).length ≤ r.length := by rw [List.length_take]; omega
        generalize r.take (siz x).toNat = a at hf h1 hlb
        have hla : (r.drop (siz x).toNat).length ≤ r.length := by simp
        generalize r.drop (siz x).toNat = b at hf this hla
        unfold Spec
        cases hb : chunks b with
        | none =>
          rw [hb] at this
          unfold Spec at this
          rw [this] at hf
          show forest (x :: r) = none
          rw [hf]
          cases forest a <;> rfl
        | some cs =>
          rw [hb] at this
          unfold Spec at this
          obtain ⟨g1, g2⟩ := this
          refine ⟨fun c hc => ?_, ?_⟩
          · rcases List.mem_cons.1 hc with rfl | hc
            · exact ⟨by simp; omega, by simp⟩
            · have := g1 c hc
              exact ⟨by simp; omega, this.2⟩
          · rw [hf]
            cases ha : forest a with
            | none => exact ⟨x :: a, List.mem_cons_self .., by rw [h1, ha]; rfl⟩
            | some s =>
              cases hfb : forest b with
              | none =>
                rw [hfb] at g2
                obtain ⟨c, hc, hn⟩ := g2
                exact ⟨c, List.mem_cons_of_mem _ hc, hn⟩
              | some q =>
                rw [hfb] at g2
                show forest (x :: a) :: cs.map forest = _
                rw [h1, ha, g2]; rfl
      · rw [if_neg hx]
        unfold Spec
        rw [forest, if_neg hx]
theorem frmL_all : ∀ (l : List (Tr No)), frmL l = l.all frm
  | [] => by rw [frmL]; rfl
  | t :: r => by rw [frmL, List.all_cons, frmL_all r]
theorem formF_parts (x : No) (r : List No) : formF (x :: r) = (plainF x (partsL (x :: r)).length (decide (siz x = 0)) && (decide (siz x = r.length) && (partsL (x :: r)).all formF)) := by
  by_cases hx : siz x = r.length
  · have h1 : forest (x :: r) = (forest r).map fun s => [Tr.mk x s] := forest_one hx
    have hs := chunks_spec r.length r (Nat.le_refl _)
    rw [partsL_cons, if_pos hx, decide_eq_true hx, Bool.true_and]
    rw [show formF (x :: r) = (match (forest r).map fun s => [Tr.mk x s] with
      | some [t] => frm t
      | _ => false) by unfold formF; rw [h1]]
    cases hc : chunks r with
    | none =>
      rw [hc] at hs
      unfold Spec at hs
      rw [hs]
      have hr : r ≠ [] := by
        intro e
        rw [e, chunks_nil] at hc
        cases hc
      have h0 : ¬ siz x = 0 := by
        have : 0 < r.length := List.length_pos_iff.2 hr
        omega
      show false = (plainF x 0 (decide (siz x = 0)) && _)
      rw [decide_eq_false h0]
      unfold plainF
      by_cases k1 : x.1 = 1
      · simp [k1]
      · by_cases k2 : x.1 = 2
        · simp [k2]
        · by_cases k3 : x.1 = 3
          · simp [k3]
          · by_cases k4 : x.1 = 4
            · simp [k4]
            · simp [k1, k2, k3, k4]
    | some cs =>
      rw [hc] at hs
      unfold Spec at hs
      obtain ⟨g1, g2⟩ := hs
      show _ = (plainF x cs.length (decide (siz x = 0)) && cs.all formF)
      cases hf : forest r with
      | none =>
        rw [hf] at g2
        obtain ⟨c, hc, hn⟩ := g2
        have : cs.all formF = false := by
          rw [List.all_eq_false]
          refine ⟨c, hc, ?_⟩
          unfold formF
          rw [hn]
          simp
        rw [this, Bool.and_false]
        rfl
      | some s =>
        rw [hf] at g2
        have hl : cs.length = s.length := by
          have := congrArg List.length g2
          simpa using this
        have ha : cs.all formF = s.all frm := by
          have : ∀ (cs : List (List No)) (s : List (Tr No)), cs.map forest = s.map (fun t => some [t]) → cs.all formF = s.all frm := by
            intro cs
            induction cs with
            | nil =>
              intro s h
              cases s with
              | nil => rfl
              | cons _ _ => cases h
            | cons c cs ih =>
              intro s h
              cases s with
              | nil => cases h
              | cons t s =>
                simp only [List.map_cons, List.cons.injEq] at h
                rw [List.all_cons, List.all_cons, ih s h.2]
                unfold formF
                rw [h.1]
          exact this cs s g2
        have hz : decide (siz x = 0) = decide (s.length = 0) := by
          have := forest_len r.length r s (Nat.le_refl _) hf
          by_cases h0 : r = []
          · have h9 := this.1.2 h0
            rw [hx, h9, h0]; rfl
          · have h1 : s ≠ [] := fun e => h0 (this.1.1 e)
            have p1 : 0 < r.length := List.length_pos_iff.2 h0
            have p2 : 0 < s.length := List.length_pos_iff.2 h1
            rw [decide_eq_false (by omega), decide_eq_false (by omega)]
        show frm (Tr.mk x s) = _
        rw [frm, frmL_all, ha, hl, hz]
  · rw [decide_eq_false hx, Bool.false_and, Bool.and_false]
    unfold formF
    rw [forest]
    by_cases hy : 0 ≤ siz x ∧ siz x < (r.length : Int) + 1
    · rw [if_pos hy]
      cases forest (r.take (siz x).toNat) with
      | none => rfl
      | some s =>
        cases hq : forest (r.drop (siz x).toNat) with
        | none => rfl
        | some q =>
          have := forest_len _ _ q (Nat.le_refl _) hq
          cases q with
          | nil =>
            have := this.1.1 rfl
            have : (r.drop (siz x).toNat).length = 0 := by rw [this]; rfl
            rw [List.length_drop] at this
            omega
          | cons t q => rfl
    · rw [if_neg hy]
theorem parts_small {x : No} {r : List No} {c : List No} (h : c ∈ partsL (x :: r)) : c.length ≤ r.length ∧ c ≠ [] := by
  rw [partsL_cons] at h
  split at h
  · have hs := chunks_spec r.length r (Nat.le_refl _)
    cases hc : chunks r with
    | none => rw [hc] at h; cases h
    | some cs =>
      rw [hc] at h hs
      exact hs.1 c h
  · cases h
theorem chunks_len : ∀ (n : Nat) (r : List No) (cs : List (List No)), r.length ≤ n → chunks r = some cs → cs.length ≤ r.length := by
  intro n
  induction n with
  | zero =>
    intro r cs h hc
    obtain rfl : r = [] := List.eq_nil_of_length_eq_zero (by omega)
    rw [chunks_nil] at hc
    cases hc; simp
  | succ n ih =>
    intro r cs h hc
    cases r with
    | nil => rw [chunks_nil] at hc; cases hc; simp
    | cons x r =>
      rw [chunks] at hc
      split at hc
      · obtain ⟨q, h2, rfl⟩ := Option.map_eq_some_iff.1 hc
        have := ih _ _ (by simp at h ⊢; omega) h2
        simp at this ⊢
        omega
      · cases hc
theorem partsL_len (l : List No) : (partsL l).length ≤ l.length := by
  cases l with
  | nil => simp [partsL]
  | cons x r =>
    rw [partsL_cons]
    split
    · cases hc : chunks r with
      | none => simp
      | some cs =>
        have := chunks_len r.length r cs (Nat.le_refl _) hc
        simp; omega
    · simp
theorem ixC {l : List (List No)} {i : Nat} (h : i < l.length) : ixL ([] : List No) l i = l[i] := by
  unfold ixL
  simp [List.getElem?_eq_getElem h]
theorem indexC_rounds (fu : Nat) (S : List No → Option (Bool × Unit)) (k1 : Int → Option ((Int × Unit) × (Unit))) (k2 : Unit → Option ((Int × Unit) × (Unit))) (l : List (List No)) (hv : ∀ c ∈ l, S c = some (formF c, ())) (hl : l.length ≤ 1000) : ∀ (k m i : Nat), i + k = l.length → k < m →
    ((l.drop i).all formF = true → slicesIndexFunc.l2 fu S k1 k2 m l l.length i = k2 ()) ∧ ((l.drop i).all formF = false → ∃ j : Nat, slicesIndexFunc.l2 fu S k1 k2 m l l.length i = k1 j) := by
  intro k
  induction k with
  | zero =>
    intro m i h1 h2
    obtain ⟨m, rfl⟩ : ∃ j, m = j + 1 := ⟨m - 1, by omega⟩
    rw [List.drop_eq_nil_of_le (by omega)]
    refine ⟨fun _ => ?_, fun h => absurd h (by decide)⟩
    unfold slicesIndexFunc.l2 slicesIndexFunc.b2
    rw [decide_eq_false (by omega), cond_false]
  | succ k ih =>
    intro m i h1 h2
    obtain ⟨m, rfl⟩ : ∃ j, m = j + 1 := ⟨m - 1, by omega⟩
    have hi : i < l.length := by omega
    have e1 : IntKind.i64.wrap ((i : Int) + 1) = ((i + 1 : Nat) : Int) := wrap_i64 (by omega) (by omega)
    have := ih m (i + 1) (by omega) (by omega)
    rw [drop_one hi]
    unfold slicesIndexFunc.l2 slicesIndexFunc.b2 treeFormed1
    rw [decide_eq_true (by omega), cond_true, ixOkN hi, ixC hi]
    simp only [hv _ (List.getElem_mem hi), chk, cond_true, Option.bind_some, e1, List.all_cons]
    cases hm : formF l[i] with
    | true => simpa using this
    | false => simp only [Bool.false_and, Bool.not_false, cond_true]; exact ⟨fun h => (nomatch h), fun _ => ⟨i, rfl⟩⟩
theorem containsC_eq (fu : Nat) (S : List No → Option (Bool × Unit)) (l : List (List No)) (hv : ∀ c ∈ l, S c = some (formF c, ())) (hl : l.length ≤ 1000) (hfu : l.length < fu) : slicesContainsFunc fu S l = some ((!(l.all formF), ()), ()) := by
  have := indexC_rounds fu S (fun vq3 => some ((vq3, ()), (()))) (fun _ => some (((-1 : Int), ()), (()))) l hv hl l.length fu 0 (by omega) (by omega)
  rw [List.drop_zero] at this
  unfold slicesContainsFunc slicesIndexFunc
  rw [show ((0 : Int)) = ((0 : Nat) : Int) from rfl]
  cases hm : l.all formF with
  | true => rw [this.1 hm]; rfl
  | false =>
    obtain ⟨j, hj⟩ := this.2 hm
    rw [hj]
    simp only [Option.bind_some, decide_eq_true (show (j : Int) ≥ ((0 : Nat) : Int) by omega), Bool.not_false]
theorem treeFormed_eq (fu : Nat) (hfu : 1000 ≤ fu) : ∀ (n : Nat) (l : List No) (m : Nat), l.length ≤ n → n ≤ 900 → n < m → treeFormed fu m l = some (formF l, ()) := by
  intro n
  induction n with
  | zero =>
    intro l m h1 h2 h3
    obtain ⟨m, rfl⟩ : ∃ j, m = j + 1 := ⟨m - 1, by omega⟩
    obtain rfl : l = [] := List.eq_nil_of_length_eq_zero (by omega)
    show treeFormed.bd fu (treeFormed fu m) [] = _
    unfold treeFormed.bd formF
    rw [treeParts_eq fu [] (by simp) hfu, forest_nil]
    rfl
  | succ n ih =>
    intro l m h1 h2 h3
    obtain ⟨m, rfl⟩ : ∃ j, m = j + 1 := ⟨m - 1, by omega⟩
    show treeFormed.bd fu (treeFormed fu m) l = _
    unfold treeFormed.bd
    rw [treeParts_eq fu l (by omega) hfu]
    simp only [Option.bind_some, len_zero]
    cases l with
    | nil => unfold formF; rw [forest_nil]; rfl
    | cons x r =>
      simp only [List.length_cons] at h1
      have i0 : ixOk (x :: r) (0 : Int) = true := ixOkN (i := 0) (by simp)
      have i1 : ixL ((0 : Int), (false, (0 : Int), ([] : List Te), ()), false, (false, (0 : Int), ([] : List Te), ()), (0 : Int), (0 : Int), (0 : Int), ()) (x :: r) (0 : Int) = x := ixN (i := 0) (by simp)
      have e1 : IntKind.i64.wrap ((((x :: r).length : Nat) : Int) - 1) = (r.length : Int) := by rw [List.length_cons, wrap_i64 (by omega) (by omega)]; omega
      have hpl := partsL_len (x :: r)
      simp only [List.length_cons] at hpl
      rw [decide_eq_false (by simp)]
      simp only [cond_false, i0, i1, e1, chk, cond_true, bne_dec', treePlain_eq, Option.bind_some]
      rw [show x.2.2.2.2.2.2.1 = siz x from rfl, containsC_eq fu (treeFormed fu m) (partsL (x :: r)) (fun c hc => by
        have := parts_small hc
        exact ih c m (by omega) (by omega) (by omega)) (by omega) (by omega), formF_parts]
      cases plainF x (partsL (x :: r)).length (decide (siz x = 0)) with
      | false => rfl
      | true =>
        simp only [Bool.not_true, cond_false, Bool.true_and, Option.bind_some]
        by_cases hx : siz x = r.length
        · rw [decide_eq_true hx]; simp
        · rw [decide_eq_false hx]; rfl
/-! ### Depth and places, of nodes -/
theorem tree_of {l : List No} {t : Tr No} (h : forest l = some [t]) : ∃ x r s cs, l = x :: r ∧ siz x = r.length ∧ t = Tr.mk x s ∧ forest r = some s ∧ partsL l = cs ∧ cs.map forest = s.map (fun t => some [t]) ∧ ∀ c ∈ cs, c.length ≤ r.length := by
  cases l with
  | nil => rw [forest_nil] at h; cases h
  | cons x r =>
    by_cases hx : siz x = r.length
    · have h1 := forest_one hx
      rw [h] at h1
      cases hf : forest r with
      | none => rw [hf] at h1; cases h1
      | some s =>
        rw [hf] at h1
        simp only [Option.map_some, Option.some.injEq, List.cons.injEq, and_true] at h1
        have hs := chunks_spec r.length r (Nat.le_refl _)
        cases hc : chunks r with
        | none => rw [hc] at hs; unfold Spec at hs; rw [hf] at hs; cases hs
        | some cs =>
          rw [hc] at hs
          unfold Spec at hs
          rw [hf] at hs
          exact ⟨x, r, s, cs, rfl, hx, h1, hf, by rw [partsL_cons, if_pos hx, hc]; rfl, hs.2, fun c hc => (hs.1 c hc).1⟩
    · have := formF_parts x r
      exfalso
      rw [forest] at h
      split at h
      · obtain ⟨s, h1, h⟩ := Option.bind_eq_some_iff.1 h
        obtain ⟨q, h2, h⟩ := Option.map_eq_some_iff.1 h
        have := forest_len _ _ q (Nat.le_refl _) h2
        simp only [List.cons.injEq] at h
        have h3 := this.1.1 h.2
        have : (r.drop (siz x).toNat).length = 0 := by rw [h3]; rfl
        rw [List.length_drop] at this
        omega
      · cases h
theorem map_get {cs : List (List No)} {s : List (Tr No)} (h : cs.map forest = s.map (fun t => some [t])) : cs.length = s.length ∧ ∀ i (h1 : i < cs.length) (h2 : i < s.length), forest cs[i] = some [s[i]] := by
  have hl : cs.length = s.length := by simpa using congrArg List.length h
  refine ⟨hl, fun i h1 h2 => ?_⟩
  have : (cs.map forest)[i]? = (s.map (fun t => some [t]))[i]? := by rw [h]
  simpa [List.getElem?_eq_getElem h1, List.getElem?_eq_getElem h2] using this
theorem deep_rounds (fu : Nat) (S : List No → Option (Int × Unit)) (k2 : Int → Option (Int × Unit)) (cs : List (List No)) (s : List (Tr No)) (hl : cs.length = s.length) (hm : cs.length ≤ 1000) (hv : ∀ i (h1 : i < cs.length) (h2 : i < s.length), S cs[i] = some (dep s[i], ())) : ∀ (k m i : Nat) (n : Int), i + k = cs.length → k < m →
    treeDeep.l3 fu S k2 m n cs cs.length i = k2 (depL (s.drop i) n) := by
  intro k
  induction k with
  | zero =>
    intro m i n h1 h2
    obtain ⟨m, rfl⟩ : ∃ j, m = j + 1 := ⟨m - 1, by omega⟩
    rw [List.drop_eq_nil_of_le (by omega)]
    unfold treeDeep.l3 treeDeep.b3
    rw [decide_eq_false (by omega), cond_false, depL]
  | succ k ih =>
    intro m i n h1 h2
    obtain ⟨m, rfl⟩ : ∃ j, m = j + 1 := ⟨m - 1, by omega⟩
    have hi : i < cs.length := by omega
    have hi' : i < s.length := by omega
    have e1 : IntKind.i64.wrap ((i : Int) + 1) = ((i + 1 : Nat) : Int) := wrap_i64 (by omega) (by omega)
    rw [drop_one hi', depL]
    unfold treeDeep.l3 treeDeep.b3
    rw [decide_eq_true (by omega), cond_true, ixOkN hi, ixC hi]
    simp only [hv i hi hi', chk, cond_true, Option.bind_some, e1]
    exact ih m (i + 1) _ (by omega) (by omega)
theorem treeDeep_eq (fu : Nat) (hfu : 1000 ≤ fu) : ∀ (n : Nat) (l : List No) (t : Tr No) (m : Nat), l.length ≤ n → n ≤ 900 → n < m → forest l = some [t] → treeDeep fu m l = some (dep t, ()) := by
  intro n
  induction n with
  | zero =>
    intro l t m h1 h2 h3 h
    obtain rfl : l = [] := List.eq_nil_of_length_eq_zero (by omega)
    rw [forest_nil] at h
    cases h
  | succ n ih =>
    intro l t m h1 h2 h3 h
    obtain ⟨m, rfl⟩ : ∃ j, m = j + 1 := ⟨m - 1, by omega⟩
    obtain ⟨x, r, s, cs, rfl, hx, rfl, hf, hp, hmap, hc⟩ := tree_of h
    obtain ⟨hl, hg⟩ := map_get hmap
    have hpl := partsL_len (x :: r)
    rw [hp] at hpl
    simp only [List.length_cons] at h1 hpl
    show treeDeep.bd fu (treeDeep fu m) (x :: r) = _
    unfold treeDeep.bd
    rw [treeParts_eq fu _ (by simp; omega) hfu, hp]
    simp only [Option.bind_some]
    rw [show ((0 : Int)) = ((0 : Nat) : Int) from rfl, deep_rounds fu (treeDeep fu m) _ cs s hl (by omega) (fun i h1 h2 => ih _ _ m (by have := hc _ (List.getElem_mem h1); omega) (by omega) (by omega) (hg i h1 h2)) cs.length fu 0 _ (by omega) (by omega), List.drop_zero, dep]
    rfl
theorem places_rounds (fu : Nat) (S : List No → Option (Int × Unit)) (k2 : List No → Int → Option (Int × Unit)) (l : List No) (cs : List (List No)) (s : List (Tr No)) (hl : cs.length = s.length) (hm : cs.length ≤ 1000) (hv : ∀ i (h1 : i < cs.length) (h2 : i < s.length), S cs[i] = some (plc s[i], ())) : ∀ (k m i : Nat) (n : Int), i + k = cs.length → k < m →
    treePlaces.l5 fu S k2 m l n cs cs.length i = k2 l (plcL (s.drop i) n) := by
  intro k
  induction k with
  | zero =>
    intro m i n h1 h2
    obtain ⟨m, rfl⟩ : ∃ j, m = j + 1 := ⟨m - 1, by omega⟩
    rw [List.drop_eq_nil_of_le (by omega)]
    unfold treePlaces.l5 treePlaces.b5
    rw [decide_eq_false (by omega), cond_false, plcL]
  | succ k ih =>
    intro m i n h1 h2
    obtain ⟨m, rfl⟩ : ∃ j, m = j + 1 := ⟨m - 1, by omega⟩
    have hi : i < cs.length := by omega
    have hi' : i < s.length := by omega
    have e1 : IntKind.i64.wrap ((i : Int) + 1) = ((i + 1 : Nat) : Int) := wrap_i64 (by omega) (by omega)
    rw [drop_one hi', plcL]
    unfold treePlaces.l5 treePlaces.b5
    rw [decide_eq_true (by omega), cond_true, ixOkN hi, ixC hi]
    simp only [hv i hi hi', chk, cond_true, Option.bind_some, e1]
    exact ih m (i + 1) _ (by omega) (by omega)
theorem frm_kind {x : No} {s : List (Tr No)} (h : frm (Tr.mk x s) = true) : x.1 = 1 ↔ s.length = 0 := by
  rw [frm, Bool.and_eq_true] at h
  have h := h.1
  unfold plainF at h
  rw [Bool.and_eq_true] at h
  have h := h.2
  by_cases k1 : x.1 = 1
  · rw [if_pos k1] at h
    simp only [Bool.and_eq_true, decide_eq_true_eq] at h
    exact ⟨fun _ => h.2.2.2, fun _ => k1⟩
  · rw [if_neg k1, Bool.and_eq_true] at h
    have h := h.2
    refine ⟨fun q => absurd q k1, fun q => ?_⟩
    rw [q] at h
    exfalso
    split at h
    · simp at h
    · split at h
      · simp at h
      · split at h
        · simp at h
        · cases h
theorem frm_sub {x : No} {s : List (Tr No)} (h : frm (Tr.mk x s) = true) : ∀ t ∈ s, frm t = true := by
  rw [frm, Bool.and_eq_true, frmL_all] at h
  exact List.all_eq_true.1 h.2
theorem treePlaces_eq (fu : Nat) (hfu : 1000 ≤ fu) : ∀ (n : Nat) (l : List No) (t : Tr No) (m : Nat), l.length ≤ n → n ≤ 900 → n < m → forest l = some [t] → frm t = true → treePlaces fu m l = some (plc t, ()) := by
  intro n
  induction n with
  | zero =>
    intro l t m h1 h2 h3 h
    obtain rfl : l = [] := List.eq_nil_of_length_eq_zero (by omega)
    rw [forest_nil] at h
    cases h
  | succ n ih =>
    intro l t m h1 h2 h3 h hfr
    obtain ⟨m, rfl⟩ : ∃ j, m = j + 1 := ⟨m - 1, by omega⟩
    obtain ⟨x, r, s, cs, rfl, hx, rfl, hf, hp, hmap, hc⟩ := tree_of h
    obtain ⟨hl, hg⟩ := map_get hmap
    have hpl := partsL_len (x :: r)
    rw [hp] at hpl
    simp only [List.length_cons] at h1 hpl
    have i0 : ixOk (x :: r) (0 : Int) = true := ixOkN (i := 0) (by simp)
    have i1 : ixL ((0 : Int), (false, (0 : Int), ([] : List Te), ()), false, (false, (0 : Int), ([] : List Te), ()), (0 : Int), (0 : Int), (0 : Int), ()) (x :: r) (0 : Int) = x := ixN (i := 0) (by simp)
    have hk := frm_kind hfr
    show treePlaces.bd fu (treePlaces fu m) (x :: r) = _
    unfold treePlaces.bd
    rw [treeParts_eq fu _ (by simp; omega) hfu, hp]
    simp only [i0, i1, chk, cond_true, Option.bind_some, beq_dec]
    rw [plc]
    by_cases k1 : x.1 = 1
    · rw [decide_eq_true k1, if_pos (hk.1 k1)]; rfl
    · rw [decide_eq_false k1, if_neg (fun q => k1 (hk.2 q)), cond_false]
      have key := places_rounds fu (treePlaces fu m) (fun lq2 nq2 => 
        chk (ixOk lq2 (0 : Int)) <|
        let e3 := ixL ((0 : Int), (false, (0 : Int), ([] : List Te), ()), false, (false, (0 : Int), ([] : List Te), ()), (0 : Int), (0 : Int), (0 : Int), ()) lq2 (0 : Int)
        cond (decide (e3.1 = (4 : Int))) (
          chk (ixOk lq2 (0 : Int)) <|
          let e4 := ixL ((0 : Int), (false, (0 : Int), ([] : List Te), ()), false, (false, (0 : Int), ([] : List Te), ()), (0 : Int), (0 : Int), (0 : Int), ()) lq2 (0 : Int)
          let t5 := IntKind.i64.wrap e4.2.2.2.2.2.1
          let t6 := IntKind.i64.wrap (nq2 * t5)
          some (t6, ())) (
          some (nq2, ()))) (x :: r) cs s hl (by omega) (fun i h1 h2 => ih _ _ m (by have := hc _ (List.getElem_mem h1); omega) (by omega) (by omega) (hg i h1 h2) (frm_sub hfr _ (List.getElem_mem h2))) cs.length fu 0 0 (by omega) (by omega)
      rw [List.drop_zero] at key
      refine Eq.trans key ?_
      simp only [i0, i1, chk, cond_true]
      unfold fin2
      by_cases k4 : x.1 = 4
      · rw [decide_eq_true k4, if_pos k4]; rfl
      · rw [decide_eq_false k4, if_neg k4]; rfl
/-! ### The document's trees -/
theorem tr_eta (t : Tr No) : Tr.mk t.val t.sub = t := by cases t; rfl
theorem refDepth_rounds (fu : Nat) (S : Tr No → Option (Int × Unit)) (k2 : Int → Option (Int × Unit)) (s : List (Tr No)) (hm : s.length ≤ 1000) (hv : ∀ t ∈ s, S t = some (dep t, ())) (c0 : Int) (c1 : Bool) (c2 : Int) (c3 : List Te) (c4 : Bool) (c5 : Bool) (c6 : Int) (c7 : List Te) (c8 c9 c10 : Int) : ∀ (k m i : Nat) (n : Int), i + k = s.length → k < m →
    ref11TDepth.l3 fu S k2 m n s.length i c0 c1 c2 c3 c4 c5 c6 c7 c8 c9 c10 s = k2 (depL (s.drop i) n) := by
  intro k
  induction k with
  | zero =>
    intro m i n h1 h2
    obtain ⟨m, rfl⟩ : ∃ j, m = j + 1 := ⟨m - 1, by omega⟩
    rw [List.drop_eq_nil_of_le (by omega)]
    unfold ref11TDepth.l3 ref11TDepth.b3
    rw [decide_eq_false (by omega), cond_false, depL]
  | succ k ih =>
    intro m i n h1 h2
    obtain ⟨m, rfl⟩ : ∃ j, m = j + 1 := ⟨m - 1, by omega⟩
    have hi : i < s.length := by omega
    have e1 : IntKind.i64.wrap ((i : Int) + 1) = ((i + 1 : Nat) : Int) := wrap_i64 (by omega) (by omega)
    rw [drop_one hi, depL]
    unfold ref11TDepth.l3 ref11TDepth.b3
    rw [decide_eq_true (by omega), cond_true, ixOkN hi, ixT0 hi]
    simp only [hv _ (List.getElem_mem hi), chk, cond_true, Option.bind_some, e1]
    rw [Int.add_comm 1]
    exact ih m (i + 1) _ (by omega) (by omega)
theorem refDepth_eq (fu : Nat) (hfu : 1000 ≤ fu) : ∀ (n : Nat) (t : Tr No) (m : Nat), tsz t ≤ n → n ≤ 900 → n < m → ref11TDepth fu m t = some (dep t, ()) := by
  intro n
  induction n with
  | zero => intro t m h1; cases t; rw [tsz] at h1; omega
  | succ n ih =>
    intro t m h1 h2 h3
    obtain ⟨m, rfl⟩ : ∃ j, m = j + 1 := ⟨m - 1, by omega⟩
    obtain ⟨x, s⟩ := t
    rw [tsz] at h1
    have hsl := tsz_len s
    show ref11TDepth.bd fu (ref11TDepth fu m) (Tr.mk x s) = _
    unfold ref11TDepth.bd
    simp only [Tr.val, Tr.sub]
    rw [show ((0 : Int)) = ((0 : Nat) : Int) from rfl, refDepth_rounds fu (ref11TDepth fu m) _ s (by omega) (fun t ht => ih t m (by have := tsz_mem ht; omega) (by omega) (by omega)) x.1 x.2.1.1 x.2.1.2.1 x.2.1.2.2.1 x.2.2.1 x.2.2.2.1.1 x.2.2.2.1.2.1 x.2.2.2.1.2.2.1 x.2.2.2.2.1 x.2.2.2.2.2.1 x.2.2.2.2.2.2.1 s.length fu 0 _ (by omega) (by omega), List.drop_zero, dep]
    rfl
theorem refPlaces_rounds (fu : Nat) (S : Tr No → Option (Int × Unit)) k2 (s : List (Tr No)) (hm : s.length ≤ 1000) (hv : ∀ t ∈ s, S t = some (plc t, ())) (c0 : Int) (c1 : Bool) (c2 : Int) (c3 : List Te) (c4 : Bool) (c5 : Bool) (c6 : Int) (c7 : List Te) (c8 c9 c10 : Int) : ∀ (k m i : Nat) (n : Int), i + k = s.length → k < m →
    ref11TPlaces.l5 fu S k2 m n s.length i c0 c1 c2 c3 c4 c5 c6 c7 c8 c9 c10 s = k2 (plcL (s.drop i) n) c0 c1 c2 c3 c4 c5 c6 c7 c8 c9 c10 s := by
  intro k
  induction k with
  | zero =>
    intro m i n h1 h2
    obtain ⟨m, rfl⟩ : ∃ j, m = j + 1 := ⟨m - 1, by omega⟩
    rw [List.drop_eq_nil_of_le (by omega)]
    unfold ref11TPlaces.l5 ref11TPlaces.b5
    rw [decide_eq_false (by omega), cond_false, plcL]
  | succ k ih =>
    intro m i n h1 h2
    obtain ⟨m, rfl⟩ : ∃ j, m = j + 1 := ⟨m - 1, by omega⟩
    have hi : i < s.length := by omega
    have e1 : IntKind.i64.wrap ((i : Int) + 1) = ((i + 1 : Nat) : Int) := wrap_i64 (by omega) (by omega)
    rw [drop_one hi, plcL]
    unfold ref11TPlaces.l5 ref11TPlaces.b5
    rw [decide_eq_true (by omega), cond_true, ixOkN hi, ixT0 hi]
    simp only [hv _ (List.getElem_mem hi), chk, cond_true, Option.bind_some, e1]
    exact ih m (i + 1) _ (by omega) (by omega)
theorem refPlaces_eq (fu : Nat) (hfu : 1000 ≤ fu) : ∀ (n : Nat) (t : Tr No) (m : Nat), tsz t ≤ n → n ≤ 900 → n < m → ref11TPlaces fu m t = some (plc t, ()) := by
  intro n
  induction n with
  | zero => intro t m h1; cases t; rw [tsz] at h1; omega
  | succ n ih =>
    intro t m h1 h2 h3
    obtain ⟨m, rfl⟩ : ∃ j, m = j + 1 := ⟨m - 1, by omega⟩
    obtain ⟨x, s⟩ := t
    rw [tsz] at h1
    have hsl := tsz_len s
    show ref11TPlaces.bd fu (ref11TPlaces fu m) (Tr.mk x s) = _
    unfold ref11TPlaces.bd
    have q : ((s.length : Int) == 0) = decide (s.length = 0) := by
      rw [beq_dec]
      by_cases h : s.length = 0
      · rw [decide_eq_true h, decide_eq_true (by omega)]
      · rw [decide_eq_false h, decide_eq_false (by omega)]
    simp only [Tr.val, Tr.sub, q]
    rw [plc]
    by_cases h0 : s.length = 0
    · rw [decide_eq_true h0, if_pos h0]; rfl
    · rw [decide_eq_false h0, if_neg h0, cond_false]
      rw [show ((0 : Int)) = ((0 : Nat) : Int) from rfl, refPlaces_rounds fu (ref11TPlaces fu m) _ s (by omega) (fun t ht => ih t m (by have := tsz_mem ht; omega) (by omega) (by omega)) x.1 x.2.1.1 x.2.1.2.1 x.2.1.2.2.1 x.2.2.1 x.2.2.2.1.1 x.2.2.2.1.2.1 x.2.2.2.1.2.2.1 x.2.2.2.2.1 x.2.2.2.2.2.1 x.2.2.2.2.2.2.1 s.length fu 0 _ (by omega) (by omega), List.drop_zero]
      unfold fin2
      simp only [beq_dec]
      by_cases k4 : x.1 = 4
      · rw [decide_eq_true k4, if_pos k4]; rfl
      · rw [decide_eq_false k4, if_neg k4]; rfl
theorem refFormed_rounds (fu : Nat) (S : Tr No → Option (Bool × Unit)) (k3 : Bool → Option (Bool × Unit)) (s : List (Tr No)) (hm : s.length ≤ 1000) (hv : ∀ t ∈ s, S t = some (frm t, ())) (c0 : Int) (c1 : Bool) (c2 : Int) (c3 : List Te) (c4 : Bool) (c5 : Bool) (c6 : Int) (c7 : List Te) (c8 c9 c10 : Int) : ∀ (k m i : Nat) (ok : Bool), i + k = s.length → k < m →
    ref11TFormed.l16 fu S k3 m ok s.length i c0 c1 c2 c3 c4 c5 c6 c7 c8 c9 c10 s = k3 (ok && frmL (s.drop i)) := by
  intro k
  induction k with
  | zero =>
    intro m i ok h1 h2
    obtain ⟨m, rfl⟩ : ∃ j, m = j + 1 := ⟨m - 1, by omega⟩
    rw [List.drop_eq_nil_of_le (by omega)]
    unfold ref11TFormed.l16 ref11TFormed.b16
    rw [decide_eq_false (by omega), cond_false, frmL, Bool.and_true]
  | succ k ih =>
    intro m i ok h1 h2
    obtain ⟨m, rfl⟩ : ∃ j, m = j + 1 := ⟨m - 1, by omega⟩
    have hi : i < s.length := by omega
    have e1 : IntKind.i64.wrap ((i : Int) + 1) = ((i + 1 : Nat) : Int) := wrap_i64 (by omega) (by omega)
    rw [drop_one hi, frmL]
    unfold ref11TFormed.l16 ref11TFormed.b16
    rw [decide_eq_true (by omega), cond_true, ixOkN hi, ixT0 hi]
    simp only [hv _ (List.getElem_mem hi), chk, cond_true, Option.bind_some, e1]
    cases ok with
    | true => rw [cond_true, ih m (i + 1) _ (by omega) (by omega), Bool.true_and]
    | false => rw [cond_false, ih m (i + 1) _ (by omega) (by omega), Bool.false_and, Bool.false_and]
theorem refFormed_eq (fu : Nat) (hfu : 1000 ≤ fu) : ∀ (n : Nat) (t : Tr No) (m : Nat), tsz t ≤ n → n ≤ 900 → n < m → ref11TFormed fu m t = some (frm t, ()) := by
  intro n
  induction n with
  | zero => intro t m h1; cases t; rw [tsz] at h1; omega
  | succ n ih =>
    intro t m h1 h2 h3
    obtain ⟨m, rfl⟩ : ∃ j, m = j + 1 := ⟨m - 1, by omega⟩
    have ht1 : tsz t = 1 + tszL t.sub := by cases t; rw [tsz]; rfl
    have ht2 : frm t = (plainF t.val t.sub.length (decide (t.sub.length = 0)) && frmL t.sub) := by cases t; rw [frm]; rfl
    rw [ht1] at h1
    rw [ht2]
    show ref11TFormed.bd fu (ref11TFormed fu m) t = _
    unfold ref11TFormed.bd
    generalize t.val = x, t.sub = s at h1
    have hsl := tsz_len s
    have key : ∀ (k1 : Bool → Option (Bool × Unit)) (ok : Bool), ref11TFormed.j13 fu (ref11TFormed fu m) k1 ok x.1 x.2.1.1 x.2.1.2.1 x.2.1.2.2.1 x.2.2.1 x.2.2.2.1.1 x.2.2.2.1.2.1 x.2.2.2.1.2.2.1 x.2.2.2.2.1 x.2.2.2.2.2.1 x.2.2.2.2.2.2.1 s x = k1 ((ok && (x.2.2.1 || noneP x.2.2.2.1)) && frmL s) := by
      intro k1 ok
      unfold ref11TFormed.j13 ref11TFormed.j15
      have := fun ok => refFormed_rounds fu (ref11TFormed fu m) k1 s (by omega) (fun t ht => ih t m (by have := tsz_mem ht; omega) (by omega) (by omega)) x.1 x.2.1.1 x.2.1.2.1 x.2.1.2.2.1 x.2.2.1 x.2.2.2.1.1 x.2.2.2.1.2.1 x.2.2.2.1.2.2.1 x.2.2.2.2.1 x.2.2.2.2.2.1 x.2.2.2.2.2.2.1 s.length fu 0 ok (by omega) (by omega)
      rw [List.drop_zero] at this
      rw [show ((0 : Nat) : Int) = 0 from rfl] at this
      simp only [refNone_eq, Option.bind_some]
      cases hg : x.2.2.1 with
      | true =>
        rw [hg] at this
        simp only [Bool.not_true, cond_false, Bool.true_or, Bool.and_true]
        exact this ok
      | false =>
        rw [hg] at this
        cases noneP x.2.2.2.1 with
        | true => simp only [Bool.not_false, cond_true, Bool.not_true, cond_false, Bool.false_or, Bool.and_true]; exact this ok
        | false => simp only [Bool.not_false, cond_true, Bool.false_or, Bool.and_false]; exact this false
    have q0 : ((s.length : Int) == 0) = decide (s.length = 0) := by
      rw [beq_dec]
      by_cases h : s.length = 0
      · rw [decide_eq_true h, decide_eq_true (by omega)]
      · rw [decide_eq_false h, decide_eq_false (by omega)]
    have q1 : ((s.length : Int) == 1) = decide (s.length = 1) := by
      rw [beq_dec]
      by_cases h : s.length = 1
      · rw [decide_eq_true h, decide_eq_true (by omega)]
      · rw [decide_eq_false h, decide_eq_false (by omega)]
    have q2 : decide ((s.length : Int) > 1) = decide (2 ≤ s.length) := by
      by_cases h : 2 ≤ s.length
      · rw [decide_eq_true h, decide_eq_true (by omega)]
      · rw [decide_eq_false h, decide_eq_false (by omega)]
    have q3 : decide (x.2.2.2.2.1 > 0) = decide (1 ≤ x.2.2.2.2.1) := rfl
    have q4 : decide (x.2.2.2.2.2.1 < 9) = decide (x.2.2.2.2.2.1 ≤ 8) := by
      by_cases h : x.2.2.2.2.2.1 ≤ 8
      · rw [decide_eq_true h, decide_eq_true (by omega)]
      · rw [decide_eq_false h, decide_eq_false (by omega)]
    simp only [key, refNone_eq, Option.bind_some]
    simp only [q0, q1, q2, q3, q4, ge_iff_le, beq_dec]
    unfold plainF
    generalize (x.2.2.1 || noneP x.2.2.2.1) = g
    generalize frmL s = f
    by_cases h1 : x.1 = 1
    · simp only [h1, decide_true, if_true, cond_true]
      cases g <;> cases f <;> cases x.2.2.1 <;> cases decide (s.length = 0) <;> cases decide (x.2.2.2.2.1 = 0) <;> cases decide (x.2.2.2.2.2.1 = 0) <;> rfl
    · simp only [if_neg h1, decide_eq_false h1, cond_false]
      by_cases h2 : x.1 = 2
      · simp only [h2, decide_true, if_true, cond_true]
        cases g <;> cases f <;> cases noneP x.2.1 <;> cases decide (2 ≤ s.length) <;> cases decide (x.2.2.2.2.1 = 0) <;> cases decide (x.2.2.2.2.2.1 = 0) <;> rfl
      · simp only [if_neg h2, decide_eq_false h2, cond_false]
        by_cases h3 : x.1 = 3
        · simp only [h3, decide_true, if_true, cond_true]
          cases g <;> cases f <;> cases x.2.2.1 <;> cases noneP x.2.1 <;> cases decide (2 ≤ s.length) <;> cases decide (x.2.2.2.2.1 = 0) <;> cases decide (x.2.2.2.2.2.1 = 0) <;> rfl
        · simp only [if_neg h3, decide_eq_false h3, cond_false]
          by_cases h4 : x.1 = 4
          · simp only [h4, decide_true, if_true, cond_true]
            cases g <;> cases f <;> cases noneP x.2.1 <;> cases decide (s.length = 1) <;> cases decide (1 ≤ x.2.2.2.2.1) <;> cases decide (x.2.2.2.2.1 ≤ x.2.2.2.2.2.1) <;> cases decide (x.2.2.2.2.2.1 ≤ 8) <;> rfl
          · simp only [if_neg h4, decide_eq_false h4, cond_false, Bool.false_and, Bool.and_false]
/-! ### A tree built -/
def noTr : Tr No := Tr.mk ((0 : Int), (false, (0 : Int), [], ()), false, (false, (0 : Int), [], ()), (0 : Int), (0 : Int), (0 : Int), ()) []
def bt (x : No) (r : List No) (at' : Int) : Tr No × Int × Bool × Unit :=
  if 0 ≤ siz x ∧ siz x < (r.length : Int) + 1 then (match forest (r.take (siz x).toNat) with
    | some s => (Tr.mk x s, at' + 1 + siz x, true, ())
    | none => (noTr, 0, false, ())) else (noTr, 0, false, ())
def endT (k1 : Int → Bool → Int → Bool → Int → List Te → Bool → Bool → Int → List Te → Int → Int → Int → List (Tr No) → Option ((Tr No) × Int × Bool × Unit)) (k : List (Tr No) → Option ((Tr No) × Int × Bool × Unit)) : Option (List (Tr No)) → Option ((Tr No) × Int × Bool × Unit)
  | none => k1 0 false 0 false 0 [] false false 0 [] 0 0 0 []
  | some s => k s
theorem apOk120 {xs ys : List (Tr No)} (h : xs.length + ys.length ≤ 100000) : apOk xs ys 120 = true := by
  have hL : (100000000 : Nat) ≤ LIM := by decide
  unfold apOk
  exact decide_eq_true (by omega)
theorem build_rounds (fu : Nat) (S : List No → Int → Int → Option ((Tr No) × Int × Bool × Unit)) k1 k2 (l b : List No) (at' n B : Int) (hB : at' + 1 + n = B) (h0 : 0 ≤ at' ∧ at' ≤ 10000 ∧ 0 ≤ n ∧ n ≤ 10000) (c0 : Int) (c1 : Bool) (c2 : Int) (c3 : List Te) (c4 : Bool) (c5 : Bool) (c6 : Int) (c7 : List Te) (c8 c9 c10 : Int) (d0 : Int) (d1 : Bool) (d2 : Int) (d3 : List Te) (d4 : Bool) (d5 : Bool) (d6 : Int) (d7 : List Te) (d8 d9 d10 : Int) (c11 : List (Tr No)) : ∀ (N : Nat) (a q : List No) (m : Nat) (done : List (Tr No)), q.length ≤ N → N < m → l = a ++ q ++ b → (a.length : Int) + q.length = B → done.length + N ≤ 10000 →
    (∀ (a' : List No) (x : No) (r : List No), l = a' ++ x :: r ++ b → (a'.length : Int) + 1 + r.length = B → r.length < q.length → S l a'.length B = some (bt x r a'.length)) →
    ref11Build.l8 fu S k1 k2 m l at' n a.length c0 c1 c2 c3 c4 c5 c6 c7 c8 c9 c10 c11 d0 d1 d2 d3 d4 d5 d6 d7 d8 d9 d10 done = endT k1 (fun s => k2 B c0 c1 c2 c3 c4 c5 c6 c7 c8 c9 c10 c11 d0 d1 d2 d3 d4 d5 d6 d7 d8 d9 d10 (done ++ s)) (forest q) := by
  have e0 : IntKind.i64.wrap (at' + 1) = at' + 1 := wrap_i64 (by omega) (by omega)
  have e1 : IntKind.i64.wrap (at' + 1 + n) = B := by rw [wrap_i64 (by omega) (by omega)]; exact hB
  intro N
  induction N with
  | zero =>
    intro a q m done h1 h2 h3 h4 h5 hS
    obtain ⟨m, rfl⟩ : ∃ j, m = j + 1 := ⟨m - 1, by omega⟩
    obtain rfl : q = [] := List.eq_nil_of_length_eq_zero (by omega)
    simp only [List.length_nil] at h4
    rw [forest_nil]
    unfold ref11Build.l8 ref11Build.b8 endT
    simp only [e0, e1, decide_eq_false (show ¬ (a.length : Int) < B by omega), cond_false, List.append_nil]
    rw [show (a.length : Int) = B by omega]
  | succ N ih =>
    intro a q m done h1 h2 h3 h4 h5 hS
    obtain ⟨m, rfl⟩ : ∃ j, m = j + 1 := ⟨m - 1, by omega⟩
    cases q with
    | nil =>
      simp only [List.length_nil] at h4
      rw [forest_nil]
      unfold ref11Build.l8 ref11Build.b8 endT
      simp only [e0, e1, decide_eq_false (show ¬ (a.length : Int) < B by omega), cond_false, List.append_nil]
      rw [show (a.length : Int) = B by omega]
    | cons x r =>
      simp only [List.length_cons] at h1 h4
      have hs := hS a x r h3 (by omega) (by simp)
      unfold ref11Build.l8 ref11Build.b8
      simp only [e0, e1, decide_eq_true (show (a.length : Int) < B by omega), cond_true, hs, Option.bind_some]
      rw [forest]
      unfold bt
      by_cases hx : 0 ≤ siz x ∧ siz x < (r.length : Int) + 1
      · rw [if_pos hx, if_pos hx]
        obtain ⟨z, hz⟩ : ∃ z : Nat, siz x = z := ⟨(siz x).toNat, by omega⟩
        rw [hz] at hx ⊢
        rw [Int.toNat_natCast]
        cases hf : forest (r.take z) with
        | none => rfl
        | some s =>
          have e2 : apOk done [Tr.mk x s] 120 = true := apOk120 (by simp; omega)
          simp only [Bool.not_true, cond_false, Tr.val, Tr.sub, e2, chk, cond_true, Option.bind_some]
          have hlen : (r.take z).length = z := by rw [List.length_take]; omega
          have := ih (a ++ (x :: r.take z)) (r.drop z) m (done ++ [Tr.mk x s]) (by simp; omega) (by omega) (by rw [h3]; simp) (by rw [List.length_append, List.length_cons, hlen, List.length_drop]; omega) (by simp; omega) (fun a' x' r' g1 g2 g3 => hS a' x' r' g1 g2 (by simp at g3 ⊢; omega))
          rw [List.length_append, List.length_cons, hlen] at this
          rw [show (a.length : Int) + 1 + (z : Int) = ((a.length + (z + 1) : Nat) : Int) by omega, this]
          cases forest (r.drop z) with
          | none => rfl
          | some q => simp [endT]
      · rw [if_neg hx, if_neg hx]; rfl
theorem build_step (fu : Nat) (hfu : 1000 ≤ fu) (l a b : List No) (x : No) (r : List No) (m : Nat) (h3 : l = a ++ x :: r ++ b) (h4 : l.length ≤ 900)
    (hS : ∀ (a' : List No) (x' : No) (r' b' : List No), r'.length < r.length → l = a' ++ x' :: r' ++ b' → ref11Build fu m l a'.length ((a'.length : Int) + 1 + r'.length) = some (bt x' r' a'.length)) :
    ref11Build fu (m + 1) l a.length ((a.length : Int) + 1 + r.length) = some (bt x r a.length) := by
  show ref11Build.bd fu (ref11Build fu m) l a.length ((a.length : Int) + 1 + r.length) = _
  have hl : l.length = a.length + (r.length + 1) + b.length := by rw [h3]; simp; omega
  have i0 : ixOk l (a.length : Int) = true := ixOkN (by omega)
  have i1 : ixL ((0 : Int), (false, (0 : Int), ([] : List Te), ()), false, (false, (0 : Int), ([] : List Te), ()), (0 : Int), (0 : Int), (0 : Int), ()) l (a.length : Int) = x := by
    rw [ixN (by omega)]
    subst h3
    simp
  have e1 : IntKind.i64.wrap ((a.length : Int) + 1 + r.length - a.length) = 1 + r.length := by rw [wrap_i64 (by omega) (by omega)]; omega
  have e2 : IntKind.i64.wrap (1 + (r.length : Int) - 1) = r.length := by rw [wrap_i64 (by omega) (by omega)]; omega
  have e3 : IntKind.i64.wrap ((a.length : Int) + 1) = ((a ++ [x]).length : Int) := by rw [wrap_i64 (by omega) (by omega)]; simp
  unfold ref11Build.bd
  rw [decide_eq_false (show ¬ (a.length : Int) ≥ (a.length : Int) + 1 + r.length by omega)]
  simp only [cond_false, i0, i1, chk, cond_true, e1, e2, e3]
  rw [show x.2.2.2.2.2.2.1 = siz x from rfl]
  unfold bt
  by_cases hx : 0 ≤ siz x ∧ siz x < (r.length : Int) + 1
  · rw [if_pos hx, decide_eq_false (show ¬ siz x < 0 by omega), decide_eq_false (show ¬ siz x > (r.length : Int) by omega)]
    simp only [cond_false]
    have hz : siz x = ((siz x).toNat : Int) := by omega
    have hlt : (r.take (siz x).toNat).length = (siz x).toNat := by rw [List.length_take]; omega
    have key := build_rounds fu (ref11Build fu m) (fun vq3 vq3x2 c0q3 c0q3x2 c0q3x3 c0q3x4 c0q3x5 c0q3x6 c0q3x7 c0q3x8 c0q3x9 c0q3x10 c0q3x11 c0q3x12 => 
            some (Tr.mk (c0q3, (c0q3x2, c0q3x3, c0q3x4, ()), c0q3x5, (c0q3x6, c0q3x7, c0q3x8, ()), c0q3x9, c0q3x10, c0q3x11, ()) c0q3x12, vq3, vq3x2, ())) (fun kvq4 c0q4 c0q4x2 c0q4x3 c0q4x4 c0q4x5 c0q4x6 c0q4x7 c0q4x8 c0q4x9 c0q4x10 c0q4x11 c0q4x12 c1q4 c1q4x2 c1q4x3 c1q4x4 c1q4x5 c1q4x6 c1q4x7 c1q4x8 c1q4x9 c1q4x10 c1q4x11 c1q4x12 => 
            some (Tr.mk (c1q4, (c1q4x2, c1q4x3, c1q4x4, ()), c1q4x5, (c1q4x6, c1q4x7, c1q4x8, ()), c1q4x9, c1q4x10, c1q4x11, ()) c1q4x12, kvq4, true, ())) l (r.drop (siz x).toNat ++ b) a.length (siz x) ((a.length : Int) + 1 + siz x) rfl ⟨by omega, by omega, by omega, by omega⟩ 0 false 0 [] false false 0 [] 0 0 0 x.1 x.2.1.1 x.2.1.2.1 x.2.1.2.2.1 x.2.2.1 x.2.2.2.1.1 x.2.2.2.1.2.1 x.2.2.2.1.2.2.1 x.2.2.2.2.1 x.2.2.2.2.2.1 x.2.2.2.2.2.2.1 [] (r.take (siz x).toNat).length (a ++ [x]) (r.take (siz x).toNat) fu [] (Nat.le_refl _) (by omega) (by rw [h3]; simp only [List.append_assoc, List.cons_append, List.nil_append]; rw [← List.append_assoc (List.take _ _), List.take_append_drop]) (by rw [hlt]; simp; omega) (by simp; omega) (fun a' x' r' g1 g2 g3 => by
        have := hS a' x' r' _ (by omega) g1
        rwa [show (a'.length : Int) + 1 + r'.length = (a.length : Int) + 1 + siz x by omega] at this)
    refine Eq.trans key ?_
    cases forest (r.take (siz x).toNat) with
    | none => rfl
    | some s => simp [endT]
  · rw [if_neg hx]
    by_cases h0 : siz x < 0
    · rw [decide_eq_true h0]; rfl
    · rw [decide_eq_false h0, decide_eq_true (show siz x > (r.length : Int) by omega)]; rfl
theorem refBuild_eq (fu : Nat) (hfu : 1000 ≤ fu) : ∀ (n : Nat) (l a b : List No) (x : No) (r : List No) (m : Nat), r.length ≤ n → n < m → l = a ++ x :: r ++ b → l.length ≤ 900 → ref11Build fu m l a.length ((a.length : Int) + 1 + r.length) = some (bt x r a.length) := by
  intro n
  induction n with
  | zero =>
    intro l a b x r m h1 h2 h3 h4
    obtain ⟨m, rfl⟩ : ∃ j, m = j + 1 := ⟨m - 1, by omega⟩
    exact build_step fu hfu l a b x r m h3 h4 (fun a' x' r' b' g1 g2 => by omega)
  | succ n ih =>
    intro l a b x r m h1 h2 h3 h4
    obtain ⟨m, rfl⟩ : ∃ j, m = j + 1 := ⟨m - 1, by omega⟩
    exact build_step fu hfu l a b x r m h3 h4 (fun a' x' r' b' g1 g2 => by
      have := ih l a' b' x' r' m (by omega) (by omega) g2 h4
      exact this)
/-- The tree of nodes. -/
theorem refTree_eq (fu : Nat) (hfu : 1000 ≤ fu) (l : List No) (hl : l.length ≤ 900) : (∀ t, forest l = some [t] → ref11Tree fu l = some (t, true, ())) ∧ ((¬ ∃ t, forest l = some [t]) → ∃ t', ref11Tree fu l = some (t', false, ())) := by
  unfold ref11Tree
  cases l with
  | nil =>
    rw [forest_nil]
    have : ref11Build fu fu ([] : List No) (0 : Int) ((([] : List No).length : Nat) : Int) = some (noTr, 0, false, ()) := by
      obtain ⟨m, rfl⟩ : ∃ j, fu = j + 1 := ⟨fu - 1, by omega⟩
      rfl
    rw [this]
    exact ⟨fun t h => by simp at h, fun _ => ⟨_, rfl⟩⟩
  | cons x r =>
    simp only [List.length_cons] at hl
    have hb := refBuild_eq fu hfu r.length (x :: r) [] [] x r fu (Nat.le_refl _) (by omega) (by simp) (by simp; omega)
    rw [show ((([] : List No).length : Nat) : Int) = 0 from rfl, show (0 : Int) + 1 + r.length = (((x :: r).length : Nat) : Int) by rw [List.length_cons]; omega] at hb
    rw [hb]
    simp only [Option.bind_some, tr_eta]
    unfold bt
    constructor
    · intro t ht
      obtain ⟨x', r', s, cs, e, hx, rfl, hf, -⟩ := tree_of ht
      obtain ⟨rfl, rfl⟩ := List.cons.inj e
      rw [if_pos (by omega), hx, Int.toNat_natCast, List.take_of_length_le (Nat.le_refl _), hf]
      have : ((0 : Int) + 1 + (r.length : Int) == (((x :: r).length : Nat) : Int)) = true := by rw [List.length_cons]; simp; omega
      simp only [this, cond_true]
    · intro hn
      by_cases hx : 0 ≤ siz x ∧ siz x < (r.length : Int) + 1
      · rw [if_pos hx]
        cases hf : forest (r.take (siz x).toNat) with
        | none => exact ⟨_, rfl⟩
        | some s =>
          have h1 : ¬ siz x = r.length := fun e => hn ⟨Tr.mk x s, by
            rw [forest_one e]
            rw [e, Int.toNat_natCast, List.take_of_length_le (Nat.le_refl _)] at hf
            rw [hf]; rfl⟩
          have : ((0 : Int) + 1 + siz x == (((x :: r).length : Nat) : Int)) = false := ne_beq (by rw [List.length_cons]; omega)
          simp only [this, cond_true]
          exact ⟨_, rfl⟩
      · rw [if_neg hx]
        exact ⟨_, rfl⟩
/-! ### Whether a pattern may be -/
abbrev Pt : Type := List No × Int × Unit
def noFit (x : No) : Prop := (pdFit x.2.1 ∧ x.2.1.2.2.1.length ≤ 30) ∧ (pdFit x.2.2.2.1 ∧ x.2.2.2.1.2.2.1.length ≤ 30)
def wrongN (x : No) : Bool := !(mayP x.2.1 && mayP x.2.2.2.1)
theorem may1_eq (fu : Nat) (hfu : 50 ≤ fu) (x : No) (h : noFit x) : treeMay1 fu x = some (wrongN x, ()) := by
  unfold treeMay1 wrongN
  rw [predMay_eq fu (by omega) _ h.1.1, predMay_eq fu (by omega) _ h.2.1]
  simp only [Option.bind_some]
  cases mayP x.2.1 <;> rfl
theorem indexW_rounds (fu : Nat) (hfu : 50 ≤ fu) (k1 : Int → Option ((Int × Unit) × (Unit))) (k2 : Unit → Option ((Int × Unit) × (Unit))) (l : List No) (hv : ∀ x ∈ l, noFit x) (hl : l.length ≤ 1000) : ∀ (k m i : Nat), i + k = l.length → k < m →
    ((l.drop i).any wrongN = false → slicesIndexFuncF119.l2 fu k1 k2 m l l.length i = k2 ()) ∧ ((l.drop i).any wrongN = true → ∃ j : Nat, slicesIndexFuncF119.l2 fu k1 k2 m l l.length i = k1 j) := by
  intro k
  induction k with
  | zero =>
    intro m i h1 h2
    obtain ⟨m, rfl⟩ : ∃ j, m = j + 1 := ⟨m - 1, by omega⟩
    rw [List.drop_eq_nil_of_le (by omega)]
    refine ⟨fun _ => ?_, fun h => absurd h (by decide)⟩
    unfold slicesIndexFuncF119.l2 slicesIndexFuncF119.b2
    rw [decide_eq_false (by omega), cond_false]
  | succ k ih =>
    intro m i h1 h2
    obtain ⟨m, rfl⟩ : ∃ j, m = j + 1 := ⟨m - 1, by omega⟩
    have hi : i < l.length := by omega
    have e1 : IntKind.i64.wrap ((i : Int) + 1) = ((i + 1 : Nat) : Int) := wrap_i64 (by omega) (by omega)
    have := ih m (i + 1) (by omega) (by omega)
    rw [drop_one hi]
    unfold slicesIndexFuncF119.l2 slicesIndexFuncF119.b2
    rw [decide_eq_true (by omega), cond_true, ixOkN hi, ixN hi]
    simp only [may1_eq fu hfu _ (hv _ (List.getElem_mem hi)), chk, cond_true, Option.bind_some, e1, List.any_cons]
    cases hm : wrongN l[i] with
    | false => simpa using this
    | true => simp only [Bool.true_or, cond_true]; exact ⟨fun h => (nomatch h), fun _ => ⟨i, rfl⟩⟩
theorem containsW_eq (fu : Nat) (hfu : 50 ≤ fu) (l : List No) (hv : ∀ x ∈ l, noFit x) (hl : l.length ≤ 1000) (hf : l.length < fu) : slicesContainsFuncF73 fu l = some ((l.any wrongN, ()), ()) := by
  have := indexW_rounds fu hfu (fun vq3 => some ((vq3, ()), (()))) (fun _ => some (((-1 : Int), ()), (()))) l hv hl l.length fu 0 (by omega) (by omega)
  rw [List.drop_zero] at this
  unfold slicesContainsFuncF73 slicesIndexFuncF119
  rw [show ((0 : Int)) = ((0 : Nat) : Int) from rfl]
  cases hm : l.any wrongN with
  | false => rw [this.1 hm]; rfl
  | true =>
    obtain ⟨j, hj⟩ := this.2 hm
    rw [hj]
    simp only [Option.bind_some, decide_eq_true (show (j : Int) ≥ ((0 : Nat) : Int) by omega)]
def mayT (p : Pt) (t : Tr No) : Int :=
  if frm t = true then (if p.1.any wrongN = true then 1 else if dep t > 8 then 16 else if p.2.1 < 1 then 5 else if p.2.1 > 1048576 then 5 else if plc t > 32 then 4 else 0) else 2
theorem may_tree (fu : Nat) (hfu : 1000 ≤ fu) (p : Pt) (hp : ∀ x ∈ p.1, noFit x) (hl : p.1.length ≤ 32) (t : Tr No) (ht : forest p.1 = some [t]) : treeMay fu p = some (mayT p t, ()) := by
  unfold treeMay mayT
  have hF : formF p.1 = frm t := by unfold formF; rw [ht]
  rw [treeFormed_eq fu hfu p.1.length p.1 fu (Nat.le_refl _) (by omega) (by omega), containsW_eq fu (by omega) p.1 hp (by omega) (by omega), treeDeep_eq fu hfu p.1.length p.1 t fu (Nat.le_refl _) (by omega) (by omega) ht, hF]
  simp only [decide_eq_false (show ¬ (p.1.length : Int) > 32 by omega), cond_false, Option.bind_some]
  cases hf : frm t with
  | false => rfl
  | true =>
    have hpl := treePlaces_eq fu hfu p.1.length p.1 t fu (Nat.le_refl _) (by omega) (by omega) ht hf
    simp only [Bool.not_true, cond_false, if_true]
    cases p.1.any wrongN with
    | true => rfl
    | false =>
      simp only [cond_false, Bool.false_eq_true, if_false]
      by_cases h8 : dep t > 8
      · rw [decide_eq_true h8, if_pos h8]; rfl
      · rw [decide_eq_false h8, if_neg h8]
        simp only [cond_false, treeMay.j25011, hpl, Option.bind_some]
        by_cases h1 : p.2.1 < 1
        · rw [decide_eq_true h1, if_pos h1]; rfl
        · rw [decide_eq_false h1, if_neg h1]
          by_cases h2 : p.2.1 > 1048576
          · rw [decide_eq_true h2, if_pos h2]; rfl
          · rw [decide_eq_false h2, if_neg h2]
            by_cases h3 : plc t > 32
            · rw [decide_eq_true h3, if_pos h3]; rfl
            · rw [decide_eq_false h3, if_neg h3]; rfl
theorem may_no (fu : Nat) (hfu : 1000 ≤ fu) (p : Pt) (hl : p.1.length ≤ 32) (ht : ¬ ∃ t, forest p.1 = some [t]) : treeMay fu p = some (2, ()) := by
  have hF : formF p.1 = false := by
    unfold formF
    split
    · rename_i t h; exact absurd ⟨t, h⟩ ht
    · rfl
  unfold treeMay
  rw [treeFormed_eq fu hfu p.1.length p.1 fu (Nat.le_refl _) (by omega) (by omega), hF]
  simp only [decide_eq_false (show ¬ (p.1.length : Int) > 32 by omega), cond_false, Option.bind_some]
  rfl
theorem may_long (fu : Nat) (p : Pt) (hl : ¬ p.1.length ≤ 32) : treeMay fu p = some (12, ()) := by
  unfold treeMay
  simp only [decide_eq_true (show (p.1.length : Int) > 32 by omega), cond_true]
theorem refW_rounds (fu : Nat) (hfu : 50 ≤ fu) k1 k2 (p : Pt) (hv : ∀ x ∈ p.1, noFit x) (hl : p.1.length ≤ 1000) (c0 : Int) (c1 : Bool) (c2 : Int) (c3 : List Te) (c4 : Bool) (c5 : Bool) (c6 : Int) (c7 : List Te) (c8 c9 c10 : Int) (c11 : List (Tr No)) : ∀ (k m i : Nat), i + k = p.1.length → k < m →
    ref11May.l7 fu k1 k2 m p.1.length i p c0 c1 c2 c3 c4 c5 c6 c7 c8 c9 c10 c11 = cond ((p.1.drop i).any wrongN) (k1 1) (k2 p c0 c1 c2 c3 c4 c5 c6 c7 c8 c9 c10 c11) := by
  intro k
  induction k with
  | zero =>
    intro m i h1 h2
    obtain ⟨m, rfl⟩ : ∃ j, m = j + 1 := ⟨m - 1, by omega⟩
    rw [List.drop_eq_nil_of_le (by omega)]
    unfold ref11May.l7 ref11May.b7
    rw [decide_eq_false (by omega), cond_false]
    rfl
  | succ k ih =>
    intro m i h1 h2
    obtain ⟨m, rfl⟩ : ∃ j, m = j + 1 := ⟨m - 1, by omega⟩
    have hi : i < p.1.length := by omega
    have e1 : IntKind.i64.wrap ((i : Int) + 1) = ((i + 1 : Nat) : Int) := wrap_i64 (by omega) (by omega)
    have := ih m (i + 1) (by omega) (by omega)
    obtain ⟨⟨q1, q2⟩, ⟨q3, q4⟩⟩ := hv _ (List.getElem_mem hi)
    rw [drop_one hi]
    unfold ref11May.l7 ref11May.b7
    rw [decide_eq_true (by omega), cond_true, ixOkN hi, ixN hi]
    simp only [refMayP_eq fu hfu _ q1 q2, refMayP_eq fu hfu _ q3 q4, chk, cond_true, Option.bind_some, e1, List.any_cons]
    have hw : wrongN p.1[i] = !(mayP p.1[i].2.1 && mayP p.1[i].2.2.2.1) := rfl
    by_cases g1 : mayP p.1[i].2.1 = true
    · by_cases g2 : mayP p.1[i].2.2.2.1 = true
      · rw [hw]
        simp only [g1, g2, Bool.not_true, cond_false, Bool.and_self, Bool.false_or]
        exact this
      · have g2 : mayP p.1[i].2.2.2.1 = false := by simpa using g2
        rw [hw]
        simp only [g1, g2, Bool.not_true, Bool.not_false, cond_false, cond_true, Bool.and_false, Bool.true_or]
    · have g1 : mayP p.1[i].2.1 = false := by simpa using g1
      rw [hw]
      simp only [g1, Bool.not_false, cond_true, Bool.false_and, Bool.true_or]
theorem refMay_tree (fu : Nat) (hfu : 1000 ≤ fu) (p : Pt) (hp : ∀ x ∈ p.1, noFit x) (hl : p.1.length ≤ 32) (hw : 0 ≤ p.2.1) (t : Tr No) (ht : forest p.1 = some [t]) : ref11May fu p = some (mayT p t, ()) := by
  have hsz := forest_sz p.1.length p.1 [t] (Nat.le_refl _) ht
  have hsz : tsz t ≤ 32 := by simp [tszL] at hsz; omega
  unfold ref11May mayT
  rw [(refTree_eq fu hfu p.1 (by omega)).1 t ht]
  simp only [decide_eq_false (show ¬ (p.1.length : Int) > 32 by omega), cond_false, Option.bind_some, Bool.not_true, tr_eta, refFormed_eq fu hfu 32 t fu hsz (by omega) (by omega)]
  cases hf : frm t with
  | false => rfl
  | true =>
    simp only [Bool.not_true, cond_false, if_true]
    rw [show ((0 : Int)) = ((0 : Nat) : Int) from rfl, refW_rounds fu (by omega) _ _ p hp (by omega) _ _ _ _ _ _ _ _ _ _ _ _ p.1.length fu 0 (by omega) (by omega), List.drop_zero]
    rw [show Tr.mk (t.val.1, (t.val.2.1.1, t.val.2.1.2.1, t.val.2.1.2.2.1, ()), t.val.2.2.1, (t.val.2.2.2.1.1, t.val.2.2.2.1.2.1, t.val.2.2.2.1.2.2.1, ()), t.val.2.2.2.2.1, t.val.2.2.2.2.2.1, t.val.2.2.2.2.2.2.1, ()) t.sub = t from tr_eta t]
    cases p.1.any wrongN with
    | true => rfl
    | false =>
      simp only [Bool.false_eq_true, if_false, cond_false, refDepth_eq fu hfu 32 t fu hsz (by omega) (by omega), refPlaces_eq fu hfu 32 t fu hsz (by omega) (by omega), Option.bind_some]
      by_cases h8 : dep t > 8
      · rw [decide_eq_true h8, if_pos h8]; rfl
      · rw [decide_eq_false h8, if_neg h8]
        simp only [cond_false, beq_dec]
        by_cases h1 : p.2.1 < 1
        · rw [decide_eq_true (show p.2.1 = ((0 : Nat) : Int) by omega), if_pos h1]; rfl
        · rw [decide_eq_false (show ¬ p.2.1 = ((0 : Nat) : Int) by omega), if_neg h1]
          simp only [cond_false]
          by_cases h2 : p.2.1 > 1048576
          · rw [decide_eq_true h2, if_pos h2]; rfl
          · rw [decide_eq_false h2, if_neg h2]
            simp only [cond_false]
            by_cases h3 : plc t > 32
            · rw [decide_eq_true h3, if_pos h3]; rfl
            · rw [decide_eq_false h3, if_neg h3]; rfl
theorem refMay_no (fu : Nat) (hfu : 1000 ≤ fu) (p : Pt) (hl : p.1.length ≤ 32) (ht : ¬ ∃ t, forest p.1 = some [t]) : ref11May fu p = some (2, ()) := by
  obtain ⟨t', h'⟩ := (refTree_eq fu hfu p.1 (by omega)).2 ht
  unfold ref11May
  rw [h']
  simp only [decide_eq_false (show ¬ (p.1.length : Int) > 32 by omega), cond_false, Option.bind_some]
  rfl
theorem refMay_long (fu : Nat) (p : Pt) (hl : ¬ p.1.length ≤ 32) : ref11May fu p = some (12, ()) := by
  unfold ref11May
  simp only [decide_eq_true (show (p.1.length : Int) > 32 by omega), cond_true]
/-! ### The given patterns -/
abbrev RN : Type := Int × (Bool × Int × List RT × Unit) × Bool × (Bool × Int × List RT × Unit) × Int × Int × Int × Unit
def rawN (x : RN) : No := (x.1, rawP x.2.1, x.2.2.1, rawP x.2.2.2.1, x.2.2.2.2.1, x.2.2.2.2.2.1, x.2.2.2.2.2.2.1, ())
theorem apOk96 {xs ys : List No} (h : xs.length + ys.length ≤ 100000) : apOk xs ys 96 = true := by
  have hL : (100000000 : Nat) ≤ LIM := by decide
  unfold apOk
  exact decide_eq_true (by omega)
theorem ixRN {l : List RN} {i : Nat} (h : i < l.length) : ixL ((0 : Int), (false, (0 : Int), ([] : List RT), ()), false, (false, (0 : Int), ([] : List RT), ()), (0 : Int), (0 : Int), (0 : Int), ()) l i = l[i] := by
  unfold ixL
  simp [List.getElem?_eq_getElem h]
theorem raw11_rounds (fu : Nat) (k2 : List No → Int → List No → Int → Option (Pt × Unit)) (l : List RN) (hl : l.length ≤ 140737488355328) (hv : ∀ x ∈ l, law10RawPred fu x.2.1 = some (rawP x.2.1, ()) ∧ law10RawPred fu x.2.2.2.1 = some (rawP x.2.2.2.1, ())) (c1 c2 : Int) (c1x : List No) : ∀ (k m i : Nat), i + k = l.length → k < m →
    law11RawPattern.l3 fu k2 m l l.length i c1x c1 ((l.take (min i 40)).map rawN) c2 = k2 c1x c1 ((l.take 40).map rawN) c2 := by
  intro k
  induction k with
  | zero =>
    intro m i h1 h2
    obtain ⟨m, rfl⟩ : ∃ j, m = j + 1 := ⟨m - 1, by omega⟩
    unfold law11RawPattern.l3 law11RawPattern.b3
    rw [decide_eq_false (by omega), cond_false]
    congr 2
    by_cases h : i ≤ 40
    · rw [show min i 40 = i by omega, List.take_of_length_le (by omega), List.take_of_length_le (by omega)]
    · rw [show min i 40 = 40 by omega]
  | succ k ih =>
    intro m i h1 h2
    obtain ⟨m, rfl⟩ : ∃ j, m = j + 1 := ⟨m - 1, by omega⟩
    have hi : i < l.length := by omega
    have e1 : IntKind.i64.wrap ((i : Int) + 1) = ((i + 1 : Nat) : Int) := wrap_i64 (by omega) (by omega)
    have := ih m (i + 1) (by omega) (by omega)
    obtain ⟨q1, q2⟩ := hv _ (List.getElem_mem hi)
    unfold law11RawPattern.l3 law11RawPattern.b3
    rw [decide_eq_true (by omega), cond_true, ixOkN hi, ixRN hi]
    simp only [q1, q2, chk, cond_true, Option.bind_some, e1]
    by_cases h30 : (i : Int) < 40
    · have e2 : apOk ((l.take (min i 40)).map rawN) [rawN l[i]] 96 = true := apOk96 (by simp; omega)
      have e3 : (((l[i].1, rawP l[i].2.1, l[i].2.2.1, rawP l[i].2.2.2.1, l[i].2.2.2.2.1, l[i].2.2.2.2.2.1, l[i].2.2.2.2.2.2.1, ()) : No)) = rawN l[i] := rfl
      simp only [decide_eq_true h30, cond_true, e3, e2]
      rw [show min (i + 1) 40 = i + 1 by omega, List.take_succ_eq_append_getElem hi, List.map_append] at this
      rw [show min i 40 = i by omega]
      exact this
    · simp only [decide_eq_false h30, cond_false]
      rw [show min (i + 1) 40 = 40 by omega] at this
      rw [show min i 40 = 40 by omega]
      exact this
def rawPt (x : List RN × Int × Unit) : Pt := ((x.1.take 40).map rawN, x.2.1, ())
theorem great11_rounds (fu : Nat) (hfu : 50 ≤ fu) (k1 : Bool → Option (Bool × Unit)) (k2 : Unit → Option (Bool × Unit)) (p : Pt) (hl : p.1.length ≤ 50) : ∀ (k m i : Nat), i + k = p.1.length → k < m → ref11Great.l4 fu k1 k2 m p.1.length i p = k1 true ∨ ref11Great.l4 fu k1 k2 m p.1.length i p = k2 () := by
  intro k
  induction k with
  | zero =>
    intro m i h1 h2
    obtain ⟨m, rfl⟩ : ∃ j, m = j + 1 := ⟨m - 1, by omega⟩
    unfold ref11Great.l4 ref11Great.b4
    rw [decide_eq_false (by omega), cond_false]
    exact .inr rfl
  | succ k ih =>
    intro m i h1 h2
    obtain ⟨m, rfl⟩ : ∃ j, m = j + 1 := ⟨m - 1, by omega⟩
    have hi : i < p.1.length := by omega
    have e1 : IntKind.i64.wrap ((i : Int) + 1) = ((i + 1 : Nat) : Int) := wrap_i64 (by omega) (by omega)
    obtain ⟨g1, hg1⟩ := great10_eq fu hfu p.1[i].2.1
    obtain ⟨g2, hg2⟩ := great10_eq fu hfu p.1[i].2.2.2.1
    unfold ref11Great.l4 ref11Great.b4
    rw [decide_eq_true (by omega), cond_true, ixOkN hi, ixN hi]
    simp only [chk, cond_true, hg1, hg2, Option.bind_some, e1]
    cases g1 with
    | true => exact .inl rfl
    | false => cases g2 with
      | true => exact .inl rfl
      | false => exact ih m (i + 1) (by omega) (by omega)
theorem great11_eq (fu : Nat) (hfu : 60 ≤ fu) (p : Pt) : ∃ g, ref11Great fu p = some (g, ()) := by
  unfold ref11Great
  by_cases h : (p.1.length : Int) > 50
  · exact ⟨true, by simp only [decide_eq_true h, cond_true]⟩
  · rcases great11_rounds fu (by omega) (fun vq3 => some (vq3, ())) (fun _ => some (false, ())) p (by omega) p.1.length fu 0 (by omega) (by omega) with hn | hn
    · exact ⟨true, by simp only [decide_eq_false h, cond_false]; exact hn⟩
    · exact ⟨false, by simp only [decide_eq_false h, cond_false]; exact hn⟩
theorem fixed11 (m : Nat) : law11Fixed (m + 1000) = some (true, ()) := by kernel_rfl
theorem pdt_fit {x : Bool × Int × List RT × Unit} (h : kS5.ok x) : pdFit (rawP x) := by
  obtain ⟨-, -, h2, -⟩ := h
  intro v hv
  obtain ⟨w, hw, rfl⟩ := List.mem_map.1 hv
  obtain ⟨k1, k2, k3, -⟩ := h2.2 w (List.mem_of_mem_take hw)
  have k1 : 0 ≤ w.1 ∧ w.1 < 256 := u8Of k1
  have k2 : 0 ≤ w.2.1 ∧ w.2.1 < 256 := u8Of k2
  have k4 : 0 ≤ w.2.2.1.1 ∧ w.2.2.1.1 < 256 := u8Of k3.1
  exact ⟨⟨k1.1, by show w.1 ≤ 255; omega⟩, ⟨k2.1, by show w.2.1 ≤ 255; omega⟩, raw_fit k3, k4.1⟩
def lenN (x : RN) : Nat := x.2.1.2.2.1.length + x.2.2.2.1.2.2.1.length
theorem le_sum {α : Type} (f : α → Nat) : ∀ {l : List α} {x : α}, x ∈ l → f x ≤ (l.map f).sum
  | y :: r, x, h => by
    rw [List.map_cons, List.sum_cons]
    rcases List.mem_cons.1 h with rfl | h
    · omega
    · have := le_sum f h
      omega
theorem rawPt_eq (fu : Nat) (x : List RN × Int × Unit) (h : kS9.ok x) (hfu : x.1.length + (x.1.map lenN).sum < fu) : law11RawPattern fu x = some (rawPt x, ()) ∧ (∀ n ∈ (rawPt x).1, noFit n) ∧ 0 ≤ x.2.1 := by
  obtain ⟨h1, h2, -⟩ := h
  have hb : x.1.length * 1 ≤ x.1.length * (Kd.bytes kS8) := Nat.mul_le_mul_left _ (by decide)
  have hr : reachBytes = 140737488351232 + 4096 - 4096 := by decide
  have h3 : x.1.length * (Kd.bytes kS8) ≤ reachBytes := h1.1
  have h2 : 0 ≤ x.2.1 ∧ x.2.1 < 18446744073709551616 := u64Of h2
  refine ⟨?_, ?_, h2.1⟩
  · unfold law11RawPattern
    have := raw11_rounds fu (fun c1q2 c1q2x2 c2q2 c2q2x2 => some ((c2q2, c2q2x2, ()), ())) x.1 (by omega) (fun n hn => by
      obtain ⟨-, k1, -, k2, -⟩ := h1.2 n hn
      obtain ⟨-, -, e1⟩ := rawP_ok k1
      obtain ⟨-, -, e2⟩ := rawP_ok k2
      have hs := le_sum lenN hn
      have hq : lenN n = n.2.1.2.2.1.length + n.2.2.2.1.2.2.1.length := rfl
      exact ⟨rawP_eq fu _ e1 (by omega), rawP_eq fu _ e2 (by omega)⟩) 0 x.2.1 [] x.1.length fu 0 (by omega) (by omega)
    rw [show min 0 40 = 0 from rfl, List.take_zero, List.map_nil] at this
    exact this
  · intro n hn
    obtain ⟨w, hw, rfl⟩ := List.mem_map.1 hn
    obtain ⟨-, k1, -, k2, -⟩ := h1.2 w (List.mem_of_mem_take hw)
    obtain ⟨-, e1, -⟩ := rawP_ok k1
    obtain ⟨-, e2, -⟩ := rawP_ok k2
    exact ⟨⟨pdt_fit k1, Nat.le_trans e1 (by decide)⟩, ⟨pdt_fit k2, Nat.le_trans e2 (by decide)⟩⟩
/-- THE LAW. -/
theorem lawTreeMay (x : List RN × Int × Unit) (h : okAll law11TreeMay.con.ps (x, ())) : law11TreeMay (x.1.length + (x.1.map lenN).sum + 8000) x = some (true, ()) := by
  have hf := fixed11 (x.1.length + (x.1.map lenN).sum + 7000)
  rw [show x.1.length + (x.1.map lenN).sum + 7000 + 1000 = x.1.length + (x.1.map lenN).sum + 8000 by omega] at hf
  generalize hfu : x.1.length + (x.1.map lenN).sum + 8000 = fu at hf
  obtain ⟨e1, e2, e3⟩ := rawPt_eq fu x h.1 (by omega)
  have e3 : 0 ≤ (rawPt x).2.1 := e3
  have e4 : (rawPt x).1.length ≤ 40 := by simp [rawPt]; omega
  unfold law11TreeMay
  rw [e1]
  simp only [Option.bind_some]
  generalize rawPt x = p at e2 e3 e4
  obtain ⟨g, hg⟩ := great11_eq fu (by omega) p
  rw [hg]
  simp only [Option.bind_some, hf]
  cases g with
  | true => rfl
  | false =>
    simp only [cond_false]
    by_cases hl : p.1.length ≤ 32
    · by_cases ht : ∃ t, forest p.1 = some [t]
      · obtain ⟨t, ht⟩ := ht
        have hm := may_tree fu (by omega) p e2 hl t ht
        have hsz := forest_sz p.1.length p.1 [t] (Nat.le_refl _) ht
        have hsz : tsz t ≤ 32 := by simp [tszL] at hsz; omega
        rw [refMay_tree fu (by omega) p e2 hl e3 t ht]
        unfold treePlacesF34 treeDepth
        simp only [hm, Option.bind_some, bne_dec']
        by_cases h0 : mayT p t = 0
        · have hfr : frm t = true := by
            unfold mayT at h0
            split at h0
            · assumption
            · cases h0
          rw [(refTree_eq fu (by omega) p.1 (by omega)).1 t ht, treePlaces_eq fu (by omega) p.1.length p.1 t fu (Nat.le_refl _) (by omega) (by omega) ht hfr, treeDeep_eq fu (by omega) p.1.length p.1 t fu (Nat.le_refl _) (by omega) (by omega) ht]
          simp only [decide_eq_true h0, Bool.not_true, cond_false, cond_true, Option.bind_some, tr_eta, refPlaces_eq fu (by omega) 32 t fu hsz (by omega) (by omega), refDepth_eq fu (by omega) 32 t fu hsz (by omega) (by omega), beq_self_eq_true, decide_true]
        · simp only [decide_eq_false h0, Bool.not_false, cond_true, Option.bind_some]
          rfl
      · unfold treePlacesF34 treeDepth
        rw [refMay_no fu (by omega) p hl ht, may_no fu (by omega) p hl ht]
        rfl
    · unfold treePlacesF34 treeDepth
      rw [refMay_long fu p hl, may_long fu p hl]
      rfl

end Go.Shal.Pr
