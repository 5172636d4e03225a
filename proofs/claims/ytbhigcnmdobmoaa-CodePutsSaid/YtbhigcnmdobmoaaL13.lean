/- CodePuts: the plain law. By an AI agent. -/
import Derived.Test.YtbhigcnmdobmoaaGen13
set_option linter.unusedVariables false
namespace Go.Shal.Pr
open Go Go.Shal Go.Proofs
theorem wrap_i64 {x : Int} (h0 : -9223372036854775808 ≤ x) (h1 : x < 9223372036854775808) : IntKind.i64.wrap x = x := by
 simp only [IntKind.wrap, IntKind.signed, IntKind.bits]
 simp
 omega
theorem Zdr (x : Int) : IntKind.u8.wrap x = x % 256 := by
 simp only [IntKind.wrap, IntKind.signed, IntKind.bits]
 simp
theorem Zdg {xs ys : List Int} (h : xs.length + ys.length ≤ 1000000) : apOk xs ys 1 = true := by
 unfold apOk
 exact decide_eq_true (Nat.le_trans (Nat.mul_le_mul_right 1 h) (by decide))
theorem ZsN {x : Int} (h : inR .u64 x) : 0 ≤ x ∧ x < 18446744073709551616 := by
 simp [inR, IntKind.min, IntKind.max, IntKind.signed, IntKind.bits] at h
 omega
theorem i64Of {x : Int} (h : inR .i64 x) : -9223372036854775808 ≤ x ∧ x < 9223372036854775808 := by
 simp [inR, IntKind.min, IntKind.max, IntKind.signed, IntKind.bits] at h
 omega
abbrev Va : Type := Int × Int × Nat × List Int × Unit
theorem ZbL {x y : Int} (h : ¬ x = y) : (x == y) = false := beq_false_of_ne h
def F64 (x : Nat) : Prop := x < 18446744073709551616
theorem Zpe (fu : Nat) {x : Nat} (h : F64 x) : ZcF.f fu (x, ()) = some ((x : Int), ()) := by
 show (match decide (x < 18446744073709551616) with | true => some ((x : Int), ()) | false => none) = _
 have : decide (x < 18446744073709551616) = true := decide_eq_true (show x < 18446744073709551616 from h)
 rw [this]
theorem ZcW {β : Type} (fu : Nat) {x : Nat} (h : F64 x) (K : (Kd.struct ZcF.rs).T → Option β) : (ZcF.f fu (x, ())).bind K = K ((x : Int), ()) := by rw [Zpe fu h]; rfl
def mayV (v : Va) : Bool := decide (v.1 ≤ 3) && (decide (v.2.1 = 0) || decide (v.1 = 1)) && (decide (v.2.2.1 = 0) || decide (v.1 = 2)) && (decide (v.2.2.2.1 = []) || decide (v.1 = 3)) && decide (v.2.2.2.1.length ≤ 255)
theorem Zjd (fu : Nat) (v : Va) (h : F64 v.2.2.1) : ZbH fu v = some (mayV v, ()) := by
 obtain ⟨k, i, x, s, u⟩ := v
 have h0 : F64 0 := by unfold F64; omega
 have q1 : ∀ y : Nat, (((0 : Nat) : Int) == (y : Int)) = decide (y = 0) := fun y => by
  by_cases hy : y = 0
  ·subst hy; rfl
  ·rw [decide_eq_false hy]; exact ZbL (by omega)
 have q2 : ∀ y : Int, ((0 : Int) == y) = decide (y = 0) := fun y => by
  by_cases hy : y = 0
  ·subst hy; rfl
  ·rw [decide_eq_false hy]; exact ZbL (by omega)
 have q3 : ∀ y : List Int, (([] : List Int) == y) = decide (y = []) := fun y => by cases y <;> rfl
 have q4 : decide ((s.length : Int) ≤ 255) = decide (s.length ≤ 255) := by
  by_cases hs : s.length ≤ 255
  ·rw [decide_eq_true hs, decide_eq_true (by omega)]
  ·rw [decide_eq_false hs, decide_eq_false (by omega)]
 have h' : F64 x := h
 unfold ZbH ZbO mayV
 by_cases k1 : k = 1
 ·subst k1
  simp only [beq_self_eq_true, cond_true, Option.bind_some, ZcW fu h', ZcW fu h0, q1, q3, q4]
  cases decide (s.length ≤ 255) <;> cases decide (s = []) <;> cases decide (x = 0) <;> simp
 ·by_cases k2 : k = 2
  ·subst k2
   simp only [ZbL (show ¬ (2 : Int) = 1 by decide), beq_self_eq_true, cond_true, cond_false, Option.bind_some, ZcW fu h', q2, q3, q4]
   cases decide (s.length ≤ 255) <;> cases decide (s = []) <;> cases decide (i = 0) <;> simp
  ·by_cases k3 : k = 3
   ·subst k3
    simp only [ZbL (show ¬ (3 : Int) = 1 by decide), ZbL (show ¬ (3 : Int) = 2 by decide), beq_self_eq_true, cond_true, cond_false, Option.bind_some, ZcW fu h', ZcW fu h0, q1, q2, q4]
    cases decide (s.length ≤ 255) <;> cases decide (i = 0) <;> cases decide (x = 0) <;> simp
   ·simp only [ZbL k1, ZbL k2, ZbL k3, cond_false, Option.bind_some, ZcW fu h', ZcW fu h0, q1, q2, q3, q4, k1, k2, k3, decide_false, Bool.or_false]
    cases decide (k ≤ 3) <;> cases decide (s.length ≤ 255) <;> cases decide (i = 0) <;> cases decide (x = 0) <;> cases decide (s = []) <;> simp
theorem Zmj (fu : Nat) (v : Va) (h : F64 v.2.2.1) : Zam fu v = some (mayV v, ()) := by
 obtain ⟨k, i, x, s, u⟩ := v
 have h' : F64 x := h
 have q1 : ((x : Int) == 0) = decide (x = 0) := by
  by_cases hy : x = 0
  ·subst hy; rfl
  ·rw [decide_eq_false hy]; exact ZbL (by omega)
 have q2 : ∀ a b : Int, (a == b) = decide (a = b) := fun _ _ => rfl
 have q3 : (s == ([] : List Int)) = decide (s = []) := by cases s <;> rfl
 have q4 : decide ((s.length : Int) ≤ 255) = decide (s.length ≤ 255) := by
  by_cases hs : s.length ≤ 255
  ·rw [decide_eq_true hs, decide_eq_true (by omega)]
  ·rw [decide_eq_false hs, decide_eq_false (by omega)]
 have q5 : decide (k < 4) = decide (k ≤ 3) := by
  by_cases hs : k ≤ 3
  ·rw [decide_eq_true hs, decide_eq_true (by omega)]
  ·rw [decide_eq_false hs, decide_eq_false (by omega)]
 unfold Zam mayV
 unfold Zam.j2
 rw [ZcW fu h', ZcW fu h']
 simp only [Zam.j3, Zam.j4, q1, q2, q3, q4, q5]
 cases decide (k ≤ 3) <;> cases decide (s.length ≤ 255) <;> cases decide (i = 0) <;> cases decide (x = 0) <;> cases decide (s = []) <;> cases decide (k = 1) <;> cases decide (k = 2) <;> cases decide (k = 3) <;> rfl
theorem ZcQ {α : Type} {l : List α} {i : Nat} (h : i < l.length) : ixOk l (i : Int) = true := by unfold ixOk; simp; omega
theorem Zcl {α : Type} {l : List α} {i : Nat} (h : i < l.length) : l.drop i = l[i] :: l.drop (i + 1) := List.drop_eq_getElem_cons h
abbrev Rw : Type := Int × Int × Int × List Int × Unit
def rawV (x : Rw) : Va := (x.1, x.2.1, x.2.2.1.toNat, x.2.2.2.1, ())
theorem raw_eq (fu : Nat) (x : Rw) : ZaZ fu x = some (rawV x, ()) := rfl
def vaFit (v : Va) : Prop := (-9223372036854775808 ≤ v.2.1 ∧ v.2.1 ≤ 9223372036854775807) ∧ F64 v.2.2.1
theorem ZtY {x : Rw} (h : (Kd.struct [(.int .u8), (.int .i64), (.int .u64), .str]).ok x) : vaFit (rawV x) := by
 obtain ⟨-, k2, k3, -⟩ := h
 have k2 := i64Of k2
 have k3 : 0 ≤ x.2.2.1 ∧ x.2.2.1 < 18446744073709551616 := ZsN k3
 have k2 : -9223372036854775808 ≤ x.2.1 ∧ x.2.1 < 9223372036854775808 := k2
 exact ⟨⟨k2.1, by show x.2.1 ≤ _; omega⟩, by show x.2.2.1.toNat < _; omega⟩
theorem u8Of {x : Int} (h : inR .u8 x) : 0 ≤ x ∧ x < 256 := by
 simp [inR, IntKind.min, IntKind.max, IntKind.signed, IntKind.bits] at h
 omega
abbrev Te : Type := Int × Int × Va × Unit
abbrev Pd : Type := Bool × Int × List Te × Unit
abbrev RT : Type := Int × Int × Rw × Unit
def rawT (x : RT) : Te := (x.1, x.2.1, rawV x.2.2.1, ())
theorem ZsS {xs ys : List Te} (h : xs.length + ys.length ≤ 100000) : apOk xs ys 48 = true := by
 have hL : (10000000 : Nat) ≤ LIM := by decide
 unfold apOk
 exact decide_eq_true (by omega)
theorem ixRT {l : List RT} {i : Nat} (h : i < l.length) : ixL ((0 : Int), (0 : Int), ((0 : Int), (0 : Int), (0 : Int), ([] : List Int), ()), ()) l i = l[i] := by
 unfold ixL
 simp [List.getElem?_eq_getElem h]
theorem ixT {l : List Te} {i : Nat} (h : i < l.length) : ixL ((0 : Int), (0 : Int), ((0 : Int), (0 : Int), (0 : Nat), ([] : List Int), ()), ()) l i = l[i] := by
 unfold ixL
 simp [List.getElem?_eq_getElem h]
theorem Zmg (fu : Nat) (k2 : Bool → Int → List Te → Bool → Int → List Te → Option (Pd × Unit)) (l : List RT) (hl : l.length ≤ 140737488355328) (b1 b2 : Bool) (c1 c2 : Int) (c1x : List Te) : ∀ (k m i : Nat), i + k = l.length → k < m →
  Zao.l3 fu k2 m l l.length i b1 c1 c1x b2 c2 ((l.take (min i 10)).map rawT) = k2 b1 c1 c1x b2 c2 ((l.take 10).map rawT) := by
 intro k
 induction k with
 | zero =>
  intro m i h1 h2
  obtain ⟨m, rfl⟩ : ∃ j, m = j + 1 := ⟨m - 1, by omega⟩
  unfold Zao.l3 Zao.b3
  rw [decide_eq_false (by omega), cond_false]
  congr 2
  by_cases h : i ≤ 10
  ·rw [show min i 10 = i by omega, List.take_of_length_le (by omega), List.take_of_length_le (by omega)]
  ·rw [show min i 10 = 10 by omega]
 | succ k ih =>
  intro m i h1 h2
  obtain ⟨m, rfl⟩ : ∃ j, m = j + 1 := ⟨m - 1, by omega⟩
  have hi : i < l.length := by omega
  have e1 : IntKind.i64.wrap ((i : Int) + 1) = ((i + 1 : Nat) : Int) := wrap_i64 (by omega) (by omega)
  have := ih m (i + 1) (by omega) (by omega)
  unfold Zao.l3 Zao.b3
  rw [decide_eq_true (by omega), cond_true, ZcQ hi, ixRT hi]
  simp only [raw_eq, chk, cond_true, Option.bind_some, e1]
  by_cases h30 : (i : Int) < 10
  ·have e2 : apOk ((l.take (min i 10)).map rawT) [rawT l[i]] 48 = true := ZsS (by simp; omega)
   have e3 : (((l[i].1, l[i].2.1, rawV l[i].2.2.1, ()) : Te)) = rawT l[i] := rfl
   simp only [decide_eq_true h30, cond_true, e3, e2]
   rw [show min (i + 1) 10 = i + 1 by omega, List.take_succ_eq_append_getElem hi, List.map_append] at this
   rw [show min i 10 = i by omega]
   exact this
  ·simp only [decide_eq_false h30, cond_false]
   rw [show min (i + 1) 10 = 10 by omega] at this
   rw [show min i 10 = 10 by omega]
   exact this
def rawP (x : Bool × Int × List RT × Unit) : Pd := (x.1, x.2.1, (x.2.2.1.take 10).map rawT, ())
theorem Zrc (fu : Nat) (x : Bool × Int × List RT × Unit) (hl : x.2.2.1.length ≤ 140737488355328) (hfu : x.2.2.1.length < fu) : Zao fu x = some (rawP x, ()) := by
 unfold Zao
 have := Zmg fu (fun c1q2 c1q2x2 c1q2x3 c2q2 c2q2x2 c2q2x3 => some ((c2q2, c2q2x2, c2q2x3, ()), ())) x.2.2.1 hl false x.1 0 x.2.1 [] x.2.2.1.length fu 0 (by omega) hfu
 rw [show min 0 10 = 0 from rfl, List.take_zero, List.map_nil] at this
 exact this
theorem Zjm (fu : Nat) (k2 : Int → Option (Bool × Unit)) (p : Pd) (hl : p.2.2.1.length ≤ 40) : ∀ (k m i : Nat) (n : Int), i + k = p.2.2.1.length → k < m → ∃ n', ZaB.l5 fu k2 m n p.2.2.1.length i p = k2 n' := by
 intro k
 induction k with
 | zero =>
  intro m i n h1 h2
  obtain ⟨m, rfl⟩ : ∃ j, m = j + 1 := ⟨m - 1, by omega⟩
  unfold ZaB.l5 ZaB.b5
  rw [decide_eq_false (by omega), cond_false]
  exact ⟨n, rfl⟩
 | succ k ih =>
  intro m i n h1 h2
  obtain ⟨m, rfl⟩ : ∃ j, m = j + 1 := ⟨m - 1, by omega⟩
  have hi : i < p.2.2.1.length := by omega
  have e1 : IntKind.i64.wrap ((i : Int) + 1) = ((i + 1 : Nat) : Int) := wrap_i64 (by omega) (by omega)
  unfold ZaB.l5 ZaB.b5
  rw [decide_eq_true (by omega), cond_true, ZcQ hi, ixT hi]
  simp only [chk, cond_true, e1]
  exact ih m (i + 1) _ (by omega) (by omega)
theorem ZjO (fu : Nat) (hfu : 50 ≤ fu) (p : Pd) : ∃ g, ZaB fu p = some (g, ()) := by
 unfold ZaB
 by_cases h : (p.2.2.1.length : Int) > 20
 ·exact ⟨true, by simp only [decide_eq_true h, cond_true]⟩
 ·obtain ⟨n', hn⟩ := Zjm fu (fun nq2 => some (decide (nq2 > (3000 : Int)), ())) p (by omega) p.2.2.1.length fu 0 p.2.2.1.length (by omega) (by omega)
  refine ⟨decide (n' > (3000 : Int)), ?_⟩
  simp only [decide_eq_false h, cond_false]
  exact hn
def okT (l : List Te) : Prop := ∀ t ∈ l, F64 t.2.2.1.2.2.1
theorem ZkS {x : Bool × Int × List RT × Unit} (h : kS5.ok x) : okT (rawP x).2.2.1 ∧ (rawP x).2.2.1.length ≤ 10 ∧ x.2.2.1.length ≤ 140737488355328 := by
 obtain ⟨-, -, h2, -⟩ := h
 refine ⟨?_, by simp [rawP]; omega, ?_⟩
 ·intro v hv
  obtain ⟨w, hw, rfl⟩ := List.mem_map.1 hv
  obtain ⟨-, -, ⟨-, -, k3, -⟩, -⟩ := h2.2 w (List.mem_of_mem_take hw)
  have k3 : 0 ≤ w.2.2.1.2.2.1 ∧ w.2.2.1.2.2.1 < 18446744073709551616 := ZsN k3
  show w.2.2.1.2.2.1.toNat < _
  omega
 ·have hb : x.2.2.1.length * 1 ≤ x.2.2.1.length * (Kd.bytes kS4) := Nat.mul_le_mul_left _ (by decide)
  have hr : reachBytes = 140737488351232 + 4096 - 4096 := by decide
  have : x.2.2.1.length * (Kd.bytes kS4) ≤ reachBytes := h2.1
  omega
def ZnS (t : Te) : Prop := (0 ≤ t.1 ∧ t.1 ≤ 255) ∧ (0 ≤ t.2.1 ∧ t.2.1 ≤ 255) ∧ vaFit t.2.2.1 ∧ 0 ≤ t.2.2.1.1
def Zct (t : Te) : Bool := mayV t.2.2.1 && (if t.2.1 = 7 then decide (t.2.2.1.1 = 0) else if t.2.1 = 8 then decide (t.2.2.1.1 = 3) else decide (1 ≤ t.2.1) && (decide (t.2.1 ≤ 6) && !decide (t.2.2.1.1 = 0)))
theorem ZcD (x y : Int) : (x == y) = decide (x = y) := rfl
theorem Zdh (x y : Int) : (x != y) = !decide (x = y) := rfl
theorem Zhm (fu : Nat) (t : Te) (h : ZnS t) : Zbt fu t = some (Zct t, ()) := by
 unfold Zbt Zct
 rw [Zjd fu _ h.2.2.1.2]
 simp only [Option.bind_some, ZcD, Zdh]
 cases mayV t.2.2.1 with
 | false => rfl
 | true =>
  simp only [Bool.not_true, cond_false, Bool.true_and]
  by_cases h7 : t.2.1 = 7
  ·simp [h7]
  ·by_cases h8 : t.2.1 = 8
   ·simp [h8]
   ·simp only [decide_eq_false h7, decide_eq_false h8, if_neg h7, if_neg h8, cond_false]
    by_cases h1 : 1 ≤ t.2.1
    ·rw [decide_eq_true (show t.2.1 ≥ 1 from h1)]
     by_cases h6 : t.2.1 ≤ 6
     ·rw [decide_eq_true h6]; rfl
     ·rw [decide_eq_false h6]; rfl
    ·rw [decide_eq_false (show ¬ t.2.1 ≥ 1 from h1)]; rfl
theorem ZnB (fu : Nat) (t : Te) (h : ZnS t) : Zbw fu t = some (Zct t, ()) := by
 unfold Zbw Zct
 rw [Zmj fu _ h.2.2.1.2]
 simp only [Option.bind_some, ZcD, Zdh]
 by_cases h1 : t.2.1 < 1
 ·rw [decide_eq_true h1, if_neg (by omega), if_neg (by omega), decide_eq_false (show ¬ 1 ≤ t.2.1 by omega)]
  simp
 ·rw [decide_eq_false h1, decide_eq_true (show 1 ≤ t.2.1 by omega)]
  by_cases h8 : t.2.1 > 8
  ·rw [decide_eq_true h8, if_neg (by omega), if_neg (by omega), decide_eq_false (show ¬ t.2.1 ≤ 6 by omega)]
   simp
  ·rw [decide_eq_false h8]
   cases mayV t.2.2.1 with
   | false => rfl
   | true =>
    simp only [Bool.not_true, cond_false, Bool.true_and]
    by_cases h7 : t.2.1 = 7
    ·simp [h7]
    ·by_cases h8 : t.2.1 = 8
     ·simp [h8]
     ·rw [decide_eq_true (show t.2.1 ≤ 6 by omega)]
      simp only [decide_eq_false h7, decide_eq_false h8, if_neg h7, if_neg h8, cond_false, Bool.true_and]
theorem Zjp (fu : Nat) (k1 : Int → Option ((Int × Unit) × (Unit))) (k2 : Unit → Option ((Int × Unit) × (Unit))) (l : List Te) (hv : ∀ v ∈ l, ZnS v) (hl : l.length ≤ 1000) : ∀ (k m i : Nat), i + k = l.length → k < m →
  ((l.drop i).all Zct = true → Zae.l2 fu k1 k2 m l l.length i = k2 ()) ∧ ((l.drop i).all Zct = false → ∃ j : Nat, Zae.l2 fu k1 k2 m l l.length i = k1 j) := by
 intro k
 induction k with
 | zero =>
  intro m i h1 h2
  obtain ⟨m, rfl⟩ : ∃ j, m = j + 1 := ⟨m - 1, by omega⟩
  rw [List.drop_eq_nil_of_le (by omega)]
  refine ⟨fun _ => ?_, fun h => absurd h (by decide)⟩
  unfold Zae.l2 Zae.b2
  rw [decide_eq_false (by omega), cond_false]
 | succ k ih =>
  intro m i h1 h2
  obtain ⟨m, rfl⟩ : ∃ j, m = j + 1 := ⟨m - 1, by omega⟩
  have hi : i < l.length := by omega
  have e1 : IntKind.i64.wrap ((i : Int) + 1) = ((i + 1 : Nat) : Int) := wrap_i64 (by omega) (by omega)
  have := ih m (i + 1) (by omega) (by omega)
  rw [Zcl hi]
  unfold Zae.l2 Zae.b2 Zci
  rw [decide_eq_true (by omega), cond_true, ZcQ hi, ixT hi]
  simp only [Zhm fu _ (hv _ (List.getElem_mem hi)), chk, cond_true, Option.bind_some, e1, List.all_cons]
  cases hm : Zct l[i] with
  | true => simpa using this
  | false => simp only [Bool.false_and, Bool.not_false, cond_true]; exact ⟨fun h => (nomatch h), fun _ => ⟨i, rfl⟩⟩
def Zjt (p : Pd) : Prop := ∀ t ∈ p.2.2.1, ZnS t
def mayP (p : Pd) : Bool := !(p.1 && !decide (p.2.1 = 0)) && (decide (p.2.2.1.length ≤ 4) && p.2.2.1.all Zct)
theorem Zkl (fu : Nat) (l : List Te) (hv : ∀ v ∈ l, ZnS v) (hl : l.length ≤ 1000) (hfu : l.length < fu) : ZaC fu l = some ((!(l.all Zct), ()), ()) := by
 have := Zjp fu (fun vq3 => some ((vq3, ()), (()))) (fun _ => some (((-1 : Int), ()), (()))) l hv hl l.length fu 0 (by omega) (by omega)
 rw [List.drop_zero] at this
 unfold ZaC Zae
 rw [show ((0 : Int)) = ((0 : Nat) : Int) from rfl]
 cases hm : l.all Zct with
 | true => rw [this.1 hm]; rfl
 | false =>
  obtain ⟨j, hj⟩ := this.2 hm
  rw [hj]
  simp only [Option.bind_some, decide_eq_true (show (j : Int) ≥ ((0 : Nat) : Int) by omega), Bool.not_false]
theorem ZgT (fu : Nat) (hfu : 10 ≤ fu) (p : Pd) (hp : Zjt p) : Zce fu p = some (mayP p, ()) := by
 unfold Zce mayP
 have tail : (cond (decide ((p.2.2.1.length : Int) > 4)) (some (false, ())) ((ZaC fu p.2.2.1).bind fun r2 => some (!r2.1.1, ()))) = some (decide (p.2.2.1.length ≤ 4) && p.2.2.1.all Zct, ()) := by
  by_cases h : p.2.2.1.length ≤ 4
  ·rw [decide_eq_false (show ¬ (p.2.2.1.length : Int) > 4 by omega), decide_eq_true h, Zkl fu _ hp (by omega) (by omega)]
   simp
  ·rw [decide_eq_true (show (p.2.2.1.length : Int) > 4 by omega), decide_eq_false h]; rfl
 simp only [Zdh, tail]
 cases p.1 with
 | false => rfl
 | true =>
  by_cases h : p.2.1 = 0
  ·simp [h]
  ·simp [h]
theorem ZiO (fu : Nat) (k1 : Bool → Option (Bool × Unit)) (k2 : Pd → Option (Bool × Unit)) (p : Pd) (hv : Zjt p) (hl : p.2.2.1.length ≤ 1000) : ∀ (k m i : Nat), i + k = p.2.2.1.length → k < m →
  ZaJ.l2 fu k1 k2 m p.2.2.1.length i p = if (p.2.2.1.drop i).all Zct = true then k2 p else k1 false := by
 intro k
 induction k with
 | zero =>
  intro m i h1 h2
  obtain ⟨m, rfl⟩ : ∃ j, m = j + 1 := ⟨m - 1, by omega⟩
  rw [List.drop_eq_nil_of_le (by omega)]
  unfold ZaJ.l2 ZaJ.b2
  rw [decide_eq_false (by omega), cond_false]
  rfl
 | succ k ih =>
  intro m i h1 h2
  obtain ⟨m, rfl⟩ : ∃ j, m = j + 1 := ⟨m - 1, by omega⟩
  have hi : i < p.2.2.1.length := by omega
  have e1 : IntKind.i64.wrap ((i : Int) + 1) = ((i + 1 : Nat) : Int) := wrap_i64 (by omega) (by omega)
  have := ih m (i + 1) (by omega) (by omega)
  rw [Zcl hi]
  unfold ZaJ.l2 ZaJ.b2
  rw [decide_eq_true (by omega), cond_true, ZcQ hi, ixT hi]
  simp only [ZnB fu _ (hv _ (List.getElem_mem hi)), chk, cond_true, Option.bind_some, e1, List.all_cons]
  by_cases hm : Zct p.2.2.1[i] = true
  ·simp only [hm, Bool.not_true, cond_false, Bool.true_and]; exact this
  ·have hm' : Zct p.2.2.1[i] = false := by simpa using hm
   simp [hm']
theorem ZgU (fu : Nat) (hfu : 50 ≤ fu) (p : Pd) (hp : Zjt p) (hl : p.2.2.1.length ≤ 30) : ZaJ fu p = some (mayP p, ()) := by
 unfold ZaJ mayP
 have := ZiO fu (fun vq3 => some (vq3, ())) (fun b0q4 => cond (decide ((b0q4.2.2.1.length : Int) ≤ (4 : Int))) (cond b0q4.1 (some (!(b0q4.2.1 != (0 : Int)), ())) (some (true, ()))) (some (false, ()))) p hp (by omega) p.2.2.1.length fu 0 (by omega) (by omega)
 rw [List.drop_zero] at this
 refine Eq.trans this ?_
 have q : decide ((p.2.2.1.length : Int) ≤ 4) = decide (p.2.2.1.length ≤ 4) := by
  by_cases hs : p.2.2.1.length ≤ 4
  ·rw [decide_eq_true hs, decide_eq_true (by omega)]
  ·rw [decide_eq_false hs, decide_eq_false (by omega)]
 cases hm : p.2.2.1.all Zct with
 | true =>
  simp only [if_true, q, Bool.and_true, Zdh]
  cases decide (p.2.2.1.length ≤ 4) <;> cases p.1 <;> cases decide (p.2.1 = 0) <;> rfl
 | false => simp
abbrev No : Type := Int × Pd × Bool × Pd × Int × Int × Int × Unit
def siz (x : No) : Int := x.2.2.2.2.2.2.1
theorem ixN {l : List No} {i : Nat} (h : i < l.length) : ixL ((0 : Int), (false, (0 : Int), ([] : List Te), ()), false, (false, (0 : Int), ([] : List Te), ()), (0 : Int), (0 : Int), (0 : Int), ()) l i = l[i] := by
 unfold ixL
 simp [List.getElem?_eq_getElem h]
theorem ixT0 {l : List (Tr No)} {d : Tr No} {i : Nat} (h : i < l.length) : ixL d l i = l[i] := by
 unfold ixL
 simp [List.getElem?_eq_getElem h]
def ZcT : List No → Option (List (List No))
 | [] => some []
 | x :: r => if 0 ≤ siz x ∧ siz x < (r.length : Int) + 1 then (ZcT (r.drop (siz x).toNat)).map ((x :: r.take (siz x).toNat) :: ·) else none
termination_by l => l.length
decreasing_by simp; omega
def ZaU : List No → Option (List (Tr No))
 | [] => some []
 | x :: r => if 0 ≤ siz x ∧ siz x < (r.length : Int) + 1 then (ZaU (r.take (siz x).toNat)).bind fun s => (ZaU (r.drop (siz x).toNat)).map fun q => Tr.mk x s :: q else none
termination_by l => l.length
decreasing_by
 ·simp; omega
 ·simp; omega
theorem Zbe : ZaU [] = some [] := by rw [ZaU]
theorem Zdt : ZcT [] = some [] := by rw [ZcT]
theorem Zfw : ∀ (n : Nat) (l : List No) (s : List (Tr No)), l.length ≤ n → ZaU l = some s → (s = [] ↔ l = []) ∧ s.length ≤ l.length := by
 intro n
 induction n with
 | zero =>
  intro l s hl h
  obtain rfl : l = [] := List.eq_nil_of_length_eq_zero (by omega)
  rw [Zbe] at h
  cases h
  simp
 | succ n ih =>
  intro l s hl h
  cases l with
  | nil => rw [Zbe] at h; cases h; simp
  | cons x r =>
   rw [ZaU] at h
   split at h
   ·rename_i hx
    obtain ⟨s1, h1, h⟩ := Option.bind_eq_some_iff.1 h
    obtain ⟨q, h2, h⟩ := Option.map_eq_some_iff.1 h
    subst h
    have := ih _ _ (by simp at hl ⊢; omega) h2
    simp at this ⊢
    omega
   ·cases h
def Zdd (p : Pd) : Bool := !p.1 && (decide (p.2.1 = 0) && decide (p.2.2.1.length = 0))
def ZcX (x : No) (k : Nat) (z : Bool) : Bool :=
 (x.2.2.1 || Zdd x.2.2.2.1) &&
 (if x.1 = 1 then decide (x.2.2.2.2.1 = 0) && (decide (x.2.2.2.2.2.1 = 0) && (!x.2.2.1 && z))
  else Zdd x.2.1 && (if x.1 = 2 then decide (x.2.2.2.2.1 = 0) && (decide (x.2.2.2.2.2.1 = 0) && decide (2 ≤ k))
   else if x.1 = 3 then decide (x.2.2.2.2.1 = 0) && (decide (x.2.2.2.2.2.1 = 0) && (decide (2 ≤ k) && !x.2.2.1))
   else if x.1 = 4 then decide (k = 1) && (decide (1 ≤ x.2.2.2.2.1) && (decide (x.2.2.2.2.1 ≤ x.2.2.2.2.2.1) && decide (x.2.2.2.2.2.1 ≤ 8)))
   else false))
mutual
def frm : Tr No → Bool
 | ⟨x, l⟩ => ZcX x l.length (decide (l.length = 0)) && frmL l
def frmL : List (Tr No) → Bool
 | [] => true
 | t :: r => frm t && frmL r
end
mutual
def dep : Tr No → Int
 | ⟨_, l⟩ => depL l 0
def depL : List (Tr No) → Int → Int
 | [], a => a
 | t :: r, a => depL r (max2 a (IntKind.i64.wrap (dep t + 1)))
end
def fin2 (x : No) (n : Int) : Int := if x.1 = 4 then IntKind.i64.wrap (n * IntKind.i64.wrap x.2.2.2.2.2.1) else n
mutual
def plc : Tr No → Int
 | ⟨x, l⟩ => if l.length = 0 then 1 else fin2 x (plcL l 0)
def plcL : List (Tr No) → Int → Int
 | [], a => a
 | t :: r, a => plcL r (IntKind.i64.wrap (a + plc t))
end
mutual
def tsz : Tr No → Nat
 | ⟨_, l⟩ => 1 + tszL l
def tszL : List (Tr No) → Nat
 | [] => 0
 | t :: r => tsz t + tszL r
end
theorem Zgf : ∀ (n : Nat) (l : List No) (s : List (Tr No)), l.length ≤ n → ZaU l = some s → tszL s = l.length := by
 intro n
 induction n with
 | zero =>
  intro l s hl h
  obtain rfl : l = [] := List.eq_nil_of_length_eq_zero (by omega)
  rw [Zbe] at h
  cases h
  simp [tszL]
 | succ n ih =>
  intro l s hl h
  cases l with
  | nil => rw [Zbe] at h; cases h; simp [tszL]
  | cons x r =>
   rw [ZaU] at h
   split at h
   ·rename_i hx
    obtain ⟨s1, h1, h⟩ := Option.bind_eq_some_iff.1 h
    obtain ⟨q, h2, h⟩ := Option.map_eq_some_iff.1 h
    subst h
    have e1 := ih _ _ (by simp at hl ⊢; omega) h1
    have e2 := ih _ _ (by simp at hl ⊢; omega) h2
    simp [tszL, tsz, e1, e2]
    omega
   ·cases h
theorem ZgX : ∀ {l : List (Tr No)} {t : Tr No}, t ∈ l → tsz t ≤ tszL l
 | _ :: r, t, h => by
  rcases List.mem_cons.1 h with rfl | h
  ·simp [tszL]
  ·have := ZgX h
   simp [tszL]; omega
theorem Zgb : ∀ (l : List (Tr No)), l.length ≤ tszL l
 | [] => by simp
 | ⟨_, _⟩ :: r => by
  have := Zgb r
  simp [tszL, tsz]; omega
theorem apOk24 {xs ys : List (List No)} (h : xs.length + ys.length ≤ 100000) : apOk xs ys 24 = true := by
 have hL : (10000000 : Nat) ≤ LIM := by decide
 unfold apOk
 exact decide_eq_true (by omega)
def endC (k1 k2 : List (List No) → Option ((List (List No)) × Unit)) (out : List (List No)) : Option (List (List No)) → Option ((List (List No)) × Unit)
 | none => k1 []
 | some cs => k2 (out ++ cs)
theorem Zmd (fu : Nat) (k1 k2 : List (List No) → Option ((List (List No)) × Unit)) : ∀ (n : Nat) (rest : List No) (m : Nat) (out : List (List No)), rest.length ≤ n → n < m → out.length + n ≤ 1000 →
  Zax.l5 fu k1 k2 m out rest = endC k1 k2 out (ZcT rest) := by
 intro n
 induction n with
 | zero =>
  intro rest m out h1 h2 h3
  obtain ⟨m, rfl⟩ : ∃ j, m = j + 1 := ⟨m - 1, by omega⟩
  obtain rfl : rest = [] := List.eq_nil_of_length_eq_zero (by omega)
  rw [Zdt]
  unfold Zax.l5 Zax.b5 endC
  simp
 | succ n ih =>
  intro rest m out h1 h2 h3
  obtain ⟨m, rfl⟩ : ∃ j, m = j + 1 := ⟨m - 1, by omega⟩
  cases rest with
  | nil =>
   rw [Zdt]
   unfold Zax.l5 Zax.b5 endC
   simp
  | cons x r =>
   simp only [List.length_cons] at h1
   have i0 : ixOk (x :: r) (0 : Int) = true := ZcQ (i := 0) (by simp)
   have i1 : ixL ((0 : Int), (false, (0 : Int), ([] : List Te), ()), false, (false, (0 : Int), ([] : List Te), ()), (0 : Int), (0 : Int), (0 : Int), ()) (x :: r) (0 : Int) = x := ixN (i := 0) (by simp)
   rw [ZcT]
   unfold Zax.l5 Zax.b5
   simp only [decide_eq_true (show (((x :: r).length : Nat) : Int) > 0 by rw [List.length_cons]; omega), cond_true, i0, i1, chk]
   rw [show x.2.2.2.2.2.2.1 = siz x from rfl]
   by_cases hx : 0 ≤ siz x ∧ siz x < (r.length : Int) + 1
   ·rw [if_pos hx]
    obtain ⟨s, hs⟩ : ∃ s : Nat, siz x = s := ⟨(siz x).toNat, by omega⟩
    rw [hs] at hx ⊢
    have hsr : s ≤ r.length := by omega
    have e1 : IntKind.i64.wrap ((s : Int) + 1) = ((s + 1 : Nat) : Int) := by rw [wrap_i64 (by omega) (by omega)]; omega
    have c1 : cut3 (x :: r) (0 : Int) ((s + 1 : Nat) : Int) ((s + 1 : Nat) : Int) = true := by
     unfold cut3; simp; omega
    have c2 : ZfE (x :: r) ((s + 1 : Nat) : Int) (((x :: r).length : Nat) : Int) = true := by
     unfold ZfE; simp; omega
    have c3 : cutL (x :: r) (0 : Int) ((s + 1 : Nat) : Int) = x :: r.take s := by
     unfold cutL
     rw [show ((s + 1 : Nat) : Int) - 0 = ((s + 1 : Nat) : Int) by omega, Int.toNat_natCast]
     rfl
    have c4 : cutL (x :: r) ((s + 1 : Nat) : Int) (((x :: r).length : Nat) : Int) = r.drop s := by
     unfold cutL
     rw [Int.toNat_natCast, List.drop_succ_cons, List.take_of_length_le (by simp; omega)]
    have c5 : apOk out [x :: r.take s] 24 = true := apOk24 (by simp; omega)
    simp only [decide_eq_false (show ¬ (s : Int) < 0 by omega), decide_eq_false (show ¬ (s : Int) ≥ (((x :: r).length : Nat) : Int) by simp; omega), cond_false, cond_true, e1, c1, c2, c3, c4, c5, Int.toNat_natCast]
    rw [ih (r.drop s) m (out ++ [x :: r.take s]) (by simp; omega) (by omega) (by simp; omega)]
    cases ZcT (r.drop s) with
    | none => rfl
    | some cs => simp [endC]
   ·rw [if_neg hx]
    by_cases h0 : siz x < 0
    ·simp only [decide_eq_true h0, cond_true]; rfl
    ·simp only [decide_eq_false h0, cond_false, decide_eq_true (show siz x ≥ (((x :: r).length : Nat) : Int) by simp; omega), cond_true]; rfl
def ZeY : List No → List (List No)
 | [] => []
 | x :: r => if siz x = (r.length : Int) then (ZcT r).getD [] else []
theorem ZeR (x : No) (r : List No) : ZeY (x :: r) = if siz x = (r.length : Int) then (ZcT r).getD [] else [] := rfl
theorem Zol (l : List No) : ((l.length : Int) == 0) = decide (l = []) := by
 cases l with
 | nil => rfl
 | cons x r =>
  rw [decide_eq_false (by simp)]
  exact ZbL (by simp; omega)
theorem ZdJ (fu : Nat) (l : List No) (hl : l.length ≤ 900) (hfu : 1000 ≤ fu) : Zax fu l = some (ZeY l, ()) := by
 unfold Zax
 simp only [Zol]
 cases l with
 | nil => rfl
 | cons x r =>
  simp only [List.length_cons] at hl
  have i0 : ixOk (x :: r) (0 : Int) = true := ZcQ (i := 0) (by simp)
  have i1 : ixL ((0 : Int), (false, (0 : Int), ([] : List Te), ()), false, (false, (0 : Int), ([] : List Te), ()), (0 : Int), (0 : Int), (0 : Int), ()) (x :: r) (0 : Int) = x := ixN (i := 0) (by simp)
  have e1 : IntKind.i64.wrap ((((x :: r).length : Nat) : Int) - 1) = (r.length : Int) := by rw [List.length_cons, wrap_i64 (by omega) (by omega)]; omega
  have c1 : ZfE (x :: r) (1 : Int) (((x :: r).length : Nat) : Int) = true := by unfold ZfE; simp; omega
  have c2 : cutL (x :: r) (1 : Int) (((x :: r).length : Nat) : Int) = r := by
   unfold cutL
   rw [show (1 : Int).toNat = 1 from rfl, List.drop_succ_cons, List.drop_zero, List.take_of_length_le (by simp)]
  rw [decide_eq_false (by simp)]
  simp only [cond_false, i0, i1, e1, c1, c2, chk, cond_true, Zdh]
  rw [show x.2.2.2.2.2.2.1 = siz x from rfl]
  unfold ZeY
  by_cases hx : siz x = (r.length : Int)
  ·simp only [decide_eq_true hx, Bool.not_true, cond_false, if_pos hx]
   rw [Zmd fu _ _ r.length r fu [] (by omega) (by omega) (by simp; omega)]
   cases ZcT r <;> rfl
  ·simp only [decide_eq_false hx, Bool.not_false, cond_true, if_neg hx]
theorem Zjc (fu : Nat) (p : Pd) : ZbS fu p = some (Zdd p, ()) := by
 unfold ZbS Zdd
 have : ((p.2.2.1.length : Int) == 0) = decide (p.2.2.1.length = 0) := by
  rw [ZcD]
  by_cases h : p.2.2.1.length = 0
  ·rw [decide_eq_true h, decide_eq_true (by omega)]
  ·rw [decide_eq_false h, decide_eq_false (by omega)]
 simp only [this, ZcD]
 cases p.1 <;> cases decide (p.2.1 = 0) <;> rfl
theorem ZjU (fu : Nat) (p : Pd) : ZbA fu p = some (Zdd p, ()) := Zjc fu p
theorem Zmx (fu : Nat) (x : No) (k : Nat) : Zau fu x (k : Int) = some (ZcX x k (decide (siz x = 0)), ()) := by
 have k1 : decide ((k : Int) ≥ 2) = decide (2 ≤ k) := by
  by_cases h : 2 ≤ k
  ·rw [decide_eq_true h, decide_eq_true (by omega)]
  ·rw [decide_eq_false h, decide_eq_false (by omega)]
 have k2 : ((k : Int) == 1) = decide (k = 1) := by
  rw [ZcD]
  by_cases h : k = 1
  ·rw [decide_eq_true h, decide_eq_true (by omega)]
  ·rw [decide_eq_false h, decide_eq_false (by omega)]
 unfold Zau Zau.j2 Zau.j4 ZcX siz
 simp only [Zjc, Option.bind_some, k1, k2, ZcD, Zdh, ge_iff_le]
 by_cases h1 : x.1 = 1
 ·simp only [h1, decide_true, if_true, Bool.not_true, cond_false, cond_true]
  cases x.2.2.1 <;> cases Zdd x.2.2.2.1 <;> cases decide (x.2.2.2.2.1 = 0) <;> cases decide (x.2.2.2.2.2.1 = 0) <;> cases decide (x.2.2.2.2.2.2.1 = 0) <;> rfl
 ·simp only [if_neg h1, decide_eq_false h1, Bool.not_false, cond_true, cond_false]
  by_cases h2 : x.1 = 2
  ·simp only [h2, decide_true, if_true, cond_true]
   cases x.2.2.1 <;> cases Zdd x.2.2.2.1 <;> cases Zdd x.2.1 <;> cases decide (x.2.2.2.2.1 = 0) <;> cases decide (x.2.2.2.2.2.1 = 0) <;> cases decide (2 ≤ k) <;> rfl
  ·simp only [if_neg h2, decide_eq_false h2, cond_false]
   by_cases h3 : x.1 = 3
   ·simp only [h3, decide_true, if_true, cond_true]
    cases x.2.2.1 <;> cases Zdd x.2.2.2.1 <;> cases Zdd x.2.1 <;> cases decide (x.2.2.2.2.1 = 0) <;> cases decide (x.2.2.2.2.2.1 = 0) <;> cases decide (2 ≤ k) <;> rfl
   ·simp only [if_neg h3, decide_eq_false h3, cond_false]
    by_cases h4 : x.1 = 4
    ·simp only [h4, decide_true, if_true, cond_true]
     cases x.2.2.1 <;> cases Zdd x.2.2.2.1 <;> cases Zdd x.2.1 <;> cases decide (x.2.2.2.2.1 = 0) <;> cases decide (x.2.2.2.2.2.1 = 0) <;> cases decide (k = 1) <;> cases decide (1 ≤ x.2.2.2.2.1) <;> cases decide (x.2.2.2.2.1 ≤ x.2.2.2.2.2.1) <;> cases decide (x.2.2.2.2.2.1 ≤ 8) <;> rfl
    ·simp only [if_neg h4, decide_eq_false h4, cond_false]
     cases x.2.2.1 <;> cases Zdd x.2.2.2.1 <;> cases Zdd x.2.1 <;> cases decide (x.2.2.2.2.1 = 0) <;> cases decide (x.2.2.2.2.2.1 = 0) <;> rfl
def ZdK (l : List No) : Bool := match ZaU l with
 | some [t] => frm t
 | _ => false
theorem Zez {x : No} {a : List No} (h : siz x = a.length) : ZaU (x :: a) = (ZaU a).map fun s => [Tr.mk x s] := by
 rw [ZaU, if_pos (by omega), h, Int.toNat_natCast, List.take_of_length_le (Nat.le_refl _), List.drop_eq_nil_of_le (Nat.le_refl _), Zbe]
 cases ZaU a <;> rfl
def Spec (r : List No) : Option (List (List No)) → Prop
 | none => ZaU r = none
 | some cs => (∀ c ∈ cs, c.length ≤ r.length ∧ c ≠ []) ∧ match ZaU r with
  | some s => cs.map ZaU = s.map (fun t => some [t])
  | none => ∃ c ∈ cs, ZaU c = none
theorem ZfQ : ∀ (n : Nat) (r : List No), r.length ≤ n → Spec r (ZcT r) := by
 intro n
 induction n with
 | zero =>
  intro r h
  obtain rfl : r = [] := List.eq_nil_of_length_eq_zero (by omega)
  rw [Zdt]
  unfold Spec
  rw [Zbe]
  exact ⟨fun c hc => (nomatch hc), rfl⟩
 | succ n ih =>
  intro r h
  cases r with
  | nil =>
   rw [Zdt]
   unfold Spec
   rw [Zbe]
   exact ⟨fun c hc => (nomatch hc), rfl⟩
  | cons x r =>
   simp only [List.length_cons] at h
   rw [ZcT]
   by_cases hx : 0 ≤ siz x ∧ siz x < (r.length : Int) + 1
   ·rw [if_pos hx]
    have hf : ZaU (x :: r) = (ZaU (r.take (siz x).toNat)).bind fun s => (ZaU (r.drop (siz x).toNat)).map fun q => Tr.mk x s :: q := by rw [ZaU, if_pos hx]
    have h1 : ZaU (x :: r.take (siz x).toNat) = (ZaU (r.take (siz x).toNat)).map fun s => [Tr.mk x s] := Zez (by rw [List.length_take]; omega)
    have := ih (r.drop (siz x).toNat) (by simp; omega)
    have hlb : (r.take (siz x).toNat).length ≤ r.length := by rw [List.length_take]; omega
    generalize r.take (siz x).toNat = a at hf h1 hlb
    have hla : (r.drop (siz x).toNat).length ≤ r.length := by simp
    generalize r.drop (siz x).toNat = b at hf this hla
    unfold Spec
    cases hb : ZcT b with
    | none =>
     rw [hb] at this
     unfold Spec at this
     rw [this] at hf
     show ZaU (x :: r) = none
     rw [hf]
     cases ZaU a <;> rfl
    | some cs =>
     rw [hb] at this
     unfold Spec at this
     obtain ⟨g1, g2⟩ := this
     refine ⟨fun c hc => ?_, ?_⟩
     ·rcases List.mem_cons.1 hc with rfl | hc
      ·exact ⟨by simp; omega, by simp⟩
      ·have := g1 c hc
       exact ⟨by simp; omega, this.2⟩
     ·rw [hf]
      cases ha : ZaU a with
      | none => exact ⟨x :: a, List.mem_cons_self .., by rw [h1, ha]; rfl⟩
      | some s =>
       cases hfb : ZaU b with
       | none =>
        rw [hfb] at g2
        obtain ⟨c, hc, hn⟩ := g2
        exact ⟨c, List.mem_cons_of_mem _ hc, hn⟩
       | some q =>
        rw [hfb] at g2
        show ZaU (x :: a) :: cs.map ZaU = _
        rw [h1, ha, g2]; rfl
   ·rw [if_neg hx]
    unfold Spec
    rw [ZaU, if_neg hx]
theorem Zgg : ∀ (l : List (Tr No)), frmL l = l.all frm
 | [] => by rw [frmL]; rfl
 | t :: r => by rw [frmL, List.all_cons, Zgg r]
theorem Zin (x : No) (r : List No) : ZdK (x :: r) = (ZcX x (ZeY (x :: r)).length (decide (siz x = 0)) && (decide (siz x = r.length) && (ZeY (x :: r)).all ZdK)) := by
 by_cases hx : siz x = r.length
 ·have h1 : ZaU (x :: r) = (ZaU r).map fun s => [Tr.mk x s] := Zez hx
  have hs := ZfQ r.length r (Nat.le_refl _)
  rw [ZeR, if_pos hx, decide_eq_true hx, Bool.true_and]
  rw [show ZdK (x :: r) = (match (ZaU r).map fun s => [Tr.mk x s] with
   | some [t] => frm t
   | _ => false) by unfold ZdK; rw [h1]]
  cases hc : ZcT r with
  | none =>
   rw [hc] at hs
   unfold Spec at hs
   rw [hs]
   have hr : r ≠ [] := by
    intro e
    rw [e, Zdt] at hc
    cases hc
   have h0 : ¬ siz x = 0 := by
    have : 0 < r.length := List.length_pos_iff.2 hr
    omega
   show false = (ZcX x 0 (decide (siz x = 0)) && _)
   rw [decide_eq_false h0]
   unfold ZcX
   by_cases k1 : x.1 = 1
   ·simp [k1]
   ·by_cases k2 : x.1 = 2
    ·simp [k2]
    ·by_cases k3 : x.1 = 3
     ·simp [k3]
     ·by_cases k4 : x.1 = 4
      ·simp [k4]
      ·simp [k1, k2, k3, k4]
  | some cs =>
   rw [hc] at hs
   unfold Spec at hs
   obtain ⟨g1, g2⟩ := hs
   show _ = (ZcX x cs.length (decide (siz x = 0)) && cs.all ZdK)
   cases hf : ZaU r with
   | none =>
    rw [hf] at g2
    obtain ⟨c, hc, hn⟩ := g2
    have : cs.all ZdK = false := by
     rw [List.all_eq_false]
     refine ⟨c, hc, ?_⟩
     unfold ZdK
     rw [hn]
     simp
    rw [this, Bool.and_false]
    rfl
   | some s =>
    rw [hf] at g2
    have hl : cs.length = s.length := by
     have := congrArg List.length g2
     simpa using this
    have ha : cs.all ZdK = s.all frm := by
     have : ∀ (cs : List (List No)) (s : List (Tr No)), cs.map ZaU = s.map (fun t => some [t]) → cs.all ZdK = s.all frm := by
      intro cs
      induction cs with
      | nil =>
       intro s h
       cases s with
       | nil => rfl
       | cons _ _ => cases h
      | cons c cs ih =>
       intro s h
       cases s with
       | nil => cases h
       | cons t s =>
        simp only [List.map_cons, List.cons.injEq] at h
        rw [List.all_cons, List.all_cons, ih s h.2]
        unfold ZdK
        rw [h.1]
     exact this cs s g2
    have hz : decide (siz x = 0) = decide (s.length = 0) := by
     have := Zfw r.length r s (Nat.le_refl _) hf
     by_cases h0 : r = []
     ·have h9 := this.1.2 h0
      rw [hx, h9, h0]; rfl
     ·have h1 : s ≠ [] := fun e => h0 (this.1.1 e)
      have p1 : 0 < r.length := List.length_pos_iff.2 h0
      have p2 : 0 < s.length := List.length_pos_iff.2 h1
      rw [decide_eq_false (by omega), decide_eq_false (by omega)]
    show frm (Tr.mk x s) = _
    rw [frm, Zgg, ha, hl, hz]
 ·rw [decide_eq_false hx, Bool.false_and, Bool.and_false]
  unfold ZdK
  rw [ZaU]
  by_cases hy : 0 ≤ siz x ∧ siz x < (r.length : Int) + 1
  ·rw [if_pos hy]
   cases ZaU (r.take (siz x).toNat) with
   | none => rfl
   | some s =>
    cases hq : ZaU (r.drop (siz x).toNat) with
    | none => rfl
    | some q =>
     have := Zfw _ _ q (Nat.le_refl _) hq
     cases q with
     | nil =>
      have := this.1.1 rfl
      have : (r.drop (siz x).toNat).length = 0 := by rw [this]; rfl
      rw [List.length_drop] at this
      omega
     | cons t q => rfl
  ·rw [if_neg hy]
theorem Znp {x : No} {r : List No} {c : List No} (h : c ∈ ZeY (x :: r)) : c.length ≤ r.length ∧ c ≠ [] := by
 rw [ZeR] at h
 split at h
 ·have hs := ZfQ r.length r (Nat.le_refl _)
  cases hc : ZcT r with
  | none => rw [hc] at h; cases h
  | some cs =>
   rw [hc] at h hs
   exact hs.1 c h
 ·cases h
theorem ZoS : ∀ (n : Nat) (r : List No) (cs : List (List No)), r.length ≤ n → ZcT r = some cs → cs.length ≤ r.length := by
 intro n
 induction n with
 | zero =>
  intro r cs h hc
  obtain rfl : r = [] := List.eq_nil_of_length_eq_zero (by omega)
  rw [Zdt] at hc
  cases hc; simp
 | succ n ih =>
  intro r cs h hc
  cases r with
  | nil => rw [Zdt] at hc; cases hc; simp
  | cons x r =>
   rw [ZcT] at hc
   split at hc
   ·obtain ⟨q, h2, rfl⟩ := Option.map_eq_some_iff.1 hc
    have := ih _ _ (by simp at h ⊢; omega) h2
    simp at this ⊢
    omega
   ·cases hc
theorem ZgR (l : List No) : (ZeY l).length ≤ l.length := by
 cases l with
 | nil => simp [ZeY]
 | cons x r =>
  rw [ZeR]
  split
  ·cases hc : ZcT r with
   | none => simp
   | some cs =>
    have := ZoS r.length r cs (Nat.le_refl _) hc
    simp; omega
  ·simp
theorem ixC {l : List (List No)} {i : Nat} (h : i < l.length) : ixL ([] : List No) l i = l[i] := by
 unfold ixL
 simp [List.getElem?_eq_getElem h]
theorem Zkw (fu : Nat) (S : List No → Option (Bool × Unit)) (k1 : Int → Option ((Int × Unit) × (Unit))) (k2 : Unit → Option ((Int × Unit) × (Unit))) (l : List (List No)) (hv : ∀ c ∈ l, S c = some (ZdK c, ())) (hl : l.length ≤ 1000) : ∀ (k m i : Nat), i + k = l.length → k < m →
  ((l.drop i).all ZdK = true → Zaf.l2 fu S k1 k2 m l l.length i = k2 ()) ∧ ((l.drop i).all ZdK = false → ∃ j : Nat, Zaf.l2 fu S k1 k2 m l l.length i = k1 j) := by
 intro k
 induction k with
 | zero =>
  intro m i h1 h2
  obtain ⟨m, rfl⟩ : ∃ j, m = j + 1 := ⟨m - 1, by omega⟩
  rw [List.drop_eq_nil_of_le (by omega)]
  refine ⟨fun _ => ?_, fun h => absurd h (by decide)⟩
  unfold Zaf.l2 Zaf.b2
  rw [decide_eq_false (by omega), cond_false]
 | succ k ih =>
  intro m i h1 h2
  obtain ⟨m, rfl⟩ : ∃ j, m = j + 1 := ⟨m - 1, by omega⟩
  have hi : i < l.length := by omega
  have e1 : IntKind.i64.wrap ((i : Int) + 1) = ((i + 1 : Nat) : Int) := wrap_i64 (by omega) (by omega)
  have := ih m (i + 1) (by omega) (by omega)
  rw [Zcl hi]
  unfold Zaf.l2 Zaf.b2 Zbo
  rw [decide_eq_true (by omega), cond_true, ZcQ hi, ixC hi]
  simp only [hv _ (List.getElem_mem hi), chk, cond_true, Option.bind_some, e1, List.all_cons]
  cases hm : ZdK l[i] with
  | true => simpa using this
  | false => simp only [Bool.false_and, Bool.not_false, cond_true]; exact ⟨fun h => (nomatch h), fun _ => ⟨i, rfl⟩⟩
theorem Zlt (fu : Nat) (S : List No → Option (Bool × Unit)) (l : List (List No)) (hv : ∀ c ∈ l, S c = some (ZdK c, ())) (hl : l.length ≤ 1000) (hfu : l.length < fu) : ZaM fu S l = some ((!(l.all ZdK), ()), ()) := by
 have := Zkw fu S (fun vq3 => some ((vq3, ()), (()))) (fun _ => some (((-1 : Int), ()), (()))) l hv hl l.length fu 0 (by omega) (by omega)
 rw [List.drop_zero] at this
 unfold ZaM Zaf
 rw [show ((0 : Int)) = ((0 : Nat) : Int) from rfl]
 cases hm : l.all ZdK with
 | true => rw [this.1 hm]; rfl
 | false =>
  obtain ⟨j, hj⟩ := this.2 hm
  rw [hj]
  simp only [Option.bind_some, decide_eq_true (show (j : Int) ≥ ((0 : Nat) : Int) by omega), Bool.not_false]
theorem ZgA (fu : Nat) (hfu : 1000 ≤ fu) : ∀ (n : Nat) (l : List No) (m : Nat), l.length ≤ n → n ≤ 900 → n < m → ZaL fu m l = some (ZdK l, ()) := by
 intro n
 induction n with
 | zero =>
  intro l m h1 h2 h3
  obtain ⟨m, rfl⟩ : ∃ j, m = j + 1 := ⟨m - 1, by omega⟩
  obtain rfl : l = [] := List.eq_nil_of_length_eq_zero (by omega)
  show ZaL.bd fu (ZaL fu m) [] = _
  unfold ZaL.bd ZdK
  rw [ZdJ fu [] (by simp) hfu, Zbe]
  rfl
 | succ n ih =>
  intro l m h1 h2 h3
  obtain ⟨m, rfl⟩ : ∃ j, m = j + 1 := ⟨m - 1, by omega⟩
  show ZaL.bd fu (ZaL fu m) l = _
  unfold ZaL.bd
  rw [ZdJ fu l (by omega) hfu]
  simp only [Option.bind_some, Zol]
  cases l with
  | nil => unfold ZdK; rw [Zbe]; rfl
  | cons x r =>
   simp only [List.length_cons] at h1
   have i0 : ixOk (x :: r) (0 : Int) = true := ZcQ (i := 0) (by simp)
   have i1 : ixL ((0 : Int), (false, (0 : Int), ([] : List Te), ()), false, (false, (0 : Int), ([] : List Te), ()), (0 : Int), (0 : Int), (0 : Int), ()) (x :: r) (0 : Int) = x := ixN (i := 0) (by simp)
   have e1 : IntKind.i64.wrap ((((x :: r).length : Nat) : Int) - 1) = (r.length : Int) := by rw [List.length_cons, wrap_i64 (by omega) (by omega)]; omega
   have hpl := ZgR (x :: r)
   simp only [List.length_cons] at hpl
   rw [decide_eq_false (by simp)]
   simp only [cond_false, i0, i1, e1, chk, cond_true, Zdh, Zmx, Option.bind_some]
   rw [show x.2.2.2.2.2.2.1 = siz x from rfl, Zlt fu (ZaL fu m) (ZeY (x :: r)) (fun c hc => by
    have := Znp hc
    exact ih c m (by omega) (by omega) (by omega)) (by omega) (by omega), Zin]
   cases ZcX x (ZeY (x :: r)).length (decide (siz x = 0)) with
   | false => rfl
   | true =>
    simp only [Bool.not_true, cond_false, Bool.true_and, Option.bind_some]
    by_cases hx : siz x = r.length
    ·rw [decide_eq_true hx]; simp
    ·rw [decide_eq_false hx]; rfl
theorem Zli {l : List No} {t : Tr No} (h : ZaU l = some [t]) : ∃ x r s cs, l = x :: r ∧ siz x = r.length ∧ t = Tr.mk x s ∧ ZaU r = some s ∧ ZeY l = cs ∧ cs.map ZaU = s.map (fun t => some [t]) ∧ ∀ c ∈ cs, c.length ≤ r.length := by
 cases l with
 | nil => rw [Zbe] at h; cases h
 | cons x r =>
  by_cases hx : siz x = r.length
  ·have h1 := Zez hx
   rw [h] at h1
   cases hf : ZaU r with
   | none => rw [hf] at h1; cases h1
   | some s =>
    rw [hf] at h1
    simp only [Option.map_some, Option.some.injEq, List.cons.injEq, and_true] at h1
    have hs := ZfQ r.length r (Nat.le_refl _)
    cases hc : ZcT r with
    | none => rw [hc] at hs; unfold Spec at hs; rw [hf] at hs; cases hs
    | some cs =>
     rw [hc] at hs
     unfold Spec at hs
     rw [hf] at hs
     exact ⟨x, r, s, cs, rfl, hx, h1, hf, by rw [ZeR, if_pos hx, hc]; rfl, hs.2, fun c hc => (hs.1 c hc).1⟩
  ·have := Zin x r
   exfalso
   rw [ZaU] at h
   split at h
   ·obtain ⟨s, h1, h⟩ := Option.bind_eq_some_iff.1 h
    obtain ⟨q, h2, h⟩ := Option.map_eq_some_iff.1 h
    have := Zfw _ _ q (Nat.le_refl _) h2
    simp only [List.cons.injEq] at h
    have h3 := this.1.1 h.2
    have : (r.drop (siz x).toNat).length = 0 := by rw [h3]; rfl
    rw [List.length_drop] at this
    omega
   ·cases h
theorem Zne {cs : List (List No)} {s : List (Tr No)} (h : cs.map ZaU = s.map (fun t => some [t])) : cs.length = s.length ∧ ∀ i (h1 : i < cs.length) (h2 : i < s.length), ZaU cs[i] = some [s[i]] := by
 have hl : cs.length = s.length := by simpa using congrArg List.length h
 refine ⟨hl, fun i h1 h2 => ?_⟩
 have : (cs.map ZaU)[i]? = (s.map (fun t => some [t]))[i]? := by rw [h]
 simpa [List.getElem?_eq_getElem h1, List.getElem?_eq_getElem h2] using this
theorem ZmM (fu : Nat) (S : List No → Option (Int × Unit)) (k2 : Int → Option (Int × Unit)) (cs : List (List No)) (s : List (Tr No)) (hl : cs.length = s.length) (hm : cs.length ≤ 1000) (hv : ∀ i (h1 : i < cs.length) (h2 : i < s.length), S cs[i] = some (dep s[i], ())) : ∀ (k m i : Nat) (n : Int), i + k = cs.length → k < m →
  ZaE.l3 fu S k2 m n cs cs.length i = k2 (depL (s.drop i) n) := by
 intro k
 induction k with
 | zero =>
  intro m i n h1 h2
  obtain ⟨m, rfl⟩ : ∃ j, m = j + 1 := ⟨m - 1, by omega⟩
  rw [List.drop_eq_nil_of_le (by omega)]
  unfold ZaE.l3 ZaE.b3
  rw [decide_eq_false (by omega), cond_false, depL]
 | succ k ih =>
  intro m i n h1 h2
  obtain ⟨m, rfl⟩ : ∃ j, m = j + 1 := ⟨m - 1, by omega⟩
  have hi : i < cs.length := by omega
  have hi' : i < s.length := by omega
  have e1 : IntKind.i64.wrap ((i : Int) + 1) = ((i + 1 : Nat) : Int) := wrap_i64 (by omega) (by omega)
  rw [Zcl hi', depL]
  unfold ZaE.l3 ZaE.b3
  rw [decide_eq_true (by omega), cond_true, ZcQ hi, ixC hi]
  simp only [hv i hi hi', chk, cond_true, Option.bind_some, e1]
  exact ih m (i + 1) _ (by omega) (by omega)
theorem ZnT (fu : Nat) (hfu : 1000 ≤ fu) : ∀ (n : Nat) (l : List No) (t : Tr No) (m : Nat), l.length ≤ n → n ≤ 900 → n < m → ZaU l = some [t] → ZaE fu m l = some (dep t, ()) := by
 intro n
 induction n with
 | zero =>
  intro l t m h1 h2 h3 h
  obtain rfl : l = [] := List.eq_nil_of_length_eq_zero (by omega)
  rw [Zbe] at h
  cases h
 | succ n ih =>
  intro l t m h1 h2 h3 h
  obtain ⟨m, rfl⟩ : ∃ j, m = j + 1 := ⟨m - 1, by omega⟩
  obtain ⟨x, r, s, cs, rfl, hx, rfl, hf, hp, hmap, hc⟩ := Zli h
  obtain ⟨hl, hg⟩ := Zne hmap
  have hpl := ZgR (x :: r)
  rw [hp] at hpl
  simp only [List.length_cons] at h1 hpl
  show ZaE.bd fu (ZaE fu m) (x :: r) = _
  unfold ZaE.bd
  rw [ZdJ fu _ (by simp; omega) hfu, hp]
  simp only [Option.bind_some]
  rw [show ((0 : Int)) = ((0 : Nat) : Int) from rfl, ZmM fu (ZaE fu m) _ cs s hl (by omega) (fun i h1 h2 => ih _ _ m (by have := hc _ (List.getElem_mem h1); omega) (by omega) (by omega) (hg i h1 h2)) cs.length fu 0 _ (by omega) (by omega), List.drop_zero, dep]
  rfl
theorem ZkM (fu : Nat) (S : List No → Option (Int × Unit)) (k2 : List No → Int → Option (Int × Unit)) (l : List No) (cs : List (List No)) (s : List (Tr No)) (hl : cs.length = s.length) (hm : cs.length ≤ 1000) (hv : ∀ i (h1 : i < cs.length) (h2 : i < s.length), S cs[i] = some (plc s[i], ())) : ∀ (k m i : Nat) (n : Int), i + k = cs.length → k < m →
  Zap.l5 fu S k2 m l n cs cs.length i = k2 l (plcL (s.drop i) n) := by
 intro k
 induction k with
 | zero =>
  intro m i n h1 h2
  obtain ⟨m, rfl⟩ : ∃ j, m = j + 1 := ⟨m - 1, by omega⟩
  rw [List.drop_eq_nil_of_le (by omega)]
  unfold Zap.l5 Zap.b5
  rw [decide_eq_false (by omega), cond_false, plcL]
 | succ k ih =>
  intro m i n h1 h2
  obtain ⟨m, rfl⟩ : ∃ j, m = j + 1 := ⟨m - 1, by omega⟩
  have hi : i < cs.length := by omega
  have hi' : i < s.length := by omega
  have e1 : IntKind.i64.wrap ((i : Int) + 1) = ((i + 1 : Nat) : Int) := wrap_i64 (by omega) (by omega)
  rw [Zcl hi', plcL]
  unfold Zap.l5 Zap.b5
  rw [decide_eq_true (by omega), cond_true, ZcQ hi, ixC hi]
  simp only [hv i hi hi', chk, cond_true, Option.bind_some, e1]
  exact ih m (i + 1) _ (by omega) (by omega)
theorem ZrX {x : No} {s : List (Tr No)} (h : frm (Tr.mk x s) = true) : x.1 = 1 ↔ s.length = 0 := by
 rw [frm, Bool.and_eq_true] at h
 have h := h.1
 unfold ZcX at h
 rw [Bool.and_eq_true] at h
 have h := h.2
 by_cases k1 : x.1 = 1
 ·rw [if_pos k1] at h
  simp only [Bool.and_eq_true, decide_eq_true_eq] at h
  exact ⟨fun _ => h.2.2.2, fun _ => k1⟩
 ·rw [if_neg k1, Bool.and_eq_true] at h
  have h := h.2
  refine ⟨fun q => absurd q k1, fun q => ?_⟩
  rw [q] at h
  exfalso
  split at h
  ·simp at h
  ·split at h
   ·simp at h
   ·split at h
    ·simp at h
    ·cases h
theorem ZtD {x : No} {s : List (Tr No)} (h : frm (Tr.mk x s) = true) : ∀ t ∈ s, frm t = true := by
 rw [frm, Bool.and_eq_true, Zgg] at h
 exact List.all_eq_true.1 h.2
theorem Zlh (fu : Nat) (hfu : 1000 ≤ fu) : ∀ (n : Nat) (l : List No) (t : Tr No) (m : Nat), l.length ≤ n → n ≤ 900 → n < m → ZaU l = some [t] → frm t = true → Zap fu m l = some (plc t, ()) := by
 intro n
 induction n with
 | zero =>
  intro l t m h1 h2 h3 h
  obtain rfl : l = [] := List.eq_nil_of_length_eq_zero (by omega)
  rw [Zbe] at h
  cases h
 | succ n ih =>
  intro l t m h1 h2 h3 h hfr
  obtain ⟨m, rfl⟩ : ∃ j, m = j + 1 := ⟨m - 1, by omega⟩
  obtain ⟨x, r, s, cs, rfl, hx, rfl, hf, hp, hmap, hc⟩ := Zli h
  obtain ⟨hl, hg⟩ := Zne hmap
  have hpl := ZgR (x :: r)
  rw [hp] at hpl
  simp only [List.length_cons] at h1 hpl
  have i0 : ixOk (x :: r) (0 : Int) = true := ZcQ (i := 0) (by simp)
  have i1 : ixL ((0 : Int), (false, (0 : Int), ([] : List Te), ()), false, (false, (0 : Int), ([] : List Te), ()), (0 : Int), (0 : Int), (0 : Int), ()) (x :: r) (0 : Int) = x := ixN (i := 0) (by simp)
  have hk := ZrX hfr
  show Zap.bd fu (Zap fu m) (x :: r) = _
  unfold Zap.bd
  rw [ZdJ fu _ (by simp; omega) hfu, hp]
  simp only [i0, i1, chk, cond_true, Option.bind_some, ZcD]
  rw [plc]
  by_cases k1 : x.1 = 1
  ·rw [decide_eq_true k1, if_pos (hk.1 k1)]; rfl
  ·rw [decide_eq_false k1, if_neg (fun q => k1 (hk.2 q)), cond_false]
   have key := ZkM fu (Zap fu m) (fun lq2 nq2 =>
    chk (ixOk lq2 (0 : Int)) <|
    let e3 := ixL ((0 : Int), (false, (0 : Int), ([] : List Te), ()), false, (false, (0 : Int), ([] : List Te), ()), (0 : Int), (0 : Int), (0 : Int), ()) lq2 (0 : Int)
    cond (decide (e3.1 = (4 : Int))) (
     chk (ixOk lq2 (0 : Int)) <|
     let e4 := ixL ((0 : Int), (false, (0 : Int), ([] : List Te), ()), false, (false, (0 : Int), ([] : List Te), ()), (0 : Int), (0 : Int), (0 : Int), ()) lq2 (0 : Int)
     let t5 := IntKind.i64.wrap e4.2.2.2.2.2.1
     let t6 := IntKind.i64.wrap (nq2 * t5)
     some (t6, ())) (
     some (nq2, ()))) (x :: r) cs s hl (by omega) (fun i h1 h2 => ih _ _ m (by have := hc _ (List.getElem_mem h1); omega) (by omega) (by omega) (hg i h1 h2) (ZtD hfr _ (List.getElem_mem h2))) cs.length fu 0 0 (by omega) (by omega)
   rw [List.drop_zero] at key
   refine Eq.trans key ?_
   simp only [i0, i1, chk, cond_true]
   unfold fin2
   by_cases k4 : x.1 = 4
   ·rw [decide_eq_true k4, if_pos k4]; rfl
   ·rw [decide_eq_false k4, if_neg k4]; rfl
theorem ZoG (t : Tr No) : Tr.mk t.val t.sub = t := by cases t; rfl
theorem ZiN (fu : Nat) (S : Tr No → Option (Int × Unit)) (k2 : Int → Option (Int × Unit)) (s : List (Tr No)) (hm : s.length ≤ 1000) (hv : ∀ t ∈ s, S t = some (dep t, ())) (c0 : Int) (c1 : Bool) (c2 : Int) (c3 : List Te) (c4 : Bool) (c5 : Bool) (c6 : Int) (c7 : List Te) (c8 c9 c10 : Int) : ∀ (k m i : Nat) (n : Int), i + k = s.length → k < m →
  Zaj.l3 fu S k2 m n s.length i c0 c1 c2 c3 c4 c5 c6 c7 c8 c9 c10 s = k2 (depL (s.drop i) n) := by
 intro k
 induction k with
 | zero =>
  intro m i n h1 h2
  obtain ⟨m, rfl⟩ : ∃ j, m = j + 1 := ⟨m - 1, by omega⟩
  rw [List.drop_eq_nil_of_le (by omega)]
  unfold Zaj.l3 Zaj.b3
  rw [decide_eq_false (by omega), cond_false, depL]
 | succ k ih =>
  intro m i n h1 h2
  obtain ⟨m, rfl⟩ : ∃ j, m = j + 1 := ⟨m - 1, by omega⟩
  have hi : i < s.length := by omega
  have e1 : IntKind.i64.wrap ((i : Int) + 1) = ((i + 1 : Nat) : Int) := wrap_i64 (by omega) (by omega)
  rw [Zcl hi, depL]
  unfold Zaj.l3 Zaj.b3
  rw [decide_eq_true (by omega), cond_true, ZcQ hi, ixT0 hi]
  simp only [hv _ (List.getElem_mem hi), chk, cond_true, Option.bind_some, e1]
  rw [Int.add_comm 1]
  exact ih m (i + 1) _ (by omega) (by omega)
theorem Zny (fu : Nat) (hfu : 1000 ≤ fu) : ∀ (n : Nat) (t : Tr No) (m : Nat), tsz t ≤ n → n ≤ 900 → n < m → Zaj fu m t = some (dep t, ()) := by
 intro n
 induction n with
 | zero => intro t m h1; cases t; rw [tsz] at h1; omega
 | succ n ih =>
  intro t m h1 h2 h3
  obtain ⟨m, rfl⟩ : ∃ j, m = j + 1 := ⟨m - 1, by omega⟩
  obtain ⟨x, s⟩ := t
  rw [tsz] at h1
  have hsl := Zgb s
  show Zaj.bd fu (Zaj fu m) (Tr.mk x s) = _
  unfold Zaj.bd
  simp only [Tr.val, Tr.sub]
  rw [show ((0 : Int)) = ((0 : Nat) : Int) from rfl, ZiN fu (Zaj fu m) _ s (by omega) (fun t ht => ih t m (by have := ZgX ht; omega) (by omega) (by omega)) x.1 x.2.1.1 x.2.1.2.1 x.2.1.2.2.1 x.2.2.1 x.2.2.2.1.1 x.2.2.2.1.2.1 x.2.2.2.1.2.2.1 x.2.2.2.2.1 x.2.2.2.2.2.1 x.2.2.2.2.2.2.1 s.length fu 0 _ (by omega) (by omega), List.drop_zero, dep]
  rfl
theorem Zhy (fu : Nat) (S : Tr No → Option (Int × Unit)) k2 (s : List (Tr No)) (hm : s.length ≤ 1000) (hv : ∀ t ∈ s, S t = some (plc t, ())) (c0 : Int) (c1 : Bool) (c2 : Int) (c3 : List Te) (c4 : Bool) (c5 : Bool) (c6 : Int) (c7 : List Te) (c8 c9 c10 : Int) : ∀ (k m i : Nat) (n : Int), i + k = s.length → k < m →
  Zai.l5 fu S k2 m n s.length i c0 c1 c2 c3 c4 c5 c6 c7 c8 c9 c10 s = k2 (plcL (s.drop i) n) c0 c1 c2 c3 c4 c5 c6 c7 c8 c9 c10 s := by
 intro k
 induction k with
 | zero =>
  intro m i n h1 h2
  obtain ⟨m, rfl⟩ : ∃ j, m = j + 1 := ⟨m - 1, by omega⟩
  rw [List.drop_eq_nil_of_le (by omega)]
  unfold Zai.l5 Zai.b5
  rw [decide_eq_false (by omega), cond_false, plcL]
 | succ k ih =>
  intro m i n h1 h2
  obtain ⟨m, rfl⟩ : ∃ j, m = j + 1 := ⟨m - 1, by omega⟩
  have hi : i < s.length := by omega
  have e1 : IntKind.i64.wrap ((i : Int) + 1) = ((i + 1 : Nat) : Int) := wrap_i64 (by omega) (by omega)
  rw [Zcl hi, plcL]
  unfold Zai.l5 Zai.b5
  rw [decide_eq_true (by omega), cond_true, ZcQ hi, ixT0 hi]
  simp only [hv _ (List.getElem_mem hi), chk, cond_true, Option.bind_some, e1]
  exact ih m (i + 1) _ (by omega) (by omega)
theorem Zmk (fu : Nat) (hfu : 1000 ≤ fu) : ∀ (n : Nat) (t : Tr No) (m : Nat), tsz t ≤ n → n ≤ 900 → n < m → Zai fu m t = some (plc t, ()) := by
 intro n
 induction n with
 | zero => intro t m h1; cases t; rw [tsz] at h1; omega
 | succ n ih =>
  intro t m h1 h2 h3
  obtain ⟨m, rfl⟩ : ∃ j, m = j + 1 := ⟨m - 1, by omega⟩
  obtain ⟨x, s⟩ := t
  rw [tsz] at h1
  have hsl := Zgb s
  show Zai.bd fu (Zai fu m) (Tr.mk x s) = _
  unfold Zai.bd
  have q : ((s.length : Int) == 0) = decide (s.length = 0) := by
   rw [ZcD]
   by_cases h : s.length = 0
   ·rw [decide_eq_true h, decide_eq_true (by omega)]
   ·rw [decide_eq_false h, decide_eq_false (by omega)]
  simp only [Tr.val, Tr.sub, q]
  rw [plc]
  by_cases h0 : s.length = 0
  ·rw [decide_eq_true h0, if_pos h0]; rfl
  ·rw [decide_eq_false h0, if_neg h0, cond_false]
   rw [show ((0 : Int)) = ((0 : Nat) : Int) from rfl, Zhy fu (Zai fu m) _ s (by omega) (fun t ht => ih t m (by have := ZgX ht; omega) (by omega) (by omega)) x.1 x.2.1.1 x.2.1.2.1 x.2.1.2.2.1 x.2.2.1 x.2.2.2.1.1 x.2.2.2.1.2.1 x.2.2.2.1.2.2.1 x.2.2.2.2.1 x.2.2.2.2.2.1 x.2.2.2.2.2.2.1 s.length fu 0 _ (by omega) (by omega), List.drop_zero]
   unfold fin2
   simp only [ZcD]
   by_cases k4 : x.1 = 4
   ·rw [decide_eq_true k4, if_pos k4]; rfl
   ·rw [decide_eq_false k4, if_neg k4]; rfl
theorem Zhx (fu : Nat) (S : Tr No → Option (Bool × Unit)) (k3 : Bool → Option (Bool × Unit)) (s : List (Tr No)) (hm : s.length ≤ 1000) (hv : ∀ t ∈ s, S t = some (frm t, ())) (c0 : Int) (c1 : Bool) (c2 : Int) (c3 : List Te) (c4 : Bool) (c5 : Bool) (c6 : Int) (c7 : List Te) (c8 c9 c10 : Int) : ∀ (k m i : Nat) (ok : Bool), i + k = s.length → k < m →
  Zab.l16 fu S k3 m ok s.length i c0 c1 c2 c3 c4 c5 c6 c7 c8 c9 c10 s = k3 (ok && frmL (s.drop i)) := by
 intro k
 induction k with
 | zero =>
  intro m i ok h1 h2
  obtain ⟨m, rfl⟩ : ∃ j, m = j + 1 := ⟨m - 1, by omega⟩
  rw [List.drop_eq_nil_of_le (by omega)]
  unfold Zab.l16 Zab.b16
  rw [decide_eq_false (by omega), cond_false, frmL, Bool.and_true]
 | succ k ih =>
  intro m i ok h1 h2
  obtain ⟨m, rfl⟩ : ∃ j, m = j + 1 := ⟨m - 1, by omega⟩
  have hi : i < s.length := by omega
  have e1 : IntKind.i64.wrap ((i : Int) + 1) = ((i + 1 : Nat) : Int) := wrap_i64 (by omega) (by omega)
  rw [Zcl hi, frmL]
  unfold Zab.l16 Zab.b16
  rw [decide_eq_true (by omega), cond_true, ZcQ hi, ixT0 hi]
  simp only [hv _ (List.getElem_mem hi), chk, cond_true, Option.bind_some, e1]
  cases ok with
  | true => rw [cond_true, ih m (i + 1) _ (by omega) (by omega), Bool.true_and]
  | false => rw [cond_false, ih m (i + 1) _ (by omega) (by omega), Bool.false_and, Bool.false_and]
theorem Zmi (fu : Nat) (hfu : 1000 ≤ fu) : ∀ (n : Nat) (t : Tr No) (m : Nat), tsz t ≤ n → n ≤ 900 → n < m → Zab fu m t = some (frm t, ()) := by
 intro n
 induction n with
 | zero => intro t m h1; cases t; rw [tsz] at h1; omega
 | succ n ih =>
  intro t m h1 h2 h3
  obtain ⟨m, rfl⟩ : ∃ j, m = j + 1 := ⟨m - 1, by omega⟩
  have ht1 : tsz t = 1 + tszL t.sub := by cases t; rw [tsz]; rfl
  have ht2 : frm t = (ZcX t.val t.sub.length (decide (t.sub.length = 0)) && frmL t.sub) := by cases t; rw [frm]; rfl
  rw [ht1] at h1
  rw [ht2]
  show Zab.bd fu (Zab fu m) t = _
  unfold Zab.bd
  generalize t.val = x, t.sub = s at h1
  have hsl := Zgb s
  have key : ∀ (k1 : Bool → Option (Bool × Unit)) (ok : Bool), Zab.j13 fu (Zab fu m) k1 ok x.1 x.2.1.1 x.2.1.2.1 x.2.1.2.2.1 x.2.2.1 x.2.2.2.1.1 x.2.2.2.1.2.1 x.2.2.2.1.2.2.1 x.2.2.2.2.1 x.2.2.2.2.2.1 x.2.2.2.2.2.2.1 s x = k1 ((ok && (x.2.2.1 || Zdd x.2.2.2.1)) && frmL s) := by
   intro k1 ok
   unfold Zab.j13 Zab.j15
   have := fun ok => Zhx fu (Zab fu m) k1 s (by omega) (fun t ht => ih t m (by have := ZgX ht; omega) (by omega) (by omega)) x.1 x.2.1.1 x.2.1.2.1 x.2.1.2.2.1 x.2.2.1 x.2.2.2.1.1 x.2.2.2.1.2.1 x.2.2.2.1.2.2.1 x.2.2.2.2.1 x.2.2.2.2.2.1 x.2.2.2.2.2.2.1 s.length fu 0 ok (by omega) (by omega)
   rw [List.drop_zero] at this
   rw [show ((0 : Nat) : Int) = 0 from rfl] at this
   simp only [ZjU, Option.bind_some]
   cases hg : x.2.2.1 with
   | true =>
    rw [hg] at this
    simp only [Bool.not_true, cond_false, Bool.true_or, Bool.and_true]
    exact this ok
   | false =>
    rw [hg] at this
    cases Zdd x.2.2.2.1 with
    | true => simp only [Bool.not_false, cond_true, Bool.not_true, cond_false, Bool.false_or, Bool.and_true]; exact this ok
    | false => simp only [Bool.not_false, cond_true, Bool.false_or, Bool.and_false]; exact this false
  have q0 : ((s.length : Int) == 0) = decide (s.length = 0) := by
   rw [ZcD]
   by_cases h : s.length = 0
   ·rw [decide_eq_true h, decide_eq_true (by omega)]
   ·rw [decide_eq_false h, decide_eq_false (by omega)]
  have q1 : ((s.length : Int) == 1) = decide (s.length = 1) := by
   rw [ZcD]
   by_cases h : s.length = 1
   ·rw [decide_eq_true h, decide_eq_true (by omega)]
   ·rw [decide_eq_false h, decide_eq_false (by omega)]
  have q2 : decide ((s.length : Int) > 1) = decide (2 ≤ s.length) := by
   by_cases h : 2 ≤ s.length
   ·rw [decide_eq_true h, decide_eq_true (by omega)]
   ·rw [decide_eq_false h, decide_eq_false (by omega)]
  have q3 : decide (x.2.2.2.2.1 > 0) = decide (1 ≤ x.2.2.2.2.1) := rfl
  have q4 : decide (x.2.2.2.2.2.1 < 9) = decide (x.2.2.2.2.2.1 ≤ 8) := by
   by_cases h : x.2.2.2.2.2.1 ≤ 8
   ·rw [decide_eq_true h, decide_eq_true (by omega)]
   ·rw [decide_eq_false h, decide_eq_false (by omega)]
  simp only [key, ZjU, Option.bind_some]
  simp only [q0, q1, q2, q3, q4, ge_iff_le, ZcD]
  unfold ZcX
  generalize (x.2.2.1 || Zdd x.2.2.2.1) = g
  generalize frmL s = f
  by_cases h1 : x.1 = 1
  ·simp only [h1, decide_true, if_true, cond_true]
   cases g <;> cases f <;> cases x.2.2.1 <;> cases decide (s.length = 0) <;> cases decide (x.2.2.2.2.1 = 0) <;> cases decide (x.2.2.2.2.2.1 = 0) <;> rfl
  ·simp only [if_neg h1, decide_eq_false h1, cond_false]
   by_cases h2 : x.1 = 2
   ·simp only [h2, decide_true, if_true, cond_true]
    cases g <;> cases f <;> cases Zdd x.2.1 <;> cases decide (2 ≤ s.length) <;> cases decide (x.2.2.2.2.1 = 0) <;> cases decide (x.2.2.2.2.2.1 = 0) <;> rfl
   ·simp only [if_neg h2, decide_eq_false h2, cond_false]
    by_cases h3 : x.1 = 3
    ·simp only [h3, decide_true, if_true, cond_true]
     cases g <;> cases f <;> cases x.2.2.1 <;> cases Zdd x.2.1 <;> cases decide (2 ≤ s.length) <;> cases decide (x.2.2.2.2.1 = 0) <;> cases decide (x.2.2.2.2.2.1 = 0) <;> rfl
    ·simp only [if_neg h3, decide_eq_false h3, cond_false]
     by_cases h4 : x.1 = 4
     ·simp only [h4, decide_true, if_true, cond_true]
      cases g <;> cases f <;> cases Zdd x.2.1 <;> cases decide (s.length = 1) <;> cases decide (1 ≤ x.2.2.2.2.1) <;> cases decide (x.2.2.2.2.1 ≤ x.2.2.2.2.2.1) <;> cases decide (x.2.2.2.2.2.1 ≤ 8) <;> rfl
     ·simp only [if_neg h4, decide_eq_false h4, cond_false, Bool.false_and, Bool.and_false]
def noTr : Tr No := Tr.mk ((0 : Int), (false, (0 : Int), [], ()), false, (false, (0 : Int), [], ()), (0 : Int), (0 : Int), (0 : Int), ()) []
def bt (x : No) (r : List No) (at' : Int) : Tr No × Int × Bool × Unit :=
 if 0 ≤ siz x ∧ siz x < (r.length : Int) + 1 then (match ZaU (r.take (siz x).toNat) with
  | some s => (Tr.mk x s, at' + 1 + siz x, true, ())
  | none => (noTr, 0, false, ())) else (noTr, 0, false, ())
def endT (k1 : Int → Bool → Int → Bool → Int → List Te → Bool → Bool → Int → List Te → Int → Int → Int → List (Tr No) → Option ((Tr No) × Int × Bool × Unit)) (k : List (Tr No) → Option ((Tr No) × Int × Bool × Unit)) : Option (List (Tr No)) → Option ((Tr No) × Int × Bool × Unit)
 | none => k1 0 false 0 false 0 [] false false 0 [] 0 0 0 []
 | some s => k s
theorem Zts {xs ys : List (Tr No)} (h : xs.length + ys.length ≤ 100000) : apOk xs ys 120 = true := by
 have hL : (100000000 : Nat) ≤ LIM := by decide
 unfold apOk
 exact decide_eq_true (by omega)
theorem Zlr (fu : Nat) (S : List No → Int → Int → Option ((Tr No) × Int × Bool × Unit)) k1 k2 (l b : List No) (at' n B : Int) (hB : at' + 1 + n = B) (h0 : 0 ≤ at' ∧ at' ≤ 10000 ∧ 0 ≤ n ∧ n ≤ 10000) (c0 : Int) (c1 : Bool) (c2 : Int) (c3 : List Te) (c4 : Bool) (c5 : Bool) (c6 : Int) (c7 : List Te) (c8 c9 c10 : Int) (d0 : Int) (d1 : Bool) (d2 : Int) (d3 : List Te) (d4 : Bool) (d5 : Bool) (d6 : Int) (d7 : List Te) (d8 d9 d10 : Int) (c11 : List (Tr No)) : ∀ (N : Nat) (a q : List No) (m : Nat) (done : List (Tr No)), q.length ≤ N → N < m → l = a ++ q ++ b → (a.length : Int) + q.length = B → done.length + N ≤ 10000 →
  (∀ (a' : List No) (x : No) (r : List No), l = a' ++ x :: r ++ b → (a'.length : Int) + 1 + r.length = B → r.length < q.length → S l a'.length B = some (bt x r a'.length)) →
  Zal.l8 fu S k1 k2 m l at' n a.length c0 c1 c2 c3 c4 c5 c6 c7 c8 c9 c10 c11 d0 d1 d2 d3 d4 d5 d6 d7 d8 d9 d10 done = endT k1 (fun s => k2 B c0 c1 c2 c3 c4 c5 c6 c7 c8 c9 c10 c11 d0 d1 d2 d3 d4 d5 d6 d7 d8 d9 d10 (done ++ s)) (ZaU q) := by
 have e0 : IntKind.i64.wrap (at' + 1) = at' + 1 := wrap_i64 (by omega) (by omega)
 have e1 : IntKind.i64.wrap (at' + 1 + n) = B := by rw [wrap_i64 (by omega) (by omega)]; exact hB
 intro N
 induction N with
 | zero =>
  intro a q m done h1 h2 h3 h4 h5 hS
  obtain ⟨m, rfl⟩ : ∃ j, m = j + 1 := ⟨m - 1, by omega⟩
  obtain rfl : q = [] := List.eq_nil_of_length_eq_zero (by omega)
  simp only [List.length_nil] at h4
  rw [Zbe]
  unfold Zal.l8 Zal.b8 endT
  simp only [e0, e1, decide_eq_false (show ¬ (a.length : Int) < B by omega), cond_false, List.append_nil]
  rw [show (a.length : Int) = B by omega]
 | succ N ih =>
  intro a q m done h1 h2 h3 h4 h5 hS
  obtain ⟨m, rfl⟩ : ∃ j, m = j + 1 := ⟨m - 1, by omega⟩
  cases q with
  | nil =>
   simp only [List.length_nil] at h4
   rw [Zbe]
   unfold Zal.l8 Zal.b8 endT
   simp only [e0, e1, decide_eq_false (show ¬ (a.length : Int) < B by omega), cond_false, List.append_nil]
   rw [show (a.length : Int) = B by omega]
  | cons x r =>
   simp only [List.length_cons] at h1 h4
   have hs := hS a x r h3 (by omega) (by simp)
   unfold Zal.l8 Zal.b8
   simp only [e0, e1, decide_eq_true (show (a.length : Int) < B by omega), cond_true, hs, Option.bind_some]
   rw [ZaU]
   unfold bt
   by_cases hx : 0 ≤ siz x ∧ siz x < (r.length : Int) + 1
   ·rw [if_pos hx, if_pos hx]
    obtain ⟨z, hz⟩ : ∃ z : Nat, siz x = z := ⟨(siz x).toNat, by omega⟩
    rw [hz] at hx ⊢
    rw [Int.toNat_natCast]
    cases hf : ZaU (r.take z) with
    | none => rfl
    | some s =>
     have e2 : apOk done [Tr.mk x s] 120 = true := Zts (by simp; omega)
     simp only [Bool.not_true, cond_false, Tr.val, Tr.sub, e2, chk, cond_true, Option.bind_some]
     have hlen : (r.take z).length = z := by rw [List.length_take]; omega
     have := ih (a ++ (x :: r.take z)) (r.drop z) m (done ++ [Tr.mk x s]) (by simp; omega) (by omega) (by rw [h3]; simp) (by rw [List.length_append, List.length_cons, hlen, List.length_drop]; omega) (by simp; omega) (fun a' x' r' g1 g2 g3 => hS a' x' r' g1 g2 (by simp at g3 ⊢; omega))
     rw [List.length_append, List.length_cons, hlen] at this
     rw [show (a.length : Int) + 1 + (z : Int) = ((a.length + (z + 1) : Nat) : Int) by omega, this]
     cases ZaU (r.drop z) with
     | none => rfl
     | some q => simp [endT]
   ·rw [if_neg hx, if_neg hx]; rfl
theorem ZjD (fu : Nat) (hfu : 1000 ≤ fu) (l a b : List No) (x : No) (r : List No) (m : Nat) (h3 : l = a ++ x :: r ++ b) (h4 : l.length ≤ 900)
  (hS : ∀ (a' : List No) (x' : No) (r' b' : List No), r'.length < r.length → l = a' ++ x' :: r' ++ b' → Zal fu m l a'.length ((a'.length : Int) + 1 + r'.length) = some (bt x' r' a'.length)) :
  Zal fu (m + 1) l a.length ((a.length : Int) + 1 + r.length) = some (bt x r a.length) := by
 show Zal.bd fu (Zal fu m) l a.length ((a.length : Int) + 1 + r.length) = _
 have hl : l.length = a.length + (r.length + 1) + b.length := by rw [h3]; simp; omega
 have i0 : ixOk l (a.length : Int) = true := ZcQ (by omega)
 have i1 : ixL ((0 : Int), (false, (0 : Int), ([] : List Te), ()), false, (false, (0 : Int), ([] : List Te), ()), (0 : Int), (0 : Int), (0 : Int), ()) l (a.length : Int) = x := by
  rw [ixN (by omega)]
  subst h3
  simp
 have e1 : IntKind.i64.wrap ((a.length : Int) + 1 + r.length - a.length) = 1 + r.length := by rw [wrap_i64 (by omega) (by omega)]; omega
 have e2 : IntKind.i64.wrap (1 + (r.length : Int) - 1) = r.length := by rw [wrap_i64 (by omega) (by omega)]; omega
 have e3 : IntKind.i64.wrap ((a.length : Int) + 1) = ((a ++ [x]).length : Int) := by rw [wrap_i64 (by omega) (by omega)]; simp
 unfold Zal.bd
 rw [decide_eq_false (show ¬ (a.length : Int) ≥ (a.length : Int) + 1 + r.length by omega)]
 simp only [cond_false, i0, i1, chk, cond_true, e1, e2, e3]
 rw [show x.2.2.2.2.2.2.1 = siz x from rfl]
 unfold bt
 by_cases hx : 0 ≤ siz x ∧ siz x < (r.length : Int) + 1
 ·rw [if_pos hx, decide_eq_false (show ¬ siz x < 0 by omega), decide_eq_false (show ¬ siz x > (r.length : Int) by omega)]
  simp only [cond_false]
  have hz : siz x = ((siz x).toNat : Int) := by omega
  have hlt : (r.take (siz x).toNat).length = (siz x).toNat := by rw [List.length_take]; omega
  have key := Zlr fu (Zal fu m) (fun vq3 vq3x2 c0q3 c0q3x2 c0q3x3 c0q3x4 c0q3x5 c0q3x6 c0q3x7 c0q3x8 c0q3x9 c0q3x10 c0q3x11 c0q3x12 =>
      some (Tr.mk (c0q3, (c0q3x2, c0q3x3, c0q3x4, ()), c0q3x5, (c0q3x6, c0q3x7, c0q3x8, ()), c0q3x9, c0q3x10, c0q3x11, ()) c0q3x12, vq3, vq3x2, ())) (fun kvq4 c0q4 c0q4x2 c0q4x3 c0q4x4 c0q4x5 c0q4x6 c0q4x7 c0q4x8 c0q4x9 c0q4x10 c0q4x11 c0q4x12 c1q4 c1q4x2 c1q4x3 c1q4x4 c1q4x5 c1q4x6 c1q4x7 c1q4x8 c1q4x9 c1q4x10 c1q4x11 c1q4x12 =>
      some (Tr.mk (c1q4, (c1q4x2, c1q4x3, c1q4x4, ()), c1q4x5, (c1q4x6, c1q4x7, c1q4x8, ()), c1q4x9, c1q4x10, c1q4x11, ()) c1q4x12, kvq4, true, ())) l (r.drop (siz x).toNat ++ b) a.length (siz x) ((a.length : Int) + 1 + siz x) rfl ⟨by omega, by omega, by omega, by omega⟩ 0 false 0 [] false false 0 [] 0 0 0 x.1 x.2.1.1 x.2.1.2.1 x.2.1.2.2.1 x.2.2.1 x.2.2.2.1.1 x.2.2.2.1.2.1 x.2.2.2.1.2.2.1 x.2.2.2.2.1 x.2.2.2.2.2.1 x.2.2.2.2.2.2.1 [] (r.take (siz x).toNat).length (a ++ [x]) (r.take (siz x).toNat) fu [] (Nat.le_refl _) (by omega) (by rw [h3]; simp only [List.append_assoc, List.cons_append, List.nil_append]; rw [← List.append_assoc (List.take _ _), List.take_append_drop]) (by rw [hlt]; simp; omega) (by simp; omega) (fun a' x' r' g1 g2 g3 => by
    have := hS a' x' r' _ (by omega) g1
    rwa [show (a'.length : Int) + 1 + r'.length = (a.length : Int) + 1 + siz x by omega] at this)
  refine Eq.trans key ?_
  cases ZaU (r.take (siz x).toNat) with
  | none => rfl
  | some s => simp [endT]
 ·rw [if_neg hx]
  by_cases h0 : siz x < 0
  ·rw [decide_eq_true h0]; rfl
  ·rw [decide_eq_false h0, decide_eq_true (show siz x > (r.length : Int) by omega)]; rfl
theorem Znx (fu : Nat) (hfu : 1000 ≤ fu) : ∀ (n : Nat) (l a b : List No) (x : No) (r : List No) (m : Nat), r.length ≤ n → n < m → l = a ++ x :: r ++ b → l.length ≤ 900 → Zal fu m l a.length ((a.length : Int) + 1 + r.length) = some (bt x r a.length) := by
 intro n
 induction n with
 | zero =>
  intro l a b x r m h1 h2 h3 h4
  obtain ⟨m, rfl⟩ : ∃ j, m = j + 1 := ⟨m - 1, by omega⟩
  exact ZjD fu hfu l a b x r m h3 h4 (fun a' x' r' b' g1 g2 => by omega)
 | succ n ih =>
  intro l a b x r m h1 h2 h3 h4
  obtain ⟨m, rfl⟩ : ∃ j, m = j + 1 := ⟨m - 1, by omega⟩
  exact ZjD fu hfu l a b x r m h3 h4 (fun a' x' r' b' g1 g2 => by
   have := ih l a' b' x' r' m (by omega) (by omega) g2 h4
   exact this)
theorem ZgV (fu : Nat) (hfu : 1000 ≤ fu) (l : List No) (hl : l.length ≤ 900) : (∀ t, ZaU l = some [t] → Zbq fu l = some (t, true, ())) ∧ ((¬ ∃ t, ZaU l = some [t]) → ∃ t', Zbq fu l = some (t', false, ())) := by
 unfold Zbq
 cases l with
 | nil =>
  rw [Zbe]
  have : Zal fu fu ([] : List No) (0 : Int) ((([] : List No).length : Nat) : Int) = some (noTr, 0, false, ()) := by
   obtain ⟨m, rfl⟩ : ∃ j, fu = j + 1 := ⟨fu - 1, by omega⟩
   rfl
  rw [this]
  exact ⟨fun t h => by simp at h, fun _ => ⟨_, rfl⟩⟩
 | cons x r =>
  simp only [List.length_cons] at hl
  have hb := Znx fu hfu r.length (x :: r) [] [] x r fu (Nat.le_refl _) (by omega) (by simp) (by simp; omega)
  rw [show ((([] : List No).length : Nat) : Int) = 0 from rfl, show (0 : Int) + 1 + r.length = (((x :: r).length : Nat) : Int) by rw [List.length_cons]; omega] at hb
  rw [hb]
  simp only [Option.bind_some, ZoG]
  unfold bt
  constructor
  ·intro t ht
   obtain ⟨x', r', s, cs, e, hx, rfl, hf, -⟩ := Zli ht
   obtain ⟨rfl, rfl⟩ := List.cons.inj e
   rw [if_pos (by omega), hx, Int.toNat_natCast, List.take_of_length_le (Nat.le_refl _), hf]
   have : ((0 : Int) + 1 + (r.length : Int) == (((x :: r).length : Nat) : Int)) = true := by rw [List.length_cons]; simp; omega
   simp only [this, cond_true]
  ·intro hn
   by_cases hx : 0 ≤ siz x ∧ siz x < (r.length : Int) + 1
   ·rw [if_pos hx]
    cases hf : ZaU (r.take (siz x).toNat) with
    | none => exact ⟨_, rfl⟩
    | some s =>
     have h1 : ¬ siz x = r.length := fun e => hn ⟨Tr.mk x s, by
      rw [Zez e]
      rw [e, Int.toNat_natCast, List.take_of_length_le (Nat.le_refl _)] at hf
      rw [hf]; rfl⟩
     have : ((0 : Int) + 1 + siz x == (((x :: r).length : Nat) : Int)) = false := ZbL (by rw [List.length_cons]; omega)
     simp only [this, cond_true]
     exact ⟨_, rfl⟩
   ·rw [if_neg hx]
    exact ⟨_, rfl⟩
abbrev Pt : Type := List No × Int × Unit
def Zjr (x : No) : Prop := (Zjt x.2.1 ∧ x.2.1.2.2.1.length ≤ 30) ∧ (Zjt x.2.2.2.1 ∧ x.2.2.2.1.2.2.1.length ≤ 30)
def ZcU (x : No) : Bool := !(mayP x.2.1 && mayP x.2.2.2.1)
theorem ZtN (fu : Nat) (hfu : 50 ≤ fu) (x : No) (h : Zjr x) : Zcb fu x = some (ZcU x, ()) := by
 unfold Zcb ZcU
 rw [ZgT fu (by omega) _ h.1.1, ZgT fu (by omega) _ h.2.1]
 simp only [Option.bind_some]
 cases mayP x.2.1 <;> rfl
theorem Zkx (fu : Nat) (hfu : 50 ≤ fu) (k1 : Int → Option ((Int × Unit) × (Unit))) (k2 : Unit → Option ((Int × Unit) × (Unit))) (l : List No) (hv : ∀ x ∈ l, Zjr x) (hl : l.length ≤ 1000) : ∀ (k m i : Nat), i + k = l.length → k < m →
  ((l.drop i).any ZcU = false → Zad.l2 fu k1 k2 m l l.length i = k2 ()) ∧ ((l.drop i).any ZcU = true → ∃ j : Nat, Zad.l2 fu k1 k2 m l l.length i = k1 j) := by
 intro k
 induction k with
 | zero =>
  intro m i h1 h2
  obtain ⟨m, rfl⟩ : ∃ j, m = j + 1 := ⟨m - 1, by omega⟩
  rw [List.drop_eq_nil_of_le (by omega)]
  refine ⟨fun _ => ?_, fun h => absurd h (by decide)⟩
  unfold Zad.l2 Zad.b2
  rw [decide_eq_false (by omega), cond_false]
 | succ k ih =>
  intro m i h1 h2
  obtain ⟨m, rfl⟩ : ∃ j, m = j + 1 := ⟨m - 1, by omega⟩
  have hi : i < l.length := by omega
  have e1 : IntKind.i64.wrap ((i : Int) + 1) = ((i + 1 : Nat) : Int) := wrap_i64 (by omega) (by omega)
  have := ih m (i + 1) (by omega) (by omega)
  rw [Zcl hi]
  unfold Zad.l2 Zad.b2
  rw [decide_eq_true (by omega), cond_true, ZcQ hi, ixN hi]
  simp only [ZtN fu hfu _ (hv _ (List.getElem_mem hi)), chk, cond_true, Option.bind_some, e1, List.any_cons]
  cases hm : ZcU l[i] with
  | false => simpa using this
  | true => simp only [Bool.true_or, cond_true]; exact ⟨fun h => (nomatch h), fun _ => ⟨i, rfl⟩⟩
theorem Zlu (fu : Nat) (hfu : 50 ≤ fu) (l : List No) (hv : ∀ x ∈ l, Zjr x) (hl : l.length ≤ 1000) (hf : l.length < fu) : ZaG fu l = some ((l.any ZcU, ()), ()) := by
 have := Zkx fu hfu (fun vq3 => some ((vq3, ()), (()))) (fun _ => some (((-1 : Int), ()), (()))) l hv hl l.length fu 0 (by omega) (by omega)
 rw [List.drop_zero] at this
 unfold ZaG Zad
 rw [show ((0 : Int)) = ((0 : Nat) : Int) from rfl]
 cases hm : l.any ZcU with
 | false => rw [this.1 hm]; rfl
 | true =>
  obtain ⟨j, hj⟩ := this.2 hm
  rw [hj]
  simp only [Option.bind_some, decide_eq_true (show (j : Int) ≥ ((0 : Nat) : Int) by omega)]
def mayT (p : Pt) (t : Tr No) : Int :=
 if frm t = true then (if p.1.any ZcU = true then 1 else if dep t > 8 then 16 else if p.2.1 < 1 then 5 else if p.2.1 > 1048576 then 5 else if plc t > 32 then 4 else 0) else 2
theorem Zor (fu : Nat) (hfu : 1000 ≤ fu) (p : Pt) (hp : ∀ x ∈ p.1, Zjr x) (hl : p.1.length ≤ 32) (t : Tr No) (ht : ZaU p.1 = some [t]) : ZaT fu p = some (mayT p t, ()) := by
 unfold ZaT mayT
 have hF : ZdK p.1 = frm t := by unfold ZdK; rw [ht]
 rw [ZgA fu hfu p.1.length p.1 fu (Nat.le_refl _) (by omega) (by omega), Zlu fu (by omega) p.1 hp (by omega) (by omega), ZnT fu hfu p.1.length p.1 t fu (Nat.le_refl _) (by omega) (by omega) ht, hF]
 simp only [decide_eq_false (show ¬ (p.1.length : Int) > 32 by omega), cond_false, Option.bind_some]
 cases hf : frm t with
 | false => rfl
 | true =>
  have hpl := Zlh fu hfu p.1.length p.1 t fu (Nat.le_refl _) (by omega) (by omega) ht hf
  simp only [Bool.not_true, cond_false, if_true]
  cases p.1.any ZcU with
  | true => rfl
  | false =>
   simp only [cond_false, Bool.false_eq_true, if_false]
   by_cases h8 : dep t > 8
   ·rw [decide_eq_true h8, if_pos h8]; rfl
   ·rw [decide_eq_false h8, if_neg h8]
    simp only [cond_false, ZaT.j25011, hpl, Option.bind_some]
    by_cases h1 : p.2.1 < 1
    ·rw [decide_eq_true h1, if_pos h1]; rfl
    ·rw [decide_eq_false h1, if_neg h1]
     by_cases h2 : p.2.1 > 1048576
     ·rw [decide_eq_true h2, if_pos h2]; rfl
     ·rw [decide_eq_false h2, if_neg h2]
      by_cases h3 : plc t > 32
      ·rw [decide_eq_true h3, if_pos h3]; rfl
      ·rw [decide_eq_false h3, if_neg h3]; rfl
theorem may_no (fu : Nat) (hfu : 1000 ≤ fu) (p : Pt) (hl : p.1.length ≤ 32) (ht : ¬ ∃ t, ZaU p.1 = some [t]) : ZaT fu p = some (2, ()) := by
 have hF : ZdK p.1 = false := by
  unfold ZdK
  split
  ·rename_i t h; exact absurd ⟨t, h⟩ ht
  ·rfl
 unfold ZaT
 rw [ZgA fu hfu p.1.length p.1 fu (Nat.le_refl _) (by omega) (by omega), hF]
 simp only [decide_eq_false (show ¬ (p.1.length : Int) > 32 by omega), cond_false, Option.bind_some]
 rfl
theorem Zsi (fu : Nat) (p : Pt) (hl : ¬ p.1.length ≤ 32) : ZaT fu p = some (12, ()) := by
 unfold ZaT
 simp only [decide_eq_true (show (p.1.length : Int) > 32 by omega), cond_true]
theorem ZnF (fu : Nat) (hfu : 50 ≤ fu) k1 k2 (p : Pt) (hv : ∀ x ∈ p.1, Zjr x) (hl : p.1.length ≤ 1000) (c0 : Int) (c1 : Bool) (c2 : Int) (c3 : List Te) (c4 : Bool) (c5 : Bool) (c6 : Int) (c7 : List Te) (c8 c9 c10 : Int) (c11 : List (Tr No)) : ∀ (k m i : Nat), i + k = p.1.length → k < m →
  ZaI.l7 fu k1 k2 m p.1.length i p c0 c1 c2 c3 c4 c5 c6 c7 c8 c9 c10 c11 = cond ((p.1.drop i).any ZcU) (k1 1) (k2 p c0 c1 c2 c3 c4 c5 c6 c7 c8 c9 c10 c11) := by
 intro k
 induction k with
 | zero =>
  intro m i h1 h2
  obtain ⟨m, rfl⟩ : ∃ j, m = j + 1 := ⟨m - 1, by omega⟩
  rw [List.drop_eq_nil_of_le (by omega)]
  unfold ZaI.l7 ZaI.b7
  rw [decide_eq_false (by omega), cond_false]
  rfl
 | succ k ih =>
  intro m i h1 h2
  obtain ⟨m, rfl⟩ : ∃ j, m = j + 1 := ⟨m - 1, by omega⟩
  have hi : i < p.1.length := by omega
  have e1 : IntKind.i64.wrap ((i : Int) + 1) = ((i + 1 : Nat) : Int) := wrap_i64 (by omega) (by omega)
  have := ih m (i + 1) (by omega) (by omega)
  obtain ⟨⟨q1, q2⟩, ⟨q3, q4⟩⟩ := hv _ (List.getElem_mem hi)
  rw [Zcl hi]
  unfold ZaI.l7 ZaI.b7
  rw [decide_eq_true (by omega), cond_true, ZcQ hi, ixN hi]
  simp only [ZgU fu hfu _ q1 q2, ZgU fu hfu _ q3 q4, chk, cond_true, Option.bind_some, e1, List.any_cons]
  have hw : ZcU p.1[i] = !(mayP p.1[i].2.1 && mayP p.1[i].2.2.2.1) := rfl
  by_cases g1 : mayP p.1[i].2.1 = true
  ·by_cases g2 : mayP p.1[i].2.2.2.1 = true
   ·rw [hw]
    simp only [g1, g2, Bool.not_true, cond_false, Bool.and_self, Bool.false_or]
    exact this
   ·have g2 : mayP p.1[i].2.2.2.1 = false := by simpa using g2
    rw [hw]
    simp only [g1, g2, Bool.not_true, Bool.not_false, cond_false, cond_true, Bool.and_false, Bool.true_or]
  ·have g1 : mayP p.1[i].2.1 = false := by simpa using g1
   rw [hw]
   simp only [g1, Bool.not_false, cond_true, Bool.false_and, Bool.true_or]
theorem ZnA (fu : Nat) (hfu : 1000 ≤ fu) (p : Pt) (hp : ∀ x ∈ p.1, Zjr x) (hl : p.1.length ≤ 32) (hw : 0 ≤ p.2.1) (t : Tr No) (ht : ZaU p.1 = some [t]) : ZaI fu p = some (mayT p t, ()) := by
 have hsz := Zgf p.1.length p.1 [t] (Nat.le_refl _) ht
 have hsz : tsz t ≤ 32 := by simp [tszL] at hsz; omega
 unfold ZaI mayT
 rw [(ZgV fu hfu p.1 (by omega)).1 t ht]
 simp only [decide_eq_false (show ¬ (p.1.length : Int) > 32 by omega), cond_false, Option.bind_some, Bool.not_true, ZoG, Zmi fu hfu 32 t fu hsz (by omega) (by omega)]
 cases hf : frm t with
 | false => rfl
 | true =>
  simp only [Bool.not_true, cond_false, if_true]
  rw [show ((0 : Int)) = ((0 : Nat) : Int) from rfl, ZnF fu (by omega) _ _ p hp (by omega) _ _ _ _ _ _ _ _ _ _ _ _ p.1.length fu 0 (by omega) (by omega), List.drop_zero]
  rw [show Tr.mk (t.val.1, (t.val.2.1.1, t.val.2.1.2.1, t.val.2.1.2.2.1, ()), t.val.2.2.1, (t.val.2.2.2.1.1, t.val.2.2.2.1.2.1, t.val.2.2.2.1.2.2.1, ()), t.val.2.2.2.2.1, t.val.2.2.2.2.2.1, t.val.2.2.2.2.2.2.1, ()) t.sub = t from ZoG t]
  cases p.1.any ZcU with
  | true => rfl
  | false =>
   simp only [Bool.false_eq_true, if_false, cond_false, Zny fu hfu 32 t fu hsz (by omega) (by omega), Zmk fu hfu 32 t fu hsz (by omega) (by omega), Option.bind_some]
   by_cases h8 : dep t > 8
   ·rw [decide_eq_true h8, if_pos h8]; rfl
   ·rw [decide_eq_false h8, if_neg h8]
    simp only [cond_false, ZcD]
    by_cases h1 : p.2.1 < 1
    ·rw [decide_eq_true (show p.2.1 = ((0 : Nat) : Int) by omega), if_pos h1]; rfl
    ·rw [decide_eq_false (show ¬ p.2.1 = ((0 : Nat) : Int) by omega), if_neg h1]
     simp only [cond_false]
     by_cases h2 : p.2.1 > 1048576
     ·rw [decide_eq_true h2, if_pos h2]; rfl
     ·rw [decide_eq_false h2, if_neg h2]
      simp only [cond_false]
      by_cases h3 : plc t > 32
      ·rw [decide_eq_true h3, if_pos h3]; rfl
      ·rw [decide_eq_false h3, if_neg h3]; rfl
theorem Zre (fu : Nat) (hfu : 1000 ≤ fu) (p : Pt) (hl : p.1.length ≤ 32) (ht : ¬ ∃ t, ZaU p.1 = some [t]) : ZaI fu p = some (2, ()) := by
 obtain ⟨t', h'⟩ := (ZgV fu hfu p.1 (by omega)).2 ht
 unfold ZaI
 rw [h']
 simp only [decide_eq_false (show ¬ (p.1.length : Int) > 32 by omega), cond_false, Option.bind_some]
 rfl
theorem Znz (fu : Nat) (p : Pt) (hl : ¬ p.1.length ≤ 32) : ZaI fu p = some (12, ()) := by
 unfold ZaI
 simp only [decide_eq_true (show (p.1.length : Int) > 32 by omega), cond_true]
abbrev RN : Type := Int × (Bool × Int × List RT × Unit) × Bool × (Bool × Int × List RT × Unit) × Int × Int × Int × Unit
def rawN (x : RN) : No := (x.1, rawP x.2.1, x.2.2.1, rawP x.2.2.2.1, x.2.2.2.2.1, x.2.2.2.2.2.1, x.2.2.2.2.2.2.1, ())
theorem ZsT {xs ys : List No} (h : xs.length + ys.length ≤ 100000) : apOk xs ys 96 = true := by
 have hL : (100000000 : Nat) ≤ LIM := by decide
 unfold apOk
 exact decide_eq_true (by omega)
theorem ixRN {l : List RN} {i : Nat} (h : i < l.length) : ixL ((0 : Int), (false, (0 : Int), ([] : List RT), ()), false, (false, (0 : Int), ([] : List RT), ()), (0 : Int), (0 : Int), (0 : Int), ()) l i = l[i] := by
 unfold ixL
 simp [List.getElem?_eq_getElem h]
theorem Zmh (fu : Nat) (k2 : List No → Int → List No → Int → Option (Pt × Unit)) (l : List RN) (hl : l.length ≤ 140737488355328) (hv : ∀ x ∈ l, Zao fu x.2.1 = some (rawP x.2.1, ()) ∧ Zao fu x.2.2.2.1 = some (rawP x.2.2.2.1, ())) (c1 c2 : Int) (c1x : List No) : ∀ (k m i : Nat), i + k = l.length → k < m →
  Zag.l3 fu k2 m l l.length i c1x c1 ((l.take (min i 40)).map rawN) c2 = k2 c1x c1 ((l.take 40).map rawN) c2 := by
 intro k
 induction k with
 | zero =>
  intro m i h1 h2
  obtain ⟨m, rfl⟩ : ∃ j, m = j + 1 := ⟨m - 1, by omega⟩
  unfold Zag.l3 Zag.b3
  rw [decide_eq_false (by omega), cond_false]
  congr 2
  by_cases h : i ≤ 40
  ·rw [show min i 40 = i by omega, List.take_of_length_le (by omega), List.take_of_length_le (by omega)]
  ·rw [show min i 40 = 40 by omega]
 | succ k ih =>
  intro m i h1 h2
  obtain ⟨m, rfl⟩ : ∃ j, m = j + 1 := ⟨m - 1, by omega⟩
  have hi : i < l.length := by omega
  have e1 : IntKind.i64.wrap ((i : Int) + 1) = ((i + 1 : Nat) : Int) := wrap_i64 (by omega) (by omega)
  have := ih m (i + 1) (by omega) (by omega)
  obtain ⟨q1, q2⟩ := hv _ (List.getElem_mem hi)
  unfold Zag.l3 Zag.b3
  rw [decide_eq_true (by omega), cond_true, ZcQ hi, ixRN hi]
  simp only [q1, q2, chk, cond_true, Option.bind_some, e1]
  by_cases h30 : (i : Int) < 40
  ·have e2 : apOk ((l.take (min i 40)).map rawN) [rawN l[i]] 96 = true := ZsT (by simp; omega)
   have e3 : (((l[i].1, rawP l[i].2.1, l[i].2.2.1, rawP l[i].2.2.2.1, l[i].2.2.2.2.1, l[i].2.2.2.2.2.1, l[i].2.2.2.2.2.2.1, ()) : No)) = rawN l[i] := rfl
   simp only [decide_eq_true h30, cond_true, e3, e2]
   rw [show min (i + 1) 40 = i + 1 by omega, List.take_succ_eq_append_getElem hi, List.map_append] at this
   rw [show min i 40 = i by omega]
   exact this
  ·simp only [decide_eq_false h30, cond_false]
   rw [show min (i + 1) 40 = 40 by omega] at this
   rw [show min i 40 = 40 by omega]
   exact this
def Znu (x : List RN × Int × Unit) : Pt := ((x.1.take 40).map rawN, x.2.1, ())
theorem Zjn (fu : Nat) (hfu : 50 ≤ fu) (k1 : Bool → Option (Bool × Unit)) (k2 : Unit → Option (Bool × Unit)) (p : Pt) (hl : p.1.length ≤ 50) : ∀ (k m i : Nat), i + k = p.1.length → k < m → Zay.l4 fu k1 k2 m p.1.length i p = k1 true ∨ Zay.l4 fu k1 k2 m p.1.length i p = k2 () := by
 intro k
 induction k with
 | zero =>
  intro m i h1 h2
  obtain ⟨m, rfl⟩ : ∃ j, m = j + 1 := ⟨m - 1, by omega⟩
  unfold Zay.l4 Zay.b4
  rw [decide_eq_false (by omega), cond_false]
  exact .inr rfl
 | succ k ih =>
  intro m i h1 h2
  obtain ⟨m, rfl⟩ : ∃ j, m = j + 1 := ⟨m - 1, by omega⟩
  have hi : i < p.1.length := by omega
  have e1 : IntKind.i64.wrap ((i : Int) + 1) = ((i + 1 : Nat) : Int) := wrap_i64 (by omega) (by omega)
  obtain ⟨g1, hg1⟩ := ZjO fu hfu p.1[i].2.1
  obtain ⟨g2, hg2⟩ := ZjO fu hfu p.1[i].2.2.2.1
  unfold Zay.l4 Zay.b4
  rw [decide_eq_true (by omega), cond_true, ZcQ hi, ixN hi]
  simp only [chk, cond_true, hg1, hg2, Option.bind_some, e1]
  cases g1 with
  | true => exact .inl rfl
  | false => cases g2 with
   | true => exact .inl rfl
   | false => exact ih m (i + 1) (by omega) (by omega)
theorem Zpj (fu : Nat) (hfu : 60 ≤ fu) (p : Pt) : ∃ g, Zay fu p = some (g, ()) := by
 unfold Zay
 by_cases h : (p.1.length : Int) > 50
 ·exact ⟨true, by simp only [decide_eq_true h, cond_true]⟩
 ·rcases Zjn fu (by omega) (fun vq3 => some (vq3, ())) (fun _ => some (false, ())) p (by omega) p.1.length fu 0 (by omega) (by omega) with hn | hn
  ·exact ⟨true, by simp only [decide_eq_false h, cond_false]; exact hn⟩
  ·exact ⟨false, by simp only [decide_eq_false h, cond_false]; exact hn⟩
theorem ZqV {x : Bool × Int × List RT × Unit} (h : kS5.ok x) : Zjt (rawP x) := by
 obtain ⟨-, -, h2, -⟩ := h
 intro v hv
 obtain ⟨w, hw, rfl⟩ := List.mem_map.1 hv
 obtain ⟨k1, k2, k3, -⟩ := h2.2 w (List.mem_of_mem_take hw)
 have k1 : 0 ≤ w.1 ∧ w.1 < 256 := u8Of k1
 have k2 : 0 ≤ w.2.1 ∧ w.2.1 < 256 := u8Of k2
 have k4 : 0 ≤ w.2.2.1.1 ∧ w.2.2.1.1 < 256 := u8Of k3.1
 exact ⟨⟨k1.1, by show w.1 ≤ 255; omega⟩, ⟨k2.1, by show w.2.1 ≤ 255; omega⟩, ZtY k3, k4.1⟩
def lenN (x : RN) : Nat := x.2.1.2.2.1.length + x.2.2.2.1.2.2.1.length
theorem ZsZ {α : Type} (f : α → Nat) : ∀ {l : List α} {x : α}, x ∈ l → f x ≤ (l.map f).sum
 | y :: r, x, h => by
  rw [List.map_cons, List.sum_cons]
  rcases List.mem_cons.1 h with rfl | h
  ·omega
  ·have := ZsZ f h
   omega
theorem Zst (fu : Nat) (x : List RN × Int × Unit) (h : kS9.ok x) (hfu : x.1.length + (x.1.map lenN).sum < fu) : Zag fu x = some (Znu x, ()) ∧ (∀ n ∈ (Znu x).1, Zjr n) ∧ 0 ≤ x.2.1 := by
 obtain ⟨h1, h2, -⟩ := h
 have hb : x.1.length * 1 ≤ x.1.length * (Kd.bytes kS8) := Nat.mul_le_mul_left _ (by decide)
 have hr : reachBytes = 140737488351232 + 4096 - 4096 := by decide
 have h3 : x.1.length * (Kd.bytes kS8) ≤ reachBytes := h1.1
 have h2 : 0 ≤ x.2.1 ∧ x.2.1 < 18446744073709551616 := ZsN h2
 refine ⟨?_, ?_, h2.1⟩
 ·unfold Zag
  have := Zmh fu (fun c1q2 c1q2x2 c2q2 c2q2x2 => some ((c2q2, c2q2x2, ()), ())) x.1 (by omega) (fun n hn => by
   obtain ⟨-, k1, -, k2, -⟩ := h1.2 n hn
   obtain ⟨-, -, e1⟩ := ZkS k1
   obtain ⟨-, -, e2⟩ := ZkS k2
   have hs := ZsZ lenN hn
   have hq : lenN n = n.2.1.2.2.1.length + n.2.2.2.1.2.2.1.length := rfl
   exact ⟨Zrc fu _ e1 (by omega), Zrc fu _ e2 (by omega)⟩) 0 x.2.1 [] x.1.length fu 0 (by omega) (by omega)
  rw [show min 0 40 = 0 from rfl, List.take_zero, List.map_nil] at this
  exact this
 ·intro n hn
  obtain ⟨w, hw, rfl⟩ := List.mem_map.1 hn
  obtain ⟨-, k1, -, k2, -⟩ := h1.2 w (List.mem_of_mem_take hw)
  obtain ⟨-, e1, -⟩ := ZkS k1
  obtain ⟨-, e2, -⟩ := ZkS k2
  exact ⟨⟨ZqV k1, Nat.le_trans e1 (by decide)⟩, ⟨ZqV k2, Nat.le_trans e2 (by decide)⟩⟩
theorem Zbz {x : Int} (h0 : 0 ≤ x) (h1 : x < 18446744073709551616) : IntKind.u64.wrap x = x := by
 simp only [IntKind.wrap, IntKind.signed, IntKind.bits]
 simp
 omega
theorem ZqK (x y : Int) : max2 x y = max x y := by unfold max2; split <;> omega
def By (l : List Int) : Prop := ∀ b ∈ l, (0 : Int) ≤ b ∧ b ≤ 255
theorem ZpW {c : Int} {l : List Int} (h : By (c :: l)) : By l := fun b hb => h b (List.mem_cons_of_mem _ hb)
theorem by_cut {l : List Int} (h : By l) (a e : Int) : By (cutL l a e) := fun b hb => h b (List.mem_of_mem_drop (List.mem_of_mem_take hb))
theorem Zte (n a : Nat) (k : Nat) (h : n < 2 ^ k) (ht : n + a * 2 ^ k < 18446744073709551616) : bOr .u64 (n : Int) ((a * 2 ^ k : Nat) : Int) = (n + a * 2 ^ k : Nat) := by
 show IntKind.u64.wrap (((BitVec.ofInt 64 (n : Int) ||| BitVec.ofInt 64 ((a * 2 ^ k : Nat) : Int)).toNat : Nat) : Int) = _
 rw [BitVec.ofInt_natCast, BitVec.ofInt_natCast]
 have h1 : n < 2 ^ 64 := by omega
 have h2 : a * 2 ^ k < 2 ^ 64 := by omega
 rw [BitVec.toNat_or, BitVec.toNat_ofNat, BitVec.toNat_ofNat, Nat.mod_eq_of_lt h1, Nat.mod_eq_of_lt h2, Nat.or_comm, Nat.mul_comm a, ← Nat.two_pow_add_eq_or_of_lt h]
 rw [Nat.mul_comm a] at ht
 rw [Zbz (by omega) (by omega)]
 omega
theorem Zti (x : Int) (k : Nat) (hk : k < 64) (h0 : 0 ≤ x) (h : x * 2 ^ k < 18446744073709551616) : sShl .u64 x (k : Int) = x * 2 ^ k := by
 unfold sShl
 have e : min (k : Int).toNat IntKind.u64.bits = k := by simp only [IntKind.bits]; omega
 rw [e]
 exact Zbz (Int.mul_nonneg h0 (by exact_mod_cast Nat.zero_le _)) h
theorem ZjY (x : Int) (k : Nat) (hk : k < 64) : sShr .u64 x (k : Int) = x / 2 ^ k := by
 unfold sShr
 have e : min (k : Int).toNat IntKind.u64.bits = k := by simp only [IntKind.bits]; omega
 rw [e, Int.fdiv_eq_ediv_of_nonneg]
 exact_mod_cast Nat.zero_le _
theorem Ztw (c : Int) (h0 : 0 ≤ c) (h : c ≤ 255) : bOr .u8 c 128 = c % 128 + 128 := by
 have key : ∀ m : Fin 256, bOr .u8 (m.val : Int) 128 = (m.val : Int) % 128 + 128 := by decide +kernel
 have := key ⟨c.toNat, by omega⟩
 simp only at this
 rw [show (c.toNat : Int) = c by omega] at this
 exact this
theorem ZrN (c : Int) (h0 : 0 ≤ c) (h : c ≤ 255) : bAnd .u8 c 127 = c % 128 := by
 have key : ∀ m : Fin 256, bAnd .u8 (m.val : Int) 127 = (m.val : Int) % 128 := by decide +kernel
 have := key ⟨c.toNat, by omega⟩
 simp only at this
 rw [show (c.toNat : Int) = c by omega] at this
 exact this
def get1 : List Int → Nat → Int → Int × Int × Int
 | [], _, _ => (0, 0, 3)
 | c :: r, i, n => if i = 9 ∧ c > 1 then (0, 0, 4) else if c ≥ 128 then get1 r (i + 1) (n + (c - 128) * 128 ^ i) else if c = 0 ∧ i > 0 then (0, 0, 2) else (n + c * 128 ^ i, (i : Int) + 1, 0)
def Zqu (at' : Int) (q : Int × Int × Int) : Int × Int × Int := (q.1, if q.2.2 = 0 then at' + q.2.1 else 0, q.2.2)
def got (b : List Int) (at' : Int) : Int × Int × Int := if at' < 0 ∨ at' > b.length then (0, 0, 3) else Zqu at' (get1 (b.drop at'.toNat) 0 0)
theorem ZqY (i : Nat) : (128 : Int) ^ i = ((2 ^ (7 * i) : Nat) : Int) := by
 rw [Nat.pow_mul]; norm_cast
theorem Zsp {i : Nat} (h : i ≤ 9) : (1 : Int) ≤ 128 ^ i ∧ (128 : Int) ^ i ≤ 9223372036854775808 := by
 have h1 : 128 ^ i ≤ 128 ^ 9 := Nat.pow_le_pow_right (by omega) h
 have h0 : 0 < 128 ^ i := Nat.pow_pos (by omega)
 have e : (128 : Int) ^ i = ((128 ^ i : Nat) : Int) := by norm_cast
 rw [e]
 have : (128 : Nat) ^ 9 = 9223372036854775808 := by decide
 omega
theorem ZqB {l : List Int} {i : Nat} (h : i < l.length) : ixL (0 : Int) l i = l[i] := by
 unfold ixL
 simp [List.getElem?_eq_getElem h]
def fin1 (k1 : Int → Int → Int → Option (Int × Int × Int × Unit)) (k2 : Unit → Option (Int × Int × Int × Unit)) (at' : Int) (q : Int × Int × Int) : Option (Int × Int × Int × Unit) :=
 if q.2.2 = 0 then k1 q.1 (at' + q.2.1) 0 else if q.2.2 = 3 then k2 () else k1 0 0 q.2.2
theorem Zpi (fu : Nat) k1 k2 (at' : Int) (b : List Int) (hb : By b) (ha : 0 ≤ at' ∧ at' ≤ 100000) (hl : b.length ≤ 100000) : ∀ (m i : Nat) (n : Int), i ≤ b.length → b.length < i + m → 0 ≤ n → n < 128 ^ i →
  i ≤ 9 → Zaq.l5 fu k1 k2 m at' n b b.length i = fin1 k1 k2 at' (get1 (b.drop i) i n) := by
 intro m
 induction m with
 | zero => intro i n h1 h2; omega
 | succ m ih =>
  intro i n h1 h2 hn0 hn hi9
  unfold Zaq.l5 Zaq.b5
  by_cases hil : i < b.length
  ·have hil' : (i : Int) < b.length := by omega
   have hix : ixOk b i = true := by simp [ixOk, hil]
   have e1 : IntKind.i64.wrap ((i : Int) + 1) = (i + 1 : Nat) := wrap_i64 (by omega) (by omega)
   rw [List.drop_eq_getElem_cons hil]
   have hc := hb _ (List.getElem_mem hil)
   simp only [hil', decide_true, cond_true, chk, hix, ZqB hil]
   generalize b[i] = c at hc
   have hp := Zsp hi9
   have hle : ∀ q : Int, 0 ≤ q → q ≤ 127 → (i = 9 → q ≤ 1) → q * 128 ^ i + n < 18446744073709551616 := fun q h0 h1 h9 => by
    rcases Nat.lt_or_ge i 9 with h | h
    ·have h8 : (128 : Int) ^ i ≤ 72057594037927936 := by
      have h1 : 128 ^ i ≤ 128 ^ 8 := Nat.pow_le_pow_right (by omega) (by omega)
      have e : (128 : Int) ^ i = ((128 ^ i : Nat) : Int) := by norm_cast
      rw [e]
      have : (128 : Nat) ^ 8 = 72057594037927936 := by decide
      omega
     have : q * 128 ^ i ≤ 127 * 72057594037927936 := Int.mul_le_mul h1 h8 (by omega) (by omega)
     omega
    ·have : i = 9 := by omega
     subst this
     have := h9 rfl
     have : q * 128 ^ 9 ≤ 1 * 9223372036854775808 := Int.mul_le_mul this (by decide) (by decide) (by omega)
     omega
   have j9 : ∀ (c : Int), 0 ≤ c → c ≤ 255 → (i = 9 → c ≤ 1) → ∀ K0 K1, Zaq.j9 fu K0 K1 at' n i c b b.length i = (if c ≥ 128 then K0 at' (n + (c - 128) * 128 ^ i) b b.length i else if c = 0 ∧ i > 0 then K1 0 0 2 else K1 (n + c * 128 ^ i) (at' + ((i : Int) + 1)) 0) := by
    intro c hc0 hc1 h9 K0 K1
    unfold Zaq.j9 Zaq.j50013
    have e2 : IntKind.u64.wrap (bAnd .u8 c 127) = c % 128 := by rw [ZrN c hc0 hc1]; exact Zbz (by omega) (by omega)
    have e3 : IntKind.i64.wrap ((7 : Int) * i) = (7 * i : Nat) := by rw [wrap_i64 (by omega) (by omega)]; omega
    have hq := hle (c % 128) (by omega) (by omega) (fun h => by have := h9 h; omega)
    have hnn : 0 ≤ (c % 128) * 128 ^ i := Int.mul_nonneg (by omega) (by omega)
    have e4 : sShl .u64 (c % 128) ((7 * i : Nat) : Int) = (c % 128) * 128 ^ i := by
     have hpp : (2 : Int) ^ (7 * i) = 128 ^ i := by rw [ZqY]; norm_cast
     rw [Zti _ (7 * i) (by omega) (by omega) (by rw [hpp]; omega), hpp]
    have e5 : bOr .u64 n ((c % 128) * 128 ^ i) = n + (c % 128) * 128 ^ i := by
     obtain ⟨N, rfl⟩ := Int.eq_ofNat_of_zero_le hn0
     obtain ⟨a, ha⟩ := Int.eq_ofNat_of_zero_le (show 0 ≤ c % 128 by omega)
     rw [ha, ZqY] at hq ⊢
     rw [ZqY] at hn
     have hq' : N + a * 2 ^ (7 * i) < 18446744073709551616 := by
      have : ((N + a * 2 ^ (7 * i) : Nat) : Int) < 18446744073709551616 := by rw [Int.natCast_add, Int.natCast_mul]; omega
      omega
     have := Zte N a (7 * i) (by omega) hq'
     rw [Int.natCast_add, Int.natCast_mul] at this
     exact this
    have hneg : (decide (((7 * i : Nat) : Int) < 0)) = false := decide_eq_false (by omega)
    have e6 : IntKind.i64.wrap (at' + i) = at' + i := wrap_i64 (by omega) (by omega)
    have e7 : IntKind.i64.wrap (at' + i + 1) = at' + ((i : Int) + 1) := by rw [wrap_i64 (by omega) (by omega)]; omega
    simp only [e2, e3, e4, e5, hneg, chk, Bool.not_false, cond_true, e6, e7]
    by_cases h128 : c ≥ 128
    ·have : c % 128 = c - 128 := by omega
     simp only [h128, decide_true, cond_true, this, if_true]
    ·have : c % 128 = c := by omega
     simp only [h128, decide_false, cond_false, this, if_false]
     by_cases h0 : c = 0
     ·subst h0
      by_cases hi0 : i > 0
      ·simp [hi0]
      ·simp [hi0]
     ·have h0' : (c == 0) = false := beq_false_of_ne h0
      simp [h0, h0']
   unfold get1
   by_cases h9 : i = 9 ∧ c > 1
   ·have h9' : ((i : Int) == 9) = true := by rw [h9.1]; rfl
    have h1' : decide (c > 1) = true := decide_eq_true h9.2
    simp [h9', h1', if_pos h9, fin1]
   ·have hside : i = 9 → c ≤ 1 := fun h => by
     by_cases hx : c > 1
     ·exact absurd ⟨h, hx⟩ h9
     ·omega
    rw [if_neg h9]
    have both : ∀ X Y : Option (Int × Int × Int × Unit), (cond ((i : Int) == 9) (cond (decide (c > 1)) X Y) Y) = Y := fun X Y => by
     cases hx : ((i : Int) == 9) with
     | false => rfl
     | true =>
      have : c ≤ 1 := hside (by have := eq_of_beq hx; omega)
      have hd : decide (c > 1) = false := decide_eq_false (by omega)
      simp only [cond_true, hd, cond_false]
    rw [j9 c hc.1 hc.2 hside, both]
    by_cases h128 : c ≥ 128
    ·have hi8 : i ≤ 8 := by
      rcases Nat.lt_or_ge i 9 with h | h
      ·omega
      ·have := hside (by omega); omega
     rw [if_pos h128, if_pos h128]
     simp only [e1]
     have hq : (c - 128) * 128 ^ i + n < 128 ^ (i + 1) := by
      rw [Int.pow_succ]
      have : (c - 128) * 128 ^ i ≤ 127 * 128 ^ i := Int.mul_le_mul_of_nonneg_right (by omega) (by omega)
      omega
     exact ih (i + 1) _ (by omega) (by omega) (by have : 0 ≤ (c - 128) * 128 ^ i := Int.mul_nonneg (by omega) (by omega); omega) (by omega) (by omega)
    ·rw [if_neg h128, if_neg h128]
     by_cases h0 : c = 0 ∧ i > 0
     ·rw [if_pos h0, if_pos h0]; simp [fin1]
     ·rw [if_neg h0, if_neg h0]; simp [fin1]
  ·have hx : ¬ (i : Int) < b.length := by omega
   rw [List.drop_of_length_le (by omega)]
   simp [hx, get1, fin1]
theorem Zku : ∀ (l : List Int) (i : Nat) (n : Int), (get1 l i n).2.2 ≠ 0 → (get1 l i n).1 = 0 ∧ (get1 l i n).2.1 = 0 := by
 intro l
 induction l with
 | nil => intro i n _; exact ⟨rfl, rfl⟩
 | cons c r ih =>
  intro i n
  unfold get1
  split
  ·intro _; exact ⟨rfl, rfl⟩
  ·split
   ·exact ih _ _
   ·split
    ·intro _; exact ⟨rfl, rfl⟩
    ·intro h; exact absurd rfl h
theorem ZgQ (fu : Nat) (b : List Int) (hb : By b) (hl : b.length ≤ 100000) (hfu : b.length < fu) (at' : Int) : Zaq fu b at' = some ((got b at').1, (got b at').2.1, (got b at').2.2, ()) := by
 unfold Zaq got
 by_cases h1 : at' < 0
 ·simp [h1]
 ·by_cases h2 : at' > b.length
  ·simp [h1, h2]
  ·have hcut : ZfE b at' b.length = true := by simp [ZfE]; omega
   have e : cutL b at' b.length = b.drop at'.toNat := by
    unfold cutL
    rw [List.take_of_length_le]
    rw [List.length_drop]; omega
   have hd : By (b.drop at'.toNat) := fun x hx => hb x (List.mem_of_mem_drop hx)
   have hdl : (b.drop at'.toNat).length ≤ b.length := by rw [List.length_drop]; omega
   have hn : ¬ (at' < 0 ∨ at' > b.length) := by omega
   simp only [h1, h2, or_self, if_false, decide_false, cond_false, hcut, chk, cond_true, e]
   have := Zpi fu (fun a c d => some (a, c, d, ())) (fun _ => some (0, 0, 3, ())) at' (b.drop at'.toNat) hd (by omega) (by omega) fu 0 0 (by omega) (by omega) (by omega) (by simp) (by omega)
   refine this.trans ?_
   rw [List.drop_zero]
   generalize hq : get1 (b.drop at'.toNat) 0 0 = q
   unfold fin1 Zqu
   by_cases h0 : q.2.2 = 0
   ·simp [h0]
   ·by_cases h3 : q.2.2 = 3
    ·have hz := Zku (b.drop at'.toNat) 0 0
     rw [hq] at hz
     simp [h3, hz h0]
    ·have hz := Zku (b.drop at'.toNat) 0 0
     rw [hq] at hz
     simp [h0, h3, hz h0]
def putN : Nat → Int → List Int
 | 0, n => [n]
 | k + 1, n => if n ≥ 128 then (n % 128 + 128) :: putN k (n / 128) else [n]
theorem Zep : ∀ (k : Nat) (n : Int), (putN k n).length ≤ k + 1 ∧ 0 < (putN k n).length
 | 0, n => by simp [putN]
 | k + 1, n => by
  unfold putN
  split
  ·have := Zep k (n / 128)
   simp only [List.length_cons]
   omega
  ·simp
def tab8 : List Int := ([0, 1, 2, 2, 3, 3, 3, 3, 4, 4, 4, 4, 4, 4, 4, 4, 5, 5, 5, 5, 5, 5, 5, 5, 5, 5, 5, 5, 5, 5, 5, 5, 6, 6, 6, 6, 6, 6, 6, 6, 6, 6, 6, 6, 6, 6, 6, 6, 6, 6, 6, 6, 6, 6, 6, 6, 6, 6, 6, 6, 6, 6, 6, 6, 7, 7, 7, 7, 7, 7, 7, 7, 7, 7, 7, 7, 7, 7, 7, 7, 7, 7, 7, 7, 7, 7, 7, 7, 7, 7, 7, 7, 7, 7, 7, 7, 7, 7, 7, 7, 7, 7, 7, 7, 7, 7, 7, 7, 7, 7, 7, 7, 7, 7, 7, 7, 7, 7, 7, 7, 7, 7, 7, 7, 7, 7, 7, 7, 8, 8, 8, 8, 8, 8, 8, 8, 8, 8, 8, 8, 8, 8, 8, 8, 8, 8, 8, 8, 8, 8, 8, 8, 8, 8, 8, 8, 8, 8, 8, 8, 8, 8, 8, 8, 8, 8, 8, 8, 8, 8, 8, 8, 8, 8, 8, 8, 8, 8, 8, 8, 8, 8, 8, 8, 8, 8, 8, 8, 8, 8, 8, 8, 8, 8, 8, 8, 8, 8, 8, 8, 8, 8, 8, 8, 8, 8, 8, 8, 8, 8, 8, 8, 8, 8, 8, 8, 8, 8, 8, 8, 8, 8, 8, 8, 8, 8, 8, 8, 8, 8, 8, 8, 8, 8, 8, 8, 8, 8, 8, 8, 8, 8, 8, 8, 8, 8, 8, 8, 8, 8, 8, 8, 8, 8, 8, 8] : List Int)
theorem Zru (x : Int) (h0 : 0 ≤ x) (h1 : x < 256) : ixOk tab8 x = true ∧ 0 ≤ ixL 0 tab8 x ∧ ixL 0 tab8 x ≤ 8 := by
 have key : ∀ m : Fin 256, ixOk tab8 (m.val : Int) = true ∧ 0 ≤ ixL 0 tab8 (m.val : Int) ∧ ixL 0 tab8 (m.val : Int) ≤ 8 := by decide +kernel
 have := key ⟨x.toNat, by omega⟩
 simp only at this
 rw [show (x.toNat : Int) = x by omega] at this
 exact this
theorem Ztb (fu : Nat) k1 (x n : Int) (h0 : 0 ≤ x) (h1 : x < 65536) (hn : 0 ≤ n) (hn1 : n ≤ 100) : ∃ r, Zat.j7 fu k1 x n = k1 r ∧ 0 ≤ r ∧ r ≤ n + 16 := by
 unfold Zat.j7
 rw [show ([0, 1, 2, 2, 3, 3, 3, 3, 4, 4, 4, 4, 4, 4, 4, 4, 5, 5, 5, 5, 5, 5, 5, 5, 5, 5, 5, 5, 5, 5, 5, 5, 6, 6, 6, 6, 6, 6, 6, 6, 6, 6, 6, 6, 6, 6, 6, 6, 6, 6, 6, 6, 6, 6, 6, 6, 6, 6, 6, 6, 6, 6, 6, 6, 7, 7, 7, 7, 7, 7, 7, 7, 7, 7, 7, 7, 7, 7, 7, 7, 7, 7, 7, 7, 7, 7, 7, 7, 7, 7, 7, 7, 7, 7, 7, 7, 7, 7, 7, 7, 7, 7, 7, 7, 7, 7, 7, 7, 7, 7, 7, 7, 7, 7, 7, 7, 7, 7, 7, 7, 7, 7, 7, 7, 7, 7, 7, 7, 8, 8, 8, 8, 8, 8, 8, 8, 8, 8, 8, 8, 8, 8, 8, 8, 8, 8, 8, 8, 8, 8, 8, 8, 8, 8, 8, 8, 8, 8, 8, 8, 8, 8, 8, 8, 8, 8, 8, 8, 8, 8, 8, 8, 8, 8, 8, 8, 8, 8, 8, 8, 8, 8, 8, 8, 8, 8, 8, 8, 8, 8, 8, 8, 8, 8, 8, 8, 8, 8, 8, 8, 8, 8, 8, 8, 8, 8, 8, 8, 8, 8, 8, 8, 8, 8, 8, 8, 8, 8, 8, 8, 8, 8, 8, 8, 8, 8, 8, 8, 8, 8, 8, 8, 8, 8, 8, 8, 8, 8, 8, 8, 8, 8, 8, 8, 8, 8, 8, 8, 8, 8, 8, 8, 8, 8, 8, 8] : List Int) = tab8 from rfl]
 have fits : ∀ y : Int, 0 ≤ y → y ≤ 1000 → IntKind.i64.wrap y = y := fun y a b => wrap_i64 (by omega) (by omega)
 by_cases h : x ≥ 256
 ·have e1 : sShr .u64 x 8 = x / 256 := by have := ZjY x 8 (by omega); simpa using this
  have e2 : IntKind.u8.wrap (x / 256) = x / 256 := by rw [Zdr]; omega
  obtain ⟨q1, q2, q3⟩ := Zru (x / 256) (by omega) (by omega)
  simp only [h, decide_true, cond_true, e1, e2, q1, chk]
  rw [fits (n + 8) (by omega) (by omega), fits (ixL 0 tab8 (x / 256)) q2 (by omega), fits _ (by omega) (by omega)]
  exact ⟨_, rfl, by omega, by omega⟩
 ·obtain ⟨q1, q2, q3⟩ := Zru x (by omega) (by omega)
  have e2 : IntKind.u8.wrap x = x := by rw [Zdr]; omega
  simp only [h, decide_false, cond_false, e2, q1, chk, cond_true]
  rw [fits (ixL 0 tab8 x) q2 (by omega), fits _ (by omega) (by omega)]
  exact ⟨_, rfl, by omega, by omega⟩
theorem Zta (fu : Nat) k1 (x n : Int) (h0 : 0 ≤ x) (h1 : x < 4294967296) (hn : 0 ≤ n) (hn1 : n ≤ 64) : ∃ r, Zat.j4 fu k1 x n = k1 r ∧ 0 ≤ r ∧ r ≤ n + 32 := by
 unfold Zat.j4
 by_cases h : x ≥ 65536
 ·have e1 : sShr .u64 x 16 = x / 65536 := by have := ZjY x 16 (by omega); simpa using this
  have e2 : IntKind.i64.wrap (n + 16) = n + 16 := wrap_i64 (by omega) (by omega)
  simp only [h, decide_true, cond_true, e1, e2]
  obtain ⟨r, h1, h2, h3⟩ := Ztb fu (fun q => k1 q) (x / 65536) (n + 16) (by omega) (by omega) (by omega) (by omega)
  exact ⟨r, h1, h2, by omega⟩
 ·simp only [h, decide_false, cond_false]
  obtain ⟨r, h1, h2, h3⟩ := Ztb fu (fun q => k1 q) x n (by omega) (by omega) (by omega) (by omega)
  exact ⟨r, h1, h2, by omega⟩
theorem Zsa (fu : Nat) (n : Int) (h0 : 0 ≤ n) (h1 : n < 18446744073709551616) : ∃ r, Zat fu n = some (r, ()) ∧ 0 ≤ r ∧ r ≤ 64 := by
 unfold Zat
 by_cases h : n ≥ 4294967296
 ·have e1 : sShr .u64 n 32 = n / 4294967296 := by have := ZjY n 32 (by omega); simpa using this
  simp only [h, decide_true, cond_true, e1]
  obtain ⟨r, h1, h2, h3⟩ := Zta fu (fun q => some (q, ())) (n / 4294967296) 32 (by omega) (by omega) (by omega) (by omega)
  exact ⟨r, h1, h2, by omega⟩
 ·simp only [h, decide_false, cond_false]
  obtain ⟨r, h1, h2, h3⟩ := Zta fu (fun q => some (q, ())) n 0 (by omega) (by omega) (by omega) (by omega)
  exact ⟨r, h1, h2, by omega⟩
theorem Zuf (fu : Nat) (n : Int) (h0 : 0 ≤ n) (h1 : n < 18446744073709551616) : ∃ r, ZbZ fu n = some (r, ()) ∧ 0 ≤ r ∧ r ≤ 10 := by
 unfold ZbZ
 obtain ⟨r, q1, q2, q3⟩ := Zsa fu n h0 h1
 have e1 : IntKind.i64.wrap (max2 r 1 + 6) = max r 1 + 6 := by rw [ZqK, wrap_i64 (by omega) (by omega)]
 have e2 : Int.tdiv (max r 1 + 6) 7 = (max r 1 + 6) / 7 := Int.tdiv_eq_ediv_of_nonneg (by omega)
 have e3 : IntKind.i64.wrap ((max r 1 + 6) / 7) = (max r 1 + 6) / 7 := wrap_i64 (by omega) (by omega)
 simp only [q1, Option.bind_some, e1, e2, e3]
 exact ⟨_, rfl, by omega, by omega⟩
theorem Ztf (fu : Nat) (b : List Int) (room : Int) (hl : b.length ≤ 500000) (h0 : 0 ≤ room) (h1 : room ≤ 1000) : Zcd fu b room = some ((b, ()), ()) := by
 unfold Zcd
 have e1 : IntKind.i64.wrap ((b.length : Int) + room) = b.length + room := wrap_i64 (by omega) (by omega)
 have e2 : mkOk 0 ((b.length : Int) + room) 1 = true := by
  have hL : (1000000 : Int) ≤ (LIM : Int) := by decide
  unfold mkOk
  simp only [Bool.and_eq_true, decide_eq_true_eq]
  omega
 have e3 : apOk ([] : List Int) b 1 = true := Zdg (by simp; omega)
 simp only [e1, e2, chk, cond_true, Int.toNat_zero, List.replicate_zero, e3, List.nil_append]
theorem ZiK (k : Nat) : (128 : Int) ^ (k + 1) = 128 * 128 ^ k := by rw [Int.pow_succ, Int.mul_comm]
theorem Znr (fu : Nat) (k2 : Int → List Int → Option (((List Int) × Unit) × (Unit))) : ∀ (k m : Nat) (n : Int) (out : List Int), k < m → 0 ≤ n → n < 128 ^ (k + 1) → out.length + k ≤ 500000 →
  ∃ last init, putN k n = init ++ [last] ∧ 0 ≤ last ∧ last < 128 ∧ ZaN.l2 fu k2 m n out = k2 last (out ++ init) := by
 intro k
 induction k with
 | zero =>
  intro m n out hm h0 h1 hl
  obtain ⟨m, rfl⟩ : ∃ j, m = j + 1 := ⟨m - 1, by omega⟩
  have hn : ¬ n ≥ 128 := by
   have : (128 : Int) ^ (0 + 1) = 128 := by decide
   omega
  refine ⟨n, [], by simp [putN], h0, by omega, ?_⟩
  unfold ZaN.l2 ZaN.b2
  simp [hn]
 | succ k ih =>
  intro m n out hm h0 h1 hl
  obtain ⟨m, rfl⟩ : ∃ j, m = j + 1 := ⟨m - 1, by omega⟩
  unfold ZaN.l2 ZaN.b2 putN
  by_cases hn : n ≥ 128
  ·have e1 : sShr .u64 n 7 = n / 128 := by have := ZjY n 7 (by omega); simpa using this
   have e2 : bOr .u8 (IntKind.u8.wrap n) 128 = n % 128 + 128 := by rw [Zdr, Ztw _ (by omega) (by omega)]; omega
   rw [ZiK] at h1
   obtain ⟨last, init, q1, q2, q3, q4⟩ := ih m (n / 128) (out ++ [n % 128 + 128]) (by omega) (by omega) (by omega) (by simp; omega)
   refine ⟨last, (n % 128 + 128) :: init, by rw [if_pos hn, q1]; rfl, q2, q3, ?_⟩
   have e3 : apOk out [n % 128 + 128] 1 = true := Zdg (by simp; omega)
   simp only [hn, decide_true, cond_true, e1, e2, e3, chk]
   rw [q4, List.append_assoc]
   rfl
  ·refine ⟨n, [], by rw [if_neg hn]; rfl, h0, by omega, ?_⟩
   simp [hn]
theorem Zir : ∀ (k i : Nat) (l : List Int) (n v e : Int), By l → i + k = 9 → get1 l i n = (v, e, 0) →
  ∃ (m : Int) (j : Nat), v = n + m * 128 ^ i ∧ 0 ≤ m ∧ m < 2 * 128 ^ k ∧ e = i + j ∧ 0 < j ∧ j ≤ l.length ∧ l.take j = putN k m ∧ (i > 0 → 1 ≤ m) := by
 intro k
 induction k with
 | zero =>
  intro i l n v e hb hi h
  cases l with
  | nil => cases h
  | cons c r =>
   have hc := hb c List.mem_cons_self
   unfold get1 at h
   split at h
   ·cases h
   ·rename_i h9
    have hc1 : ¬ c > 1 := fun hx => h9 ⟨by omega, hx⟩
    rw [if_neg (by omega)] at h
    split at h
    ·cases h
    ·rename_i h0
     cases h
     refine ⟨c, 1, rfl, hc.1, by omega, by omega, by omega, by simp, by simp [putN], fun hi0 => ?_⟩
     rcases Int.lt_or_le 0 c with hx | hx
     ·omega
     ·exact absurd ⟨by omega, hi0⟩ h0
 | succ k ih =>
  intro i l n v e hb hi h
  cases l with
  | nil => cases h
  | cons c r =>
   have hc := hb c List.mem_cons_self
   unfold get1 at h
   rw [if_neg (by omega)] at h
   have hpk : (1 : Int) ≤ 128 ^ k := by
    have : 0 < 128 ^ k := Nat.pow_pos (by omega)
    have e : (128 : Int) ^ k = ((128 ^ k : Nat) : Int) := by norm_cast
    omega
   split at h
   ·rename_i h128
    obtain ⟨m, j, q1, q2, q3, q4, q5, q6, q7, q8⟩ := ih (i + 1) r _ v e (ZpW hb) (by omega) h
    have hm1 := q8 (by omega)
    refine ⟨c - 128 + 128 * m, j + 1, ?_, by omega, by rw [Int.pow_succ]; omega, by omega, by omega, by simp; omega, ?_, fun _ => by omega⟩
    ·rw [q1, Int.pow_succ, Int.add_mul, Int.mul_comm 128 m, Int.mul_assoc m 128, Int.mul_comm 128 (128 ^ i)]; omega
    ·rw [List.take_succ_cons, q7]
     conv => rhs; unfold putN
     rw [if_pos (by omega), show (c - 128 + 128 * m) % 128 + 128 = c by omega, show (c - 128 + 128 * m) / 128 = m by omega]
   ·rename_i h128
    split at h
    ·cases h
    ·rename_i h0
     cases h
     refine ⟨c, 1, rfl, hc.1, by rw [Int.pow_succ]; omega, by omega, by omega, by simp, ?_, fun hi0 => ?_⟩
     ·conv => rhs; unfold putN
      rw [if_neg (by omega)]; simp
     ·rcases Int.lt_or_le 0 c with hx | hx
      ·omega
      ·exact absurd ⟨by omega, hi0⟩ h0
theorem ZtX : ∀ (k i : Nat) (m n : Int) (rest : List Int), i + k = 9 → 0 ≤ m → m < 2 * 128 ^ k → (i > 0 → 1 ≤ m) → get1 (putN k m ++ rest) i n = (n + m * 128 ^ i, (i : Int) + ((putN k m).length : Int), 0) := by
 intro k
 induction k with
 | zero =>
  intro i m n rest hi h0 h1 hp
  have hm1 : m ≤ 1 := by simp at h1; omega
  unfold putN get1
  simp only [List.cons_append, List.nil_append]
  rw [if_neg (by omega), if_neg (by omega), if_neg (fun h => by have := hp h.2; omega)]
  simp
 | succ k ih =>
  intro i m n rest hi h0 h1 hp
  unfold putN
  split
  ·rename_i hge
   simp only [List.cons_append]
   unfold get1
   rw [if_neg (by omega), if_pos (by omega)]
   rw [ih (i + 1) (m / 128) _ rest (by omega) (by omega) (by rw [Int.pow_succ] at h1; omega) (fun _ => by omega)]
   simp only [List.length_cons]
   refine Prod.ext ?_ (Prod.ext ?_ rfl)
   ·show n + (m % 128 + 128 - 128) * 128 ^ i + m / 128 * 128 ^ (i + 1) = n + m * 128 ^ i
    rw [Int.pow_succ, Int.mul_comm (128 ^ i) 128, ← Int.mul_assoc, Int.add_assoc, ← Int.add_mul]
    congr 2
    omega
   ·show ((i + 1 : Nat) : Int) + ((putN k (m / 128)).length : Int) = (i : Int) + (((putN k (m / 128)).length + 1 : Nat) : Int)
    omega
  ·rename_i hlt
   simp only [List.cons_append, List.nil_append]
   unfold get1
   rw [if_neg (by omega), if_neg (by omega), if_neg (fun h => by have := hp h.2; omega)]
   simp
theorem ZsY {b : List Int} (hb : By b) {at' v e : Int} (h : got b at' = (v, e, 0)) : 0 ≤ at' ∧ 0 ≤ v ∧ v < 18446744073709551616 ∧ ∃ j : Nat, e = at' + j ∧ 0 < j ∧ at' + j ≤ b.length ∧ cutL b at' e = putN 9 v := by
 unfold got at h
 split at h
 ·cases h
 ·rename_i hn
  generalize hq : get1 (b.drop at'.toNat) 0 0 = q at h
  obtain ⟨v', e', er⟩ := q
  unfold Zqu at h
  simp only [Prod.mk.injEq] at h
  obtain ⟨rfl, h2, rfl⟩ := h
  rw [if_pos rfl] at h2
  obtain ⟨m, j, q1, q2, q3, q4, q5, q6, q7, q8⟩ := Zir 9 0 (b.drop at'.toNat) 0 v' e' (fun x hx => hb x (List.mem_of_mem_drop hx)) rfl hq
  have hv : v' = m := by rw [q1]; simp
  rw [List.length_drop] at q6
  have hp : (2 : Int) * 128 ^ 9 = 18446744073709551616 := by decide
  refine ⟨by omega, by omega, by omega, j, by omega, q5, by omega, ?_⟩
  rw [hv, ← q7]
  unfold cutL
  rw [show (e - at').toNat = j by omega]
theorem ZmX (a rest : List Int) (n : Int) (h0 : 0 ≤ n) (h1 : n < 18446744073709551616) : got (a ++ putN 9 n ++ rest) a.length = (n, (a.length : Int) + ((putN 9 n).length : Int), 0) := by
 unfold got
 rw [if_neg (by simp; omega)]
 have hp : (2 : Int) * 128 ^ 9 = 18446744073709551616 := by decide
 have e : (a ++ putN 9 n ++ rest).drop (a.length : Int).toNat = putN 9 n ++ rest := by simp
 rw [e, ZtX 9 0 n 0 rest rfl h0 (by omega) (fun h => by omega)]
 unfold Zqu
 simp
theorem Zty {b : List Int} {x y : Int} (h0 : 0 ≤ x) (h1 : x ≤ y) (h2 : y ≤ b.length) : (cutL b x y).length = (y - x).toNat := by
 unfold cutL
 rw [List.length_take, List.length_drop]
 omega
theorem ZnW {b : List Int} {x y : Int} (h0 : 0 ≤ x) (h1 : x ≤ y) (h2 : y ≤ b.length) : ZfE b x y = true := by simp [ZfE, h0, h1, h2]
def Zja (b : List Int) (at' most : Int) : List Int × Int × Int :=
 if (got b at').2.2 ≠ 0 then ([], 0, (got b at').2.2) else if (got b at').1 > max most 0 then ([], 0, 4) else if (got b at').1 > b.length - (got b at').2.1 then ([], 0, 3)
 else (cutL b (got b at').2.1 ((got b at').2.1 + (got b at').1), (got b at').2.1 + (got b at').1, 0)
theorem Zph (fu : Nat) (b : List Int) (hb : By b) (hl : b.length ≤ 100000) (hfu : b.length < fu) (at' most : Int) (hm : -9223372036854775808 ≤ most ∧ most < 9223372036854775808) : Zbj fu b at' most = some ((Zja b at' most).1, (Zja b at' most).2.1, (Zja b at' most).2.2, ()) := by
 unfold Zbj Zja
 rw [ZgQ fu b hb hl hfu]
 generalize hq : got b at' = q
 obtain ⟨v, e, er⟩ := q
 simp only [Option.bind_some]
 by_cases h : er = 0
 ·subst h
  obtain ⟨g1, g2, g3, j, g4, g5, g6, g7⟩ := ZsY hb hq
  have e1 : IntKind.u64.wrap (max2 most 0) = max most 0 := by rw [ZqK]; exact Zbz (by omega) (by omega)
  have e2 : IntKind.i64.wrap ((b.length : Int) - e) = b.length - e := wrap_i64 (by omega) (by omega)
  have e3 : IntKind.u64.wrap ((b.length : Int) - e) = b.length - e := Zbz (by omega) (by omega)
  simp only [bne_self_eq_false, cond_false, e1, e2, e3, ne_eq, not_true_eq_false, if_false]
  by_cases h1 : v > max most 0
  ·simp [h1]
  ·by_cases h2 : v > b.length - e
   ·simp only [h1, h2, decide_false, decide_true, cond_false, cond_true, if_false, if_true]
   ·have e4 : IntKind.i64.wrap v = v := wrap_i64 (by omega) (by omega)
    have e5 : IntKind.i64.wrap (e + v) = e + v := wrap_i64 (by omega) (by omega)
    simp only [h1, h2, decide_false, cond_false, if_false, e4, e5, ZnW (show 0 ≤ e by omega) (show e ≤ e + v by omega) (show e + v ≤ b.length by omega), chk, cond_true]
 ·have h' : (er != 0) = true := bne_iff_ne.2 h
  simp [h, h']
def Ziw (x : Nat) : Prop := x % 9223372036854775808 > 9218868437227405312
instance : DecidablePred Ziw := fun x => inferInstanceAs (Decidable (_ > _))
def ZcE (x : Nat) : Int := if Ziw x then 9221120237041090560 else x
theorem ZtQ (x : Nat) : fNeq x x = decide (Ziw x) := by
 unfold fNeq
 show (FloatKind.f64.format.order x x != some .eq) = _
 have hsw : FloatKind.f64.format.signWeight = 9223372036854775808 := by decide
 have hir : FloatKind.f64.format.infRung = 9218868437227405312 := by decide
 have hbi : FloatKind.f64.format.binade = 4503599627370496 := by decide
 unfold Ieee.Format.order Ieee.Format.read
 have no : ¬ (x % 9223372036854775808 > 9218868437227405312) → decide (Ziw x) = false := fun h => decide_eq_false h
 simp only [hsw, hir, hbi]
 split
 ·rename_i h
  rw [no (by omega)]
  simp [Ieee.Datum.order]
 ·split
  ·rename_i h1 h2
   rw [no (by omega)]
   simp [Ieee.Datum.order]
  ·split
   ·rename_i h1 h2 h3
    rw [no (by omega)]
    simp [Ieee.Datum.order]
   ·rename_i h1 h2 h3
    exact (decide_eq_true (p := Ziw x) (show x % 9223372036854775808 > 9218868437227405312 by omega)).symm
theorem ZiM (fu : Nat) (x : Nat) (h : x < 18446744073709551616) : ZbE fu x = some (ZcE x, ()) := by
 unfold ZbE ZcE
 rw [ZtQ]
 by_cases hx : Ziw x
 ·simp [hx]
 ·have : ZcF.f fu (x, ()) = some ((x : Int), ()) := by
   show (match decide (x < 18446744073709551616) with | true => some ((x : Int), ()) | false => none) = _
   rw [decide_eq_true h]
  simp only [hx, decide_false, cond_false, if_false]
  rw [this]
  rfl
theorem ZgI (x : Nat) (h : x < 18446744073709551616) : 0 ≤ ZcE x ∧ ZcE x < 18446744073709551616 := by
 unfold ZcE; split <;> omega
theorem Znv (fu : Nat) (n : Int) (h0 : 0 ≤ n) (h : n < 18446744073709551616) : ZbU fu n = some (if ZcE n.toNat = n then (n.toNat, true, ()) else (0, false, ())) := by
 unfold ZbU
 have : Zfc.f fu (n, ()) = some (n.toNat, ()) := rfl
 rw [this]
 show ((ZbE fu n.toNat).bind fun r2 => cond (r2.1 != n) (some ((0 : Nat), false, ())) (some (n.toNat, true, ()))) = _
 rw [ZiM fu n.toNat (by omega)]
 by_cases hx : ZcE n.toNat = n
 ·have hx' : (ZcE n.toNat != n) = false := by rw [hx]; exact bne_self_eq_false _
  simp only [Option.bind_some, hx', cond_false, if_pos hx]
 ·have hx' : (ZcE n.toNat != n) = true := bne_iff_ne.2 hx
  simp only [Option.bind_some, hx', cond_true, if_neg hx]
def be (l : List Int) (n : Int) : Int := l.foldl (fun n c => n * 256 + c) n
theorem Zsm (k : IntKind) (x y : Int) : bOr k x y = bOr k y x := by unfold bOr; rw [BitVec.or_comm]
theorem Znw (fu : Nat) (k2 : Int → Int → Option (Nat × Int × Int × Unit)) (at' : Int) (v : List Int) (hv : By v) (hl : v.length = 8) : ∀ (m i : Nat) (n : Int), i ≤ 8 → 8 < i + m → 0 ≤ n → n < 256 ^ i →
  Zav.l5 fu k2 m at' n v 8 i = k2 at' (be (v.drop i) n) := by
 intro m
 induction m with
 | zero => intro i n h1 h2; omega
 | succ m ih =>
  intro i n h1 h2 h3 h4
  unfold Zav.l5 Zav.b5
  by_cases hi : i < 8
  ·have hi' : (i : Int) < 8 := by omega
   have hil : i < v.length := by omega
   have hix : ixOk v i = true := by simp [ixOk, hil]
   have hc := hv _ (List.getElem_mem hil)
   have e1 : IntKind.i64.wrap ((i : Int) + 1) = (i + 1 : Nat) := wrap_i64 (by omega) (by omega)
   have hp : (256 : Int) ^ i ≤ 72057594037927936 := by
    have h1 : 256 ^ i ≤ 256 ^ 7 := Nat.pow_le_pow_right (by omega) (by omega)
    have e : (256 : Int) ^ i = ((256 ^ i : Nat) : Int) := by rw [Int.natCast_pow]; rfl
    rw [e]
    have : (256 : Nat) ^ 7 = 72057594037927936 := by decide
    omega
   rw [List.drop_eq_getElem_cons hil]
   simp only [hi', decide_true, cond_true, chk, hix, ZqB hil, e1]
   generalize v[i] = c at hc
   have e2 : sShl .u64 n 8 = n * 256 := by have := Zti n 8 (by omega) h3 (by omega); rw [show (2 : Int) ^ 8 = 256 by decide] at this; exact this
   have e3 : IntKind.u64.wrap c = c := Zbz (by omega) (by omega)
   have e4 : bOr .u64 (n * 256) c = n * 256 + c := by
    obtain ⟨N, rfl⟩ := Int.eq_ofNat_of_zero_le h3
    obtain ⟨C, rfl⟩ := Int.eq_ofNat_of_zero_le hc.1
    have := Zte C N 8 (by omega) (by omega)
    rw [Zsm]
    have e : ((N * 2 ^ 8 : Nat) : Int) = (N : Int) * 256 := by omega
    rw [e] at this
    rw [this]
    omega
   rw [e2, e3, e4, ih (i + 1) (n * 256 + c) (by omega) (by omega) (by omega) (by rw [Int.pow_succ]; omega)]
   rfl
  ·have : i = 8 := by omega
   subst this
   rw [List.drop_of_length_le (by omega)]
   simp [be]
def ZiL (b : List Int) (at' : Int) : Nat × Int × Int :=
 if at' < 0 ∨ at' > b.length - 8 then (0, 0, 3) else if ZcE (be (cutL b at' (at' + 8)) 0).toNat = be (cutL b at' (at' + 8)) 0 then ((be (cutL b at' (at' + 8)) 0).toNat, at' + 8, 0) else (0, 0, 2)
theorem Ztu : ∀ (l : List Int) (n : Int) (i : Nat), By l → 0 ≤ n → n < 256 ^ i → 0 ≤ be l n ∧ be l n < 256 ^ (i + l.length) := by
 intro l
 induction l with
 | nil => intro n i _ h0 h1; exact ⟨h0, h1⟩
 | cons c r ih =>
  intro n i hb h0 h1
  have hc := hb c List.mem_cons_self
  have := ih (n * 256 + c) (i + 1) (ZpW hb) (by omega) (by rw [Int.pow_succ]; omega)
  rw [show i + (c :: r).length = i + 1 + r.length by simp; omega]
  exact this
theorem be_u64 {l : List Int} (hb : By l) (hl : l.length = 8) : 0 ≤ be l 0 ∧ be l 0 < 18446744073709551616 := by
 have := Ztu l 0 0 hb (by omega) (by simp)
 rw [hl] at this
 have e : (256 : Int) ^ (0 + 8) = 18446744073709551616 := by decide
 omega
theorem Zpg (fu : Nat) (hfu : 10 ≤ fu) (b : List Int) (hb : By b) (hl : b.length ≤ 100000) (at' : Int) : Zav fu b at' = some ((ZiL b at').1, (ZiL b at').2.1, (ZiL b at').2.2, ()) := by
 unfold Zav ZiL
 by_cases h1 : at' < 0
 ·simp [h1]
 ·have e1 : IntKind.i64.wrap ((b.length : Int) - 8) = b.length - 8 := wrap_i64 (by omega) (by omega)
  by_cases h2 : at' > b.length - 8
  ·simp [h1, e1, h2]
  ·have e2 : IntKind.i64.wrap (at' + 8) = at' + 8 := wrap_i64 (by omega) (by omega)
   have hlen : (cutL b at' (at' + 8)).length = 8 := by rw [Zty (by omega) (by omega) (by omega)]; omega
   have hby : By (cutL b at' (at' + 8)) := by_cut hb _ _
   have hu := be_u64 hby hlen
   simp only [h1, h2, e1, e2, decide_false, cond_false, ZnW (show 0 ≤ at' by omega) (show at' ≤ at' + 8 by omega) (show at' + 8 ≤ b.length by omega), chk, cond_true, hlen, or_self, if_false]
   have := Znw fu (fun atvq2 nq2 =>
     (ZbU fu nq2).bind fun r4 =>
     cond (!r4.2.1) (
      some ((0 : Nat), (0 : Int), (2 : Int), ())) (
      let t5 := IntKind.i64.wrap (atvq2 + (8 : Int))
      some (r4.1, t5, (0 : Int), ()))) at' (cutL b at' (at' + 8)) hby hlen fu 0 0 (by omega) (by omega) (by omega) (by simp)
   refine this.trans ?_
   simp only [List.drop_zero, Znv fu _ hu.1 hu.2, Option.bind_some, e2]
   by_cases h3 : ZcE (be (cutL b at' (at' + 8)) 0).toNat = be (cutL b at' (at' + 8)) 0
   ·rw [if_pos h3, if_pos h3]; rfl
   ·rw [if_neg h3, if_neg h3]; rfl
def Zdi (n : Int) : List Int := [n / 72057594037927936 % 256, n / 281474976710656 % 256, n / 1099511627776 % 256, n / 4294967296 % 256, n / 16777216 % 256, n / 65536 % 256, n / 256 % 256, n % 256]
theorem ZpO (n : Int) (h0 : 0 ≤ n) (h1 : n < 18446744073709551616) : be (Zdi n) 0 = n := by
 show (((((((0 * 256 + n / 72057594037927936 % 256) * 256 + n / 281474976710656 % 256) * 256 + n / 1099511627776 % 256) * 256 + n / 4294967296 % 256) * 256 + n / 16777216 % 256) * 256 + n / 65536 % 256) * 256 + n / 256 % 256) * 256 + n % 256 = n
 omega
theorem ZpX (n : Int) : By (Zdi n) := by
 intro x hx
 simp only [Zdi, List.mem_cons, List.not_mem_nil, or_false] at hx
 omega
def zig (n : Int) : Int := if n ≥ 0 then 2 * n else -2 * n - 1
theorem ZpK (x : Int) (h0 : 0 ≤ x) (h1 : x < 18446744073709551616) : bXor .u64 x 0 = x := by
 obtain ⟨N, rfl⟩ := Int.eq_ofNat_of_zero_le h0
 show IntKind.u64.wrap (((BitVec.ofInt 64 (N : Int) ^^^ BitVec.ofInt 64 (0 : Int)).toNat : Nat) : Int) = _
 rw [show BitVec.ofInt 64 (0 : Int) = 0#64 from rfl, BitVec.xor_zero, BitVec.ofInt_natCast, BitVec.toNat_ofNat, Nat.mod_eq_of_lt (by omega)]
 exact Zbz (by omega) (by omega)
theorem ZpJ (x : Int) (h0 : 0 ≤ x) (h1 : x < 18446744073709551616) : bXor .u64 x 18446744073709551615 = 18446744073709551615 - x := by
 obtain ⟨N, rfl⟩ := Int.eq_ofNat_of_zero_le h0
 show IntKind.u64.wrap (((BitVec.ofInt 64 (N : Int) ^^^ BitVec.ofInt 64 (18446744073709551615 : Int)).toNat : Nat) : Int) = _
 rw [show BitVec.ofInt 64 (18446744073709551615 : Int) = BitVec.allOnes 64 by decide, BitVec.xor_allOnes, BitVec.toNat_not, BitVec.ofInt_natCast, BitVec.toNat_ofNat, Nat.mod_eq_of_lt (by omega)]
 rw [Zbz (by omega) (by omega)]
 omega
theorem shr63 (n : Int) (h0 : -9223372036854775808 ≤ n) (h1 : n < 9223372036854775808) : sShr .i64 n 63 = if n ≥ 0 then 0 else -1 := by
 unfold sShr
 have e : min (63 : Int).toNat IntKind.i64.bits = 63 := by decide
 rw [e, show (2 : Int) ^ 63 = 9223372036854775808 by decide, Int.fdiv_eq_ediv_of_nonneg _ (by omega)]
 split <;> omega
def zag (v : Int) : Int := if v % 2 = 0 then v / 2 else -(v / 2) - 1
theorem Ztq (v : Int) (h0 : 0 ≤ v) (h1 : v < 18446744073709551616) : bAnd .u64 v 1 = v % 2 := by
 obtain ⟨N, rfl⟩ := Int.eq_ofNat_of_zero_le h0
 show IntKind.u64.wrap (((BitVec.ofInt 64 (N : Int) &&& BitVec.ofInt 64 (1 : Int)).toNat : Nat) : Int) = _
 rw [show BitVec.ofInt 64 (1 : Int) = 1#64 from rfl, BitVec.toNat_and, BitVec.ofInt_natCast, BitVec.toNat_ofNat, Nat.mod_eq_of_lt (by omega), show (1#64).toNat = 1 from rfl, Nat.and_one_is_mod]
 rw [Zbz (by omega) (by omega)]
 omega
theorem ZmC (x : Int) (h0 : 0 ≤ x) (h1 : x < 9223372036854775808) : bXor .i64 x 0 = x := by
 obtain ⟨N, rfl⟩ := Int.eq_ofNat_of_zero_le h0
 show IntKind.i64.wrap (((BitVec.ofInt 64 (N : Int) ^^^ BitVec.ofInt 64 (0 : Int)).toNat : Nat) : Int) = _
 rw [show BitVec.ofInt 64 (0 : Int) = 0#64 from rfl, BitVec.xor_zero, BitVec.ofInt_natCast, BitVec.toNat_ofNat, Nat.mod_eq_of_lt (by omega)]
 exact wrap_i64 (by omega) (by omega)
theorem ZmB (x : Int) (h0 : 0 ≤ x) (h1 : x < 9223372036854775808) : bXor .i64 x (-1) = -x - 1 := by
 obtain ⟨N, rfl⟩ := Int.eq_ofNat_of_zero_le h0
 show IntKind.i64.wrap (((BitVec.ofInt 64 (N : Int) ^^^ BitVec.ofInt 64 (-1 : Int)).toNat : Nat) : Int) = _
 rw [show BitVec.ofInt 64 (-1 : Int) = BitVec.allOnes 64 by decide, BitVec.xor_allOnes, BitVec.toNat_not, BitVec.ofInt_natCast, BitVec.toNat_ofNat, Nat.mod_eq_of_lt (by omega)]
 simp only [IntKind.wrap, IntKind.signed, IntKind.bits]
 simp
 omega
theorem Zqv (fu : Nat) (b : List Int) (hb : By b) (hl : b.length ≤ 100000) (hfu : b.length < fu) (at' : Int) : Zbv fu b at' = some (zag (got b at').1, (got b at').2.1, (got b at').2.2, ()) := by
 unfold Zbv
 rw [ZgQ fu b hb hl hfu]
 have hv : 0 ≤ (got b at').1 ∧ (got b at').1 < 18446744073709551616 := by
  generalize hq : got b at' = q
  obtain ⟨v, e, er⟩ := q
  by_cases h0 : er = 0
  ·subst h0
   obtain ⟨g1, g2, g3, _⟩ := ZsY hb hq
   exact ⟨g2, g3⟩
  ·unfold got at hq
   split at hq
   ·cases hq; simp
   ·have hz := Zku (b.drop at'.toNat) 0 0
    unfold Zqu at hq
    simp only [Prod.mk.injEq] at hq
    obtain ⟨rfl, _, h3⟩ := hq
    have := (hz (by rw [h3]; exact h0)).1
    rw [this]; omega
 generalize (got b at').1 = v at hv
 simp only [Option.bind_some]
 have e1 : sShr .u64 v 1 = v / 2 := by have := ZjY v 1 (by omega); simpa using this
 have e2 : IntKind.i64.wrap (v / 2) = v / 2 := wrap_i64 (by omega) (by omega)
 have e3 : IntKind.i64.wrap (v % 2) = v % 2 := wrap_i64 (by omega) (by omega)
 have e4 : IntKind.i64.wrap (0 - v % 2) = 0 - v % 2 := wrap_i64 (by omega) (by omega)
 rw [Ztq v hv.1 hv.2, e1, e2, e3, e4]
 unfold zag
 by_cases h : v % 2 = 0
 ·rw [if_pos h, h, show (0 : Int) - 0 = 0 by rfl, ZmC _ (by omega) (by omega)]
 ·rw [if_neg h, show v % 2 = 1 by omega, show (0 : Int) - 1 = -1 by rfl, ZmB _ (by omega) (by omega)]
theorem Zuk (n : Int) : zag (zig n) = n := by
 unfold zag zig
 split <;> split <;> omega
theorem Zmc (fu : Nat) (n : Int) (h0 : 0 ≤ n) (h1 : n < 18446744073709551616) : ((Zbd fu n).bind fun r => ZaO fu r.1) = some (ZcE n.toNat, ()) := by
 unfold Zbd ZaO Zba ZcE
 have t1 : Int.tdiv n 4503599627370496 = n / 4503599627370496 := Int.tdiv_eq_ediv_of_nonneg h0
 have t2 : IntKind.u64.wrap (n / 4503599627370496) = n / 4503599627370496 := Zbz (by omega) (by omega)
 have t3 : Int.tmod (n / 4503599627370496) 2048 = n / 4503599627370496 % 2048 := Int.tmod_eq_emod_of_nonneg (by omega)
 have t4 : IntKind.i64.wrap (n / 4503599627370496 % 2048) = n / 4503599627370496 % 2048 := wrap_i64 (by omega) (by omega)
 have t5 : Int.tmod n 4503599627370496 = n % 4503599627370496 := Int.tmod_eq_emod_of_nonneg h0
 have t6 : IntKind.u64.wrap (n / 4503599627370496 % 2048) = n / 4503599627370496 % 2048 := Zbz (by omega) (by omega)
 have t7 : IntKind.u64.wrap (n / 4503599627370496 % 2048 * 4503599627370496) = n / 4503599627370496 % 2048 * 4503599627370496 := Zbz (by omega) (by omega)
 have t8 : IntKind.u64.wrap (n / 4503599627370496 % 2048 * 4503599627370496 + n % 4503599627370496) = n / 4503599627370496 % 2048 * 4503599627370496 + n % 4503599627370496 := Zbz (by omega) (by omega)
 simp only [t1, t2, t3, t4, t5, t6, t7, t8, Option.bind_some]
 have hnan : Ziw n.toNat ↔ n / 4503599627370496 % 2048 = 2047 ∧ n % 4503599627370496 ≠ 0 := by
  unfold Ziw
  constructor
  ·intro h; omega
  ·rintro ⟨h1, h2⟩; omega
 by_cases hx : n / 4503599627370496 % 2048 = 2047
 ·by_cases hy : n % 4503599627370496 = 0
  ·rw [if_neg (fun h => (hnan.1 h).2 hy)]
   simp only [hx, hy, beq_self_eq_true, bne_self_eq_false, cond_true, cond_false, Option.bind_some]
   by_cases hs : n ≥ 9223372036854775808
   ·have : IntKind.u64.wrap (2047 * 4503599627370496 + 0 + 9223372036854775808) = n := by rw [Zbz (by omega) (by omega)]; omega
    simp only [hs, decide_true, cond_true, this]
    congr 2; omega
   ·simp only [hs, decide_false, cond_false]
    congr 2; omega
  ·rw [if_pos (hnan.2 ⟨hx, hy⟩)]
   have hy' : (n % 4503599627370496 != 0) = true := bne_iff_ne.2 hy
   simp only [hx, hy', beq_self_eq_true, cond_true, Option.bind_some]
 ·rw [if_neg (fun h => hx (hnan.1 h).1)]
  have hx' : (n / 4503599627370496 % 2048 == 2047) = false := beq_false_of_ne hx
  simp only [hx', cond_false, Option.bind_some]
  by_cases hs : n ≥ 9223372036854775808
  ·have : IntKind.u64.wrap (n / 4503599627370496 % 2048 * 4503599627370496 + n % 4503599627370496 + 9223372036854775808) = n := by rw [Zbz (by omega) (by omega)]; omega
   simp only [hs, decide_true, cond_true, this]
   congr 2; omega
  ·simp only [hs, decide_false, cond_false]
   congr 2; omega
theorem Zib (x : Nat) : ZcE (ZcE x).toNat = ZcE x := by
 unfold ZcE
 by_cases h : Ziw x
 ·rw [if_pos h, if_pos (by decide)]
 ·rw [if_neg h, Int.toNat_natCast, if_neg h]
theorem ZtU : ∀ (k : Nat) (n : Int), 0 ≤ n → n < 2 * 128 ^ k → By (putN k n) := by
 intro k
 induction k with
 | zero => intro n h0 h1 x hx; simp [putN] at hx; simp at h1; omega
 | succ k ih =>
  intro n h0 h1 x hx
  unfold putN at hx
  split at hx
  ·rcases List.mem_cons.1 hx with rfl | hx
   ·omega
   ·exact ih (n / 128) (by omega) (by rw [Int.pow_succ] at h1; omega) x hx
  ·simp at hx; omega
theorem ZkN (n : Int) (h0 : 0 ≤ n) (h1 : n < 18446744073709551616) : By (putN 9 n) := by
 have hp : (2 : Int) * 128 ^ 9 = 18446744073709551616 := by decide
 exact ZtU 9 n h0 (by omega)
theorem Zhb {a b : List Int} (ha : By a) (hb : By b) : By (a ++ b) := fun x hx => by
 rcases List.mem_append.1 hx with h | h
 ·exact ha x h
 ·exact hb x h
theorem Zqc (a s r : List Int) : cutL (a ++ s ++ r) a.length (a.length + s.length) = s := by
 unfold cutL
 rw [List.append_assoc, show (a.length : Int).toNat = a.length by omega, List.drop_left, show ((a.length : Int) + s.length - a.length).toNat = s.length by omega, List.take_left]
def noVa : Va := ((0 : Int), (0 : Int), (0 : Nat), [], ())
def val1 (b : List Int) (at' : Int) : Va × Int × Int :=
 if at' < 0 ∨ at' ≥ b.length then (noVa, 0, 3) else
 if ixL (0 : Int) b at' = 0 then (noVa, at' + 1, 0) else
 if ixL (0 : Int) b at' = 1 then (if (got b (at' + 1)).2.2 = 0 then (((1 : Int), zag (got b (at' + 1)).1, (0 : Nat), [], ()), (got b (at' + 1)).2.1, 0) else (noVa, 0, (got b (at' + 1)).2.2)) else
 if ixL (0 : Int) b at' = 2 then (if (ZiL b (at' + 1)).2.2 = 0 then (((2 : Int), (0 : Int), (ZiL b (at' + 1)).1, [], ()), (ZiL b (at' + 1)).2.1, 0) else (noVa, 0, (ZiL b (at' + 1)).2.2)) else
 if ixL (0 : Int) b at' = 3 then (if (Zja b (at' + 1) 255).2.2 = 0 then (((3 : Int), (0 : Int), (0 : Nat), (Zja b (at' + 1) 255).1, ()), (Zja b (at' + 1) 255).2.1, 0) else (noVa, 0, (Zja b (at' + 1) 255).2.2)) else
 (noVa, 0, 11)
theorem Zhk {x y : Int} (h : ¬ x = y) : (x != y) = true := bne_iff_ne.2 h
theorem ZnU (fu : Nat) (b : List Int) (hb : By b) (hl : b.length ≤ 100000) (hfu : b.length < fu) (hfu2 : 10 ≤ fu) (at' : Int) : ZaP fu b at' = some ((val1 b at').1, (val1 b at').2.1, (val1 b at').2.2, ()) := by
 unfold ZaP val1
 by_cases h1 : at' < 0
 ·rw [if_pos (Or.inl h1), decide_eq_true h1]; rfl
 ·by_cases h2 : at' ≥ (b.length : Int)
  ·rw [if_pos (Or.inr h2), decide_eq_false h1, decide_eq_true h2]; rfl
  ·have e0 : ixOk b at' = true := by unfold ixOk; simp; omega
   have e1 : IntKind.i64.wrap (at' + 1) = at' + 1 := wrap_i64 (by omega) (by omega)
   rw [if_neg (by omega), decide_eq_false h1, decide_eq_false h2]
   simp only [cond_false, e0, e1, chk, cond_true, ZaP.j14]
   generalize ixL (0 : Int) b at' = c
   by_cases c0 : c = 0
   ·subst c0; simp [noVa]
   ·by_cases c1 : c = 1
    ·subst c1
     simp only [ZbL c0, beq_self_eq_true, cond_true, cond_false, if_neg c0, if_true, Zqv fu b hb hl hfu, Option.bind_some]
     by_cases e : (got b (at' + 1)).2.2 = 0
     ·simp only [e, bne_self_eq_false, cond_false, if_true]
     ·simp only [Zhk e, cond_true, if_neg e, noVa]
    ·by_cases c2 : c = 2
     ·subst c2
      simp only [ZbL c0, ZbL c1, beq_self_eq_true, cond_true, cond_false, if_neg c0, if_neg c1, if_true, Zpg fu hfu2 b hb hl, Option.bind_some]
      by_cases e : (ZiL b (at' + 1)).2.2 = 0
      ·simp only [e, bne_self_eq_false, cond_false, if_true]
      ·simp only [Zhk e, cond_true, if_neg e, noVa]
     ·by_cases c3 : c = 3
      ·subst c3
       simp only [ZbL c0, ZbL c1, ZbL c2, beq_self_eq_true, cond_true, cond_false, if_neg c0, if_neg c1, if_neg c2, if_true, Zph fu b hb hl hfu (at' + 1) 255 (by omega), Option.bind_some]
       by_cases e : (Zja b (at' + 1) 255).2.2 = 0
       ·simp only [e, bne_self_eq_false, cond_false, if_true]
       ·simp only [Zhk e, cond_true, if_neg e, noVa]
      ·simp only [ZbL c0, ZbL c1, ZbL c2, ZbL c3, cond_false, if_neg c0, if_neg c1, if_neg c2, if_neg c3, noVa, Zhk (show ¬ (11 : Int) = 0 by decide), cond_true]
def ZnM (a b : Va) : Bool := decide (a.1 = b.1) && (if a.1 = 1 then decide (a.2.1 = b.2.1) else if a.1 = 2 then decide (ZcE a.2.2.1 = ZcE b.2.2.1) else if a.1 = 3 then decide (a.2.2.2.1 = b.2.2.2.1) else true)
theorem Zfn {β : Type} (fu : Nat) {x : Nat} (h : F64 x) (K : Int × Unit → Option β) : ((Zcf fu x).bind fun r1 => (ZaO fu r1.1).bind K) = K (ZcE x, ()) := by
 unfold Zcf
 rw [ZcW fu h]
 have h' : x < 18446744073709551616 := h
 have e := Zmc fu (x : Int) (by omega) (by omega)
 rw [Int.toNat_natCast] at e
 show ((((Zbd fu (x : Int)).bind fun r2 => some (r2.1, ())).bind fun r1 => (ZaO fu r1.1).bind K)) = _
 cases hq : Zbd fu (x : Int) with
 | none => rw [hq] at e; exact absurd e (by simp)
 | some r =>
  rw [hq] at e
  simp only [Option.bind_some] at e ⊢
  rw [e]; rfl
theorem Zsz (fu : Nat) (a b : Va) (ha : F64 a.2.2.1) (hb : F64 b.2.2.1) : ZbG fu a b = some (ZnM a b, ()) := by
 unfold ZbG ZnM
 by_cases h : a.1 = b.1
 ·simp only [h, bne_self_eq_false, cond_false, decide_true, Bool.true_and]
  by_cases k1 : b.1 = 1
  ·simp only [k1, beq_self_eq_true, cond_true, if_true]
   congr 2
  ·by_cases k2 : b.1 = 2
   ·simp only [k2, ZbL (show ¬ (2 : Int) = 1 by decide), beq_self_eq_true, cond_true, cond_false, show ¬ (2 : Int) = 1 by decide, if_false, if_true]
    rw [Zfn fu ha, Zfn fu hb]
    congr 2
   ·by_cases k3 : b.1 = 3
    ·simp only [k3, ZbL (show ¬ (3 : Int) = 1 by decide), ZbL (show ¬ (3 : Int) = 2 by decide), beq_self_eq_true, cond_true, cond_false, show ¬ (3 : Int) = 1 by decide, show ¬ (3 : Int) = 2 by decide, if_false, if_true]
     congr 2
     cases hq : decide (a.2.2.2.1 = b.2.2.2.1) with
     | true => rw [of_decide_eq_true hq]; exact beq_self_eq_true _
     | false => exact beq_false_of_ne (of_decide_eq_false hq)
    ·simp only [ZbL k1, ZbL k2, ZbL k3, cond_false, if_neg k1, if_neg k2, if_neg k3]
 ·simp only [Zhk h, cond_true, decide_eq_false h, Bool.false_and]
def putV (v : Va) : List Int := v.1 :: (if v.1 = 1 then putN 9 (zig v.2.1) else if v.1 = 2 then Zdi (ZcE v.2.2.1) else if v.1 = 3 then putN 9 v.2.2.2.1.length ++ v.2.2.2.1 else [])
def vaOk (v : Va) : Prop := (0 ≤ v.1 ∧ v.1 ≤ 255) ∧ (-9223372036854775808 ≤ v.2.1 ∧ v.2.1 < 9223372036854775808) ∧ F64 v.2.2.1 ∧ By v.2.2.2.1
theorem mkOk0 {n : Int} (h0 : 0 ≤ n) (h1 : n ≤ 500000) : mkOk (0 : Int) n 1 = true := by
 have hL : (1000000 : Int) ≤ (LIM : Int) := by decide
 unfold mkOk
 simp only [Bool.and_eq_true, decide_eq_true_eq]
 omega
theorem ZhJ {v : Va} (h : mayV v = true) : v.2.2.2.1.length ≤ 255 := by
 unfold mayV at h; simp only [Bool.and_eq_true, decide_eq_true_eq] at h; exact h.2
theorem ZkV (fu : Nat) (k2 : Int → List Int → Option (((List Int) × Unit) × (Unit))) : ∀ (k m : Nat) (n : Int) (out : List Int), k < m → 0 ≤ n → n < 128 ^ (k + 1) → n < 18446744073709551616 → out.length + k ≤ 500000 →
  ∃ last init, putN k n = init ++ [last] ∧ 0 ≤ last ∧ last < 128 ∧ ZaH.l3 fu k2 m n out = k2 last (out ++ init) := by
 intro k
 induction k with
 | zero =>
  intro m n out hm h0 h1 _ hl
  obtain ⟨m, rfl⟩ : ∃ j, m = j + 1 := ⟨m - 1, by omega⟩
  have hn : ¬ n ≥ 128 := by
   have : (128 : Int) ^ (0 + 1) = 128 := by decide
   omega
  refine ⟨n, [], by simp [putN], h0, by omega, ?_⟩
  unfold ZaH.l3 ZaH.b3
  simp [hn]
 | succ k ih =>
  intro m n out hm h0 h1 h64 hl
  obtain ⟨m, rfl⟩ : ∃ j, m = j + 1 := ⟨m - 1, by omega⟩
  unfold ZaH.l3 ZaH.b3 putN
  by_cases hn : n ≥ 128
  ·have t1 : Int.tmod n 128 = n % 128 := Int.tmod_eq_emod_of_nonneg h0
   have t2 : Int.tdiv n 128 = n / 128 := Int.tdiv_eq_ediv_of_nonneg h0
   have e1 : IntKind.u64.wrap (n / 128) = n / 128 := Zbz (by omega) (by omega)
   have e2 : IntKind.u8.wrap (IntKind.u64.wrap (n % 128 + 128)) = n % 128 + 128 := by rw [Zbz (by omega) (by omega), Zdr]; omega
   rw [ZiK] at h1
   obtain ⟨last, init, q1, q2, q3, q4⟩ := ih m (n / 128) (out ++ [n % 128 + 128]) (by omega) (by omega) (by omega) (by omega) (by simp; omega)
   refine ⟨last, (n % 128 + 128) :: init, by rw [if_pos hn, q1]; rfl, q2, q3, ?_⟩
   have e3 : apOk out [n % 128 + 128] 1 = true := Zdg (by simp; omega)
   simp only [hn, decide_true, cond_true, t1, t2, e1, e2, e3, chk]
   rw [q4, List.append_assoc]
   rfl
  ·refine ⟨n, [], by rw [if_neg hn]; rfl, h0, by omega, ?_⟩
   simp [hn]
theorem Zgs (fu : Nat) (hfu : 12 ≤ fu) (b : List Int) (n : Int) (hl : b.length ≤ 400000) (h0 : 0 ≤ n) (h1 : n < 18446744073709551616) : ZaH fu b n = some ((b ++ putN 9 n, ()), ()) := by
 have hp : (128 : Int) ^ (9 + 1) = 1180591620717411303424 := by decide
 obtain ⟨last, init, p1, p2, p3, p4⟩ := ZkV fu (fun nq2 outq2 =>
   chk (apOk outq2 ([IntKind.u8.wrap nq2]) 1) <|
   let t3 := outq2 ++ ([IntKind.u8.wrap nq2])
   some ((t3, ()), (()))) 9 fu n b (by omega) h0 (by omega) h1 (by omega)
 have hlen := Zep 9 n
 rw [p1] at hlen
 simp only [List.length_append, List.length_cons, List.length_nil] at hlen
 have e1 : IntKind.u8.wrap last = last := by rw [Zdr]; omega
 have e2 : apOk (b ++ init) [last] 1 = true := Zdg (by simp; omega)
 have e3 : apOk ([] : List Int) b 1 = true := Zdg (by simp; omega)
 unfold ZaH
 simp only [e3, chk, cond_true, List.nil_append]
 refine p4.trans ?_
 simp only [e1, e2, chk, cond_true, p1, List.append_assoc]
theorem ZhU {n : Int} (h0 : -9223372036854775808 ≤ n) (h1 : n < 9223372036854775808) : 0 ≤ zig n ∧ zig n < 18446744073709551616 := by
 unfold zig; split <;> omega
theorem ZsJ (a rest s : List Int) (hs : s.length ≤ 255) : Zja (a ++ (putN 9 s.length ++ s) ++ rest) a.length 255 = (s, (a.length : Int) + ((putN 9 s.length).length : Int) + s.length, 0) := by
 have g := ZmX a (s ++ rest) s.length (by omega) (by omega)
 rw [show a ++ putN 9 (s.length : Int) ++ (s ++ rest) = a ++ (putN 9 s.length ++ s) ++ rest by simp] at g
 unfold Zja
 rw [g]
 simp only
 rw [if_neg (by simp), if_neg (by omega), if_neg (by simp; omega)]
 have := Zqc (a ++ putN 9 s.length) s rest
 rw [show a ++ putN 9 (s.length : Int) ++ s ++ rest = a ++ (putN 9 s.length ++ s) ++ rest by simp, List.length_append] at this
 rw [show ((a.length : Int) + ((putN 9 (s.length : Int)).length : Int)) = ((a.length + (putN 9 (s.length : Int)).length : Nat) : Int) by omega, this]
theorem Zsu (a rest : List Int) (x : Nat) (hx : F64 x) : ZiL (a ++ Zdi (ZcE x) ++ rest) a.length = ((ZcE x).toNat, (a.length : Int) + 8, 0) := by
 have hc := ZgI x hx
 have hm := Zqc a (Zdi (ZcE x)) rest
 rw [show (Zdi (ZcE x)).length = 8 from rfl] at hm
 unfold ZiL
 rw [if_neg (by simp [Zdi]; omega)]
 rw [show ((a.length : Int) + ((8 : Nat) : Int)) = (a.length : Int) + 8 from rfl] at hm
 rw [hm, ZpO _ hc.1 hc.2, if_pos (Zib x)]
def cv (v : Va) : Va := (v.1, v.2.1, (ZcE v.2.2.1).toNat, v.2.2.2.1, ())
theorem Ztz (v : Va) : ZnM (cv v) v = true := by
 unfold ZnM cv
 have h := Zib v.2.2.1
 simp [h]
theorem Zuj (a rest : List Int) (v : Va) (hv : vaOk v) (hm : mayV v = true) : val1 (a ++ putV v ++ rest) a.length = (cv v, (a.length : Int) + (putV v).length, 0) := by
 have hm0 := hm
 unfold mayV at hm
 simp only [Bool.and_eq_true, Bool.or_eq_true, decide_eq_true_eq] at hm
 obtain ⟨⟨⟨⟨m1, m2⟩, m3⟩, m4⟩, m5⟩ := hm
 obtain ⟨k, i, x, s, u⟩ := v
 simp only at m1 m2 m3 m4 m5
 have hk := hv.1.1
 have hi := ZhU hv.2.1.1 hv.2.1.2
 have hx : F64 x := hv.2.2.1
 simp only at hk hi
 have e1 : ∀ t : List Int, ixL (0 : Int) (a ++ (k :: t) ++ rest) a.length = k := fun t => by
  unfold ixL; simp
 have e2 : ∀ t : List Int, a ++ (k :: t) ++ rest = (a ++ [k]) ++ t ++ rest := fun t => by simp
 have e3 : (a.length : Int) + 1 = ((a ++ [k]).length : Int) := by simp
 have e4 : ∀ t : List Int, ¬ ((a.length : Int) < 0 ∨ (a.length : Int) ≥ ((a ++ (k :: t) ++ rest).length : Int)) := fun t => by simp; omega
 have c0 : (ZcE 0).toNat = 0 := by decide
 unfold val1 cv
 simp only
 by_cases k0 : k = 0
 ·subst k0
  have : i = 0 := by omega
  have : x = 0 := by omega
  have hs0 : s = [] := by rcases m4 with h | h; exact h; omega
  subst_vars
  have p : putV (0, 0, 0, [], u) = 0 :: [] := rfl
  rw [p, if_neg (e4 _), e1, if_pos rfl, c0]
  simp [noVa]
 ·by_cases k1 : k = 1
  ·subst k1
   have : x = 0 := by omega
   have hs0 : s = [] := by rcases m4 with h | h; exact h; omega
   subst_vars
   have p : putV (1, i, 0, [], u) = 1 :: putN 9 (zig i) := rfl
   rw [p, if_neg (e4 _), e1, if_neg k0, if_pos rfl, e2, e3, ZmX _ rest _ hi.1 hi.2, if_pos rfl, Zuk, c0]
   simp; omega
  ·by_cases k2 : k = 2
   ·subst k2
    have : i = 0 := by omega
    have hs0 : s = [] := by rcases m4 with h | h; exact h; omega
    subst_vars
    have p : putV (2, 0, x, [], u) = 2 :: Zdi (ZcE x) := rfl
    rw [p, if_neg (e4 _), e1, if_neg k0, if_neg k1, if_pos rfl, e2, e3, Zsu _ rest _ hx, if_pos rfl]
    simp [Zdi]; omega
   ·have k3 : k = 3 := by omega
    subst k3
    have : i = 0 := by omega
    have : x = 0 := by omega
    subst_vars
    have p : putV (3, 0, 0, s, u) = 3 :: (putN 9 s.length ++ s) := rfl
    rw [p, if_neg (e4 _), e1, if_neg k0, if_neg k1, if_neg k2, if_pos rfl, e2, e3, ZsJ _ rest _ m5, if_pos rfl, c0]
    simp; omega
theorem ZoP (n : Int) : (Zdi n).length = 8 := rfl
theorem ZkP {v : Va} (hm : mayV v = true) : (putV v).length ≤ 300 := by
 have := ZhJ hm
 have h1 := Zep 9 (zig v.2.1)
 have h2 := Zep 9 (v.2.2.2.1.length)
 unfold putV
 split
 ·simp only [List.length_cons]; omega
 ·split
  ·simp only [List.length_cons, ZoP]; omega
  ·split
   ·simp only [List.length_cons, List.length_append]; omega
   ·simp
theorem ZtW {v : Va} (hv : vaOk v) (hm : mayV v = true) : By (putV v) := by
 have hi := ZhU hv.2.1.1 hv.2.1.2
 have hk := hv.1
 have hs := hv.2.2.2
 have hl := ZhJ hm
 unfold putV
 intro x hx
 rcases List.mem_cons.1 hx with rfl | hx
 ·exact hk
 ·split at hx
  ·exact ZkN _ hi.1 hi.2 x hx
  ·split at hx
   ·exact ZpX _ x hx
   ·split at hx
    ·exact Zhb (ZkN _ (by omega) (by omega)) hs x hx
    ·exact nomatch hx
theorem ZrO (fu : Nat) (b : List Int) (hl : b.length ≤ 500000) : Zbh fu b = some ((b, ()), ()) := by
 have e1 : apOk ([] : List Int) b 1 = true := Zdg (by simp; omega)
 unfold Zbh
 simp only [e1, chk, cond_true, List.nil_append]
 cases b with
 | nil => unfold nilQ both; simp
 | cons x q => rfl
def rung (x : Nat) : Nat := x % 9223372036854775808
def sgn (x : Nat) : Bool := x / 9223372036854775808 % 2 == 1
instance (x : Nat) : Decidable (Ziw x) := inferInstanceAs (Decidable (_ > _))
def key (x : Nat) : Int := if Ziw x then 18444492273895866368 else if sgn x = true then 9223372036854775807 - (rung x : Int) else 9223372036854775808 + (rung x : Int)
def ZsC (x y : Te) : Bool := decide (x.1 = y.1) && (decide (x.2.1 = y.2.1) && ZnM x.2.2.1 y.2.2.1)
def allT : List Te → List Te → Bool
 | x :: xs, y :: ys => ZsC x y && allT xs ys
 | _, _ => true
theorem ZnD (fu : Nat) (k1 : Bool → Option (Bool × Unit)) (k2 : Unit → Option (Bool × Unit)) (a b : Pd) (hl : a.2.2.1.length = b.2.2.1.length) (hmax : a.2.2.1.length ≤ 1000) (ha : okT a.2.2.1) (hb : okT b.2.2.1) : ∀ (k m i : Nat), i + k = a.2.2.1.length → k < m →
  ZaD.l4 fu k1 k2 m a.2.2.1.length i a b = cond (allT (a.2.2.1.drop i) (b.2.2.1.drop i)) (k2 ()) (k1 false) := by
 intro k
 induction k with
 | zero =>
  intro m i h1 h2
  obtain ⟨m, rfl⟩ : ∃ j, m = j + 1 := ⟨m - 1, by omega⟩
  rw [List.drop_eq_nil_of_le (by omega)]
  unfold ZaD.l4 ZaD.b4
  rw [decide_eq_false (by omega), cond_false]
  rfl
 | succ k ih =>
  intro m i h1 h2
  obtain ⟨m, rfl⟩ : ∃ j, m = j + 1 := ⟨m - 1, by omega⟩
  have hi : i < a.2.2.1.length := by omega
  have hi' : i < b.2.2.1.length := by omega
  have e1 : IntKind.i64.wrap ((i : Int) + 1) = ((i + 1 : Nat) : Int) := wrap_i64 (by omega) (by omega)
  have := ih m (i + 1) (by omega) (by omega)
  have ea := ha _ (List.getElem_mem hi)
  have eb := hb _ (List.getElem_mem hi')
  rw [Zcl hi, Zcl hi']
  unfold ZaD.l4 ZaD.b4 allT ZsC
  rw [decide_eq_true (by omega), cond_true, ZcQ hi, ZcQ hi', ixT hi, ixT hi']
  simp only [Zsz fu _ _ ea eb, chk, cond_true, Option.bind_some, e1, this]
  generalize a.2.2.1[i] = x
  generalize b.2.2.1[i] = y
  by_cases h1 : x.1 = y.1
  ·by_cases h2 : x.2.1 = y.2.1
   ·simp only [h1, h2, bne_self_eq_false, cond_false, decide_true, Bool.true_and]
    cases ZnM x.2.2.1 y.2.2.1 <;> simp
   ·simp only [h1, bne_self_eq_false, cond_false, Zhk h2, cond_true, decide_eq_false h2, Bool.false_and, Bool.and_false]
  ·simp only [Zhk h1, cond_true, decide_eq_false h1, Bool.false_and, cond_false]
def ZnN (a b : Pd) : Bool := (a.1 == b.1) && (decide (a.2.1 = b.2.1) && (decide (a.2.2.1.length = b.2.2.1.length) && allT a.2.2.1 b.2.2.1))
theorem ZtJ (x y : Nat) : ((x : Int) != (y : Int)) = !decide (x = y) := by
 by_cases h : x = y
 ·subst h; simp
 ·rw [decide_eq_false h]; exact Zhk (by omega)
theorem ZnC (fu : Nat) (a b : Pd) (hmax : a.2.2.1.length ≤ 1000) (hfu : a.2.2.1.length < fu) (ha : okT a.2.2.1) (hb : okT b.2.2.1) : ZaD fu a b = some (ZnN a b, ()) := by
 unfold ZaD ZnN
 have q : (a.2.1 != b.2.1) = !decide (a.2.1 = b.2.1) := rfl
 rw [q]
 simp only [ZtJ]
 by_cases hl : a.2.2.1.length = b.2.2.1.length
 ·have := ZnD fu (fun vq3 => some (vq3, ())) (fun _ => some (true, ())) a b hl hmax ha hb a.2.2.1.length fu 0 (by omega) hfu
  rw [List.drop_zero, List.drop_zero] at this
  rw [show ((0 : Nat) : Int) = 0 from rfl] at this
  simp only [decide_eq_true hl, Bool.not_true, cond_false, this]
  cases (a.1 == b.1) <;> cases decide (a.2.1 = b.2.1) <;> cases allT a.2.2.1 b.2.2.1 <;> rfl
 ·simp only [decide_eq_false hl, Bool.not_false, cond_true]
  cases (a.1 == b.1) <;> cases decide (a.2.1 = b.2.1) <;> rfl
theorem ZkO (fu : Nat) (hfu : 12 ≤ fu) (b : List Int) (n : Int) (hl : b.length ≤ 400000) (h0 : 0 ≤ n) (h1 : n < 18446744073709551616) : ZaN fu b n = some ((b ++ putN 9 n, ()), ()) := by
 obtain ⟨r, q1, q2, q3⟩ := Zuf fu n h0 h1
 have hp : (128 : Int) ^ (9 + 1) = 1180591620717411303424 := by decide
 obtain ⟨last, init, p1, p2, p3, p4⟩ := Znr fu (fun nq2 outq2 =>
  chk (apOk outq2 ([IntKind.u8.wrap nq2]) 1) <|
  let t3 := outq2 ++ ([IntKind.u8.wrap nq2])
  some ((t3, ()), (()))) 9 fu n b (by omega) h0 (by omega) (by omega)
 have hlen := Zep 9 n
 rw [p1] at hlen
 simp only [List.length_append, List.length_cons, List.length_nil] at hlen
 have e1 : IntKind.u8.wrap last = last := by rw [Zdr]; omega
 have e2 : apOk (b ++ init) [last] 1 = true := Zdg (by simp; omega)
 unfold ZaN
 simp only [q1, Option.bind_some, Ztf fu b r (by omega) q2 (by omega)]
 refine p4.trans ?_
 simp only [e1, e2, chk, cond_true, p1, List.append_assoc]
theorem Znt (fu : Nat) (hfu : 12 ≤ fu) (b s : List Int) (hl : b.length ≤ 400000) (hs : s.length ≤ 400000) : Zbf fu b s = some ((b ++ putN 9 s.length ++ s, ()), ()) := by
 unfold Zbf
 have e1 : IntKind.u64.wrap (s.length : Int) = s.length := Zbz (by omega) (by omega)
 have := Zep 9 s.length
 have e2 : apOk (b ++ putN 9 s.length) s 1 = true := Zdg (by rw [List.length_append]; omega)
 simp only [e1, ZkO fu hfu b s.length hl (by omega) (by omega), Option.bind_some, e2, chk, cond_true]
theorem Zde (fu : Nat) (k2 : List Int → Option (((List Int) × Unit) × (Unit))) (m k : Nat) (hk : k < 64) (out : List Int) (n : Int) (ho : out.length ≤ 900000) :
  Zas.l4 fu k2 (m + 1) out n (k : Int) = Zas.l4 fu k2 m (out ++ [n / 2 ^ k % 256]) n ((k : Int) - 8) := by
 have e1 : apOk out [n / 2 ^ k % 256] 1 = true := Zdg (by simp; omega)
 have e2 : IntKind.i64.wrap ((k : Int) - 8) = k - 8 := wrap_i64 (by omega) (by omega)
 have h1 : decide ((k : Int) ≥ 0) = true := decide_eq_true (by omega)
 have h2 : decide ((k : Int) < 0) = false := decide_eq_false (by omega)
 conv => lhs; unfold Zas.l4 Zas.b4
 simp only [h1, h2, cond_true, chk, Bool.not_false, ZjY n k hk, Zdr, e1, e2]
theorem Zrd (fu : Nat) (k2 : List Int → Option (((List Int) × Unit) × (Unit))) (m : Nat) (out : List Int) (n : Int) : Zas.l4 fu k2 (m + 1) out n (-8) = k2 out := by
 unfold Zas.l4 Zas.b4
 rfl
theorem Zns (f : Nat) (b : List Int) (x : Nat) (hl : b.length ≤ 400000) (hx : x < 18446744073709551616) :
  Zas (f + 9) b x = some ((b ++ Zdi (ZcE x), ()), ()) := by
 unfold Zas
 rw [Ztf _ b 8 (by omega) (by omega) (by omega), ZiM _ x hx]
 simp only [Option.bind_some]
 generalize ZcE x = n
 refine (Zde _ _ (f + 8) 56 (by omega) b n (by omega)).trans ?_
 refine (Zde _ _ (f + 7) 48 (by omega) _ n (by simp; omega)).trans ?_
 refine (Zde _ _ (f + 6) 40 (by omega) _ n (by simp; omega)).trans ?_
 refine (Zde _ _ (f + 5) 32 (by omega) _ n (by simp; omega)).trans ?_
 refine (Zde _ _ (f + 4) 24 (by omega) _ n (by simp; omega)).trans ?_
 refine (Zde _ _ (f + 3) 16 (by omega) _ n (by simp; omega)).trans ?_
 refine (Zde _ _ (f + 2) 8 (by omega) _ n (by simp; omega)).trans ?_
 refine (Zde _ _ (f + 1) 0 (by omega) _ n (by simp; omega)).trans ?_
 refine (Zrd _ _ f _ n).trans ?_
 simp [Zdi]
theorem Zmf (fu : Nat) (hfu : 9 ≤ fu) (b : List Int) (x : Nat) (hl : b.length ≤ 400000) (hx : x < 18446744073709551616) : Zas fu b x = some ((b ++ Zdi (ZcE x), ()), ()) := by
 have := Zns (fu - 9) b x hl hx
 rwa [show fu - 9 + 9 = fu by omega] at this
theorem Zpw (fu : Nat) (hfu : 12 ≤ fu) (b : List Int) (n : Int) (hl : b.length ≤ 400000) (h0 : -9223372036854775808 ≤ n) (h1 : n < 9223372036854775808) : Zbs fu b n = some ((b ++ putN 9 (zig n), ()), ()) := by
 unfold Zbs zig
 rw [shr63 n h0 h1]
 have hsh : ∀ x : Int, 0 ≤ x → x < 18446744073709551616 → sShl .u64 x 1 = IntKind.u64.wrap (x * 2) := fun x _ _ => by
  unfold sShl
  have e : min (1 : Int).toNat IntKind.u64.bits = 1 := by decide
  rw [e]
  rfl
 by_cases hn : n ≥ 0
 ·have e1 : IntKind.u64.wrap n = n := Zbz (by omega) (by omega)
  have e2 : sShl .u64 n 1 = 2 * n := by rw [hsh n hn (by omega), Zbz (by omega) (by omega)]; omega
  have e3 : IntKind.u64.wrap 0 = 0 := by decide
  simp only [hn, if_true, e1, e2, e3, ZpK (2 * n) (by omega) (by omega), ZkO fu hfu b (2 * n) hl (by omega) (by omega), Option.bind_some]
 ·have e1 : IntKind.u64.wrap n = n + 18446744073709551616 := by
   simp only [IntKind.wrap, IntKind.signed, IntKind.bits]
   simp
   omega
  have e2 : sShl .u64 (n + 18446744073709551616) 1 = 2 * n + 18446744073709551616 := by
   rw [hsh _ (by omega) (by omega)]
   simp only [IntKind.wrap, IntKind.signed, IntKind.bits]
   simp
   omega
  have e3 : IntKind.u64.wrap (-1) = 18446744073709551615 := by decide
  have e4 : (18446744073709551615 : Int) - (2 * n + 18446744073709551616) = -2 * n - 1 := by omega
  simp only [hn, if_false, e1, e2, e3, ZpJ (2 * n + 18446744073709551616) (by omega) (by omega), e4, ZkO fu hfu b (-2 * n - 1) hl (by omega) (by omega), Option.bind_some]
theorem ZmA (fu : Nat) (hfu : 12 ≤ fu) (b : List Int) (v : Va) (hl : b.length ≤ 300000) (hv : vaOk v) : ZbX fu b v = some ((if mayV v = true then b ++ putV v else [], if mayV v = true then 0 else 1, ()), ()) := by
 unfold ZbX
 simp only [Zjd fu v hv.2.2.1, Option.bind_some]
 by_cases hm : mayV v = true
 ·have e1 : IntKind.i64.wrap ((b.length : Int) + 1) = b.length + 1 := wrap_i64 (by omega) (by omega)
  have e2 : mkOk (0 : Int) ((b.length : Int) + 1) 1 = true := mkOk0 (by omega) (by omega)
  have e3 : apOk ([] : List Int) b 1 = true := Zdg (by simp; omega)
  have e4 : apOk b [v.1] 1 = true := Zdg (by simp; omega)
  have hlen := ZhJ hm
  simp only [hm, Bool.not_true, cond_false, e1, e2, chk, cond_true, if_true, Int.toNat_zero, List.replicate_zero, e3, List.nil_append, e4]
  unfold putV
  by_cases k1 : v.1 = 1
  ·simp only [k1, beq_self_eq_true, cond_true, Zpw fu hfu (b ++ [1]) v.2.1 (by simp; omega) hv.2.1.1 hv.2.1.2, Option.bind_some, if_true, List.append_assoc, List.singleton_append]
  ·by_cases k2 : v.1 = 2
   ·simp only [k2, ZbL (show ¬ (2 : Int) = 1 by decide), beq_self_eq_true, cond_true, cond_false, Zmf fu (by omega) (b ++ [2]) v.2.2.1 (by simp; omega) hv.2.2.1, Option.bind_some, show ¬ (2 : Int) = 1 by decide, if_false, if_true, List.append_assoc, List.singleton_append]
   ·by_cases k3 : v.1 = 3
    ·simp only [k3, ZbL (show ¬ (3 : Int) = 1 by decide), ZbL (show ¬ (3 : Int) = 2 by decide), beq_self_eq_true, cond_true, cond_false, Znt fu hfu (b ++ [3]) v.2.2.2.1 (by simp; omega) (by omega), Option.bind_some, show ¬ (3 : Int) = 1 by decide, show ¬ (3 : Int) = 2 by decide, if_false, if_true, List.append_assoc, List.nil_append, List.cons_append]
    ·simp only [ZbL k1, ZbL k2, ZbL k3, cond_false, if_neg k1, if_neg k2, if_neg k3]
 ·have hm' : mayV v = false := by simpa using hm
  simp [hm']
theorem ZkU (fu : Nat) (hfu : 12 ≤ fu) (b : List Int) (n : Int) (hl : b.length ≤ 400000) (h0 : -9223372036854775808 ≤ n) (h1 : n < 9223372036854775808) : Zbg fu b n = some ((b ++ putN 9 (zig n), ()), ()) := by
 unfold Zbg
 by_cases h : n ≥ 0
 ·have e1 : IntKind.u64.wrap n = n := Zbz (by omega) (by omega)
  have e2 : IntKind.u64.wrap (2 * n) = zig n := by rw [Zbz (by omega) (by omega)]; unfold zig; rw [if_pos h]
  have hz := ZhU h0 h1
  simp only [decide_eq_true h, cond_true, e1, e2, Zgs fu hfu b _ hl hz.1 hz.2, Option.bind_some]
 ·have e0 : IntKind.i64.wrap (n + 1) = n + 1 := wrap_i64 (by omega) (by omega)
  have e3 : IntKind.i64.wrap (0 - (n + 1)) = -n - 1 := by rw [wrap_i64 (by omega) (by omega)]; omega
  have e1 : IntKind.u64.wrap (-n - 1) = -n - 1 := Zbz (by omega) (by omega)
  have e4 : IntKind.u64.wrap (2 * (-n - 1)) = 2 * (-n - 1) := Zbz (by omega) (by omega)
  have e2 : IntKind.u64.wrap (2 * (-n - 1) + 1) = zig n := by rw [Zbz (by omega) (by omega)]; unfold zig; rw [if_neg h]; omega
  have hz := ZhU h0 h1
  simp only [decide_eq_false h, cond_false, e0, e3, e1, e4, e2, Zgs fu hfu b _ hl hz.1 hz.2, Option.bind_some]
theorem Zjv (fu : Nat) (hfu : 12 ≤ fu) (b s : List Int) (hl : b.length ≤ 400000) (hs : s.length ≤ 400000) : Zbb fu b s = some ((b ++ putN 9 s.length ++ s, ()), ()) := by
 unfold Zbb
 have e1 : IntKind.u64.wrap (s.length : Int) = s.length := Zbz (by omega) (by omega)
 have := Zep 9 s.length
 have e2 : apOk (b ++ putN 9 s.length) s 1 = true := Zdg (by rw [List.length_append]; omega)
 simp only [e1, Zgs fu hfu b s.length hl (by omega) (by omega), Option.bind_some, e2, chk, cond_true]
theorem Zco (fu : Nat) (k2 : List Int → List Int → Option (((List Int) × Unit) × (Unit))) (m k : Nat) (hk : k < 8) (out : List Int) (n : Int) (h0 : 0 ≤ n) (h1 : n < 18446744073709551616) (c0 : List Int) (hc : c0.length = 8) :
  Zan.l6 fu k2 (m + 1) out n (k : Int) c0 = Zan.l6 fu k2 m out (n / 256) ((k : Int) - 1) (c0.set k (n % 256)) := by
 have t1 : Int.tmod n 256 = n % 256 := Int.tmod_eq_emod_of_nonneg h0
 have t2 : Int.tdiv n 256 = n / 256 := Int.tdiv_eq_ediv_of_nonneg h0
 have e1 : IntKind.u8.wrap (n % 256) = n % 256 := by rw [Zdr]; omega
 have e2 : IntKind.u64.wrap (n / 256) = n / 256 := Zbz (by omega) (by omega)
 have e3 : IntKind.i64.wrap ((k : Int) - 1) = k - 1 := wrap_i64 (by omega) (by omega)
 have e4 : ZtH 8 (k : Int) = true := by unfold ZtH; simp; omega
 have e5 : nOk c0 8 = true := by unfold nOk; rw [hc]; rfl
 conv => lhs; unfold Zan.l6 Zan.b6
 simp only [decide_eq_true (show (k : Int) ≥ 0 by omega), cond_true, t1, t2, e1, e2, e3, e4, e5, chk, stL, Int.toNat_natCast]
theorem Zml (fu : Nat) (k2 : List Int → List Int → Option (((List Int) × Unit) × (Unit))) (m : Nat) (out : List Int) (n : Int) (c0 : List Int) : Zan.l6 fu k2 (m + 1) out n (-1) c0 = k2 out c0 := by
 unfold Zan.l6 Zan.b6
 rfl
theorem Zhz (fu : Nat) (k2 : List Int → List Int → Option (((List Int) × Unit) × (Unit))) (f : Nat) (out : List Int) (n : Int) (h0 : 0 ≤ n) (h1 : n < 18446744073709551616) :
  Zan.l6 fu k2 (f + 9) out n 7 (List.replicate 8 0) = k2 out (Zdi n) := by
 refine (Zco _ _ (f + 8) 7 (by omega) out n h0 h1 _ rfl).trans ?_
 refine (Zco _ _ (f + 7) 6 (by omega) out _ (by omega) (by omega) _ (by simp)).trans ?_
 refine (Zco _ _ (f + 6) 5 (by omega) out _ (by omega) (by omega) _ (by simp)).trans ?_
 refine (Zco _ _ (f + 5) 4 (by omega) out _ (by omega) (by omega) _ (by simp)).trans ?_
 refine (Zco _ _ (f + 4) 3 (by omega) out _ (by omega) (by omega) _ (by simp)).trans ?_
 refine (Zco _ _ (f + 3) 2 (by omega) out _ (by omega) (by omega) _ (by simp)).trans ?_
 refine (Zco _ _ (f + 2) 1 (by omega) out _ (by omega) (by omega) _ (by simp)).trans ?_
 refine (Zco _ _ (f + 1) 0 (by omega) out _ (by omega) (by omega) _ (by simp)).trans ?_
 refine (Zml _ _ f _ _ _).trans ?_
 congr 1
 have d1 : n / 256 / 256 = n / 65536 := by omega
 have d2 : n / 65536 / 256 = n / 16777216 := by omega
 have d3 : n / 16777216 / 256 = n / 4294967296 := by omega
 have d4 : n / 4294967296 / 256 = n / 1099511627776 := by omega
 have d5 : n / 1099511627776 / 256 = n / 281474976710656 := by omega
 have d6 : n / 281474976710656 / 256 = n / 72057594037927936 := by omega
 simp only [d1, d2, d3, d4, d5, d6]
 rfl
theorem Zju (fu : Nat) (hfu : 9 ≤ fu) (b : List Int) (x : Nat) (hl : b.length ≤ 400000) (hx : F64 x) : Zan fu b x = some ((b ++ Zdi (ZcE x), ()), ()) := by
 obtain ⟨f, rfl⟩ : ∃ f, fu = f + 9 := ⟨fu - 9, by omega⟩
 have hc := ZgI x hx
 unfold Zan
 rw [show apOk ([] : List Int) b 1 = true from Zdg (by simp; omega)]
 simp only [chk, cond_true]
 rw [Zfn (f + 9) hx]
 have e1 : mkMut (8 : Int) (8 : Int) 1 = true := by decide
 rw [e1, show (8 : Int).toNat = 8 from rfl]
 simp only [cond_true]
 rw [Zhz _ _ f _ _ hc.1 hc.2]
 have e2 : nOk (Zdi (ZcE x)) 8 = true := rfl
 have e3 : apOk b (Zdi (ZcE x)) 1 = true := Zdg (by simp [Zdi]; omega)
 simp only [List.nil_append, e2, e3, Bool.and_true, cond_true]
theorem ZnE (fu : Nat) (hfu : 12 ≤ fu) (b : List Int) (v : Va) (hl : b.length ≤ 300000) (hv : vaOk v) : ZbV fu b v = some ((if mayV v = true then b ++ putV v else [], if mayV v = true then 0 else 1, ()), ()) := by
 unfold ZbV
 simp only [Zmj fu v hv.2.2.1, Option.bind_some]
 by_cases hm : mayV v = true
 ·have e3 : apOk ([] : List Int) b 1 = true := Zdg (by simp; omega)
  have e4 : apOk b [v.1] 1 = true := Zdg (by simp; omega)
  have hlen := ZhJ hm
  simp only [hm, Bool.not_true, cond_false, chk, cond_true, if_true, e3, List.nil_append, e4]
  unfold putV
  by_cases k1 : v.1 = 1
  ·simp only [k1, beq_self_eq_true, cond_true, ZkU fu hfu (b ++ [1]) v.2.1 (by simp; omega) hv.2.1.1 hv.2.1.2, Option.bind_some, if_true, List.append_assoc, List.singleton_append]
  ·by_cases k2 : v.1 = 2
   ·simp only [k2, ZbL (show ¬ (2 : Int) = 1 by decide), beq_self_eq_true, cond_true, cond_false, Zju fu (by omega) (b ++ [2]) v.2.2.1 (by simp; omega) hv.2.2.1, Option.bind_some, show ¬ (2 : Int) = 1 by decide, if_false, if_true, List.append_assoc, List.singleton_append]
   ·by_cases k3 : v.1 = 3
    ·simp only [k3, ZbL (show ¬ (3 : Int) = 1 by decide), ZbL (show ¬ (3 : Int) = 2 by decide), beq_self_eq_true, cond_true, cond_false, Zjv fu hfu (b ++ [3]) v.2.2.2.1 (by simp; omega) (by omega), Option.bind_some, show ¬ (3 : Int) = 1 by decide, show ¬ (3 : Int) = 2 by decide, if_false, if_true, List.append_assoc, List.nil_append, List.cons_append]
    ·simp only [ZbL k1, ZbL k2, ZbL k3, cond_false, if_neg k1, if_neg k2, if_neg k3]
 ·have hm' : mayV v = false := by simpa using hm
  simp [hm']
def putT (t : Te) : List Int := t.1 :: t.2.1 :: putV t.2.2.1
def Zej (l : List Te) : List Int := l.flatMap putT
theorem Zdv (t : Te) (l : List Te) : Zej (t :: l) = putT t ++ Zej l := by simp [Zej]
def Zdu (p : Pd) : List Int := if p.1 = true then [16 * (p.2.2.1.length : Int) + 1] else [16 * (p.2.2.1.length : Int), p.2.1]
def putP (p : Pd) : List Int := Zdu p ++ Zej p.2.2.1
def teOk (t : Te) : Prop := ZnS t ∧ vaOk t.2.2.1
def pdOk (p : Pd) : Prop := (0 ≤ p.2.1 ∧ p.2.1 ≤ 255) ∧ ∀ t ∈ p.2.2.1, teOk t
theorem ZeA {t : Te} (h : Zct t = true) : mayV t.2.2.1 = true := by
 unfold Zct at h; rw [Bool.and_eq_true] at h; exact h.1
theorem ZfK {p : Pd} (h : mayP p = true) : p.2.2.1.length ≤ 4 ∧ ∀ t ∈ p.2.2.1, Zct t = true := by
 unfold mayP at h
 simp only [Bool.and_eq_true, decide_eq_true_eq] at h
 exact ⟨h.2.1, List.all_eq_true.1 h.2.2⟩
theorem Zsq {t : Te} (h : mayV t.2.2.1 = true) : (putT t).length ≤ 302 := by
 have := ZkP h
 simp only [putT, List.length_cons]; omega
theorem Zme (fu : Nat) (hfu : 12 ≤ fu) (k2 : List Int → Option (((List Int) × Int × Unit) × (Unit))) (l : List Te) (hv : ∀ t ∈ l, teOk t ∧ Zct t = true) (hl : l.length ≤ 4) : ∀ (k m i : Nat) (out : List Int), i + k = l.length → k < m → out.length + 302 * k ≤ 200000 →
  ZaF.l9 fu k2 m out l l.length i = k2 (out ++ Zej (l.drop i)) := by
 intro k
 induction k with
 | zero =>
  intro m i out h1 h2 h3
  obtain ⟨m, rfl⟩ : ∃ j, m = j + 1 := ⟨m - 1, by omega⟩
  rw [List.drop_eq_nil_of_le (by omega)]
  unfold ZaF.l9 ZaF.b9
  rw [decide_eq_false (by omega), cond_false]
  simp [Zej]
 | succ k ih =>
  intro m i out h1 h2 h3
  obtain ⟨m, rfl⟩ : ∃ j, m = j + 1 := ⟨m - 1, by omega⟩
  have hi : i < l.length := by omega
  have e1 : IntKind.i64.wrap ((i : Int) + 1) = ((i + 1 : Nat) : Int) := wrap_i64 (by omega) (by omega)
  obtain ⟨q1, q2⟩ := hv _ (List.getElem_mem hi)
  have qm := ZeA q2
  have hp := ZkP qm
  rw [Zcl hi]
  unfold ZaF.l9 ZaF.b9
  rw [decide_eq_true (by omega), cond_true, ZcQ hi, ixT hi]
  have e2 : apOk out [l[i].1, l[i].2.1] 1 = true := Zdg (by simp; omega)
  simp only [e2, ZmA fu hfu (out ++ [l[i].1, l[i].2.1]) _ (by simp; omega) q1.2, chk, cond_true, Option.bind_some, e1, if_pos qm]
  rw [ih m (i + 1) _ (by omega) (by omega) (by simp; omega), Zdv]
  unfold putT
  simp
theorem ZiP (fu : Nat) (hfu : 12 ≤ fu) (k2 : List Int → Option (((List Int) × Int × Unit) × (Unit))) (p : Pd) (hv : ∀ t ∈ p.2.2.1, teOk t ∧ Zct t = true) (hl : p.2.2.1.length ≤ 4) : ∀ (k m i : Nat) (out : List Int), i + k = p.2.2.1.length → k < m → out.length + 302 * k ≤ 200000 →
  Zaw.l9 fu k2 m out p.2.2.1.length i p = k2 (out ++ Zej (p.2.2.1.drop i)) := by
 intro k
 induction k with
 | zero =>
  intro m i out h1 h2 h3
  obtain ⟨m, rfl⟩ : ∃ j, m = j + 1 := ⟨m - 1, by omega⟩
  rw [List.drop_eq_nil_of_le (by omega)]
  unfold Zaw.l9 Zaw.b9
  rw [decide_eq_false (by omega), cond_false]
  simp [Zej]
 | succ k ih =>
  intro m i out h1 h2 h3
  obtain ⟨m, rfl⟩ : ∃ j, m = j + 1 := ⟨m - 1, by omega⟩
  have hi : i < p.2.2.1.length := by omega
  have e1 : IntKind.i64.wrap ((i : Int) + 1) = ((i + 1 : Nat) : Int) := wrap_i64 (by omega) (by omega)
  obtain ⟨q1, q2⟩ := hv _ (List.getElem_mem hi)
  have qm := ZeA q2
  have hp := ZkP qm
  rw [Zcl hi]
  unfold Zaw.l9 Zaw.b9
  rw [decide_eq_true (by omega), cond_true, ZcQ hi, ixT hi]
  have e2 : apOk out [p.2.2.1[i].1, p.2.2.1[i].2.1] 1 = true := Zdg (by simp; omega)
  simp only [e2, ZnE fu hfu (out ++ [p.2.2.1[i].1, p.2.2.1[i].2.1]) _ (by simp; omega) q1.2, chk, cond_true, Option.bind_some, e1, if_pos qm]
  rw [ih m (i + 1) _ (by omega) (by omega) (by simp; omega), Zdv]
  unfold putT
  simp
theorem ZjQ (fu : Nat) (hfu : 20 ≤ fu) (b : List Int) (p : Pd) (hl : b.length ≤ 100000) (hp : pdOk p) : ZaF fu b p = some ((if mayP p = true then b ++ putP p else [], if mayP p = true then 0 else 1, ()), ()) := by
 unfold ZaF
 rw [ZgT fu (by omega) p (fun t ht => (hp.2 t ht).1)]
 simp only [Option.bind_some]
 cases hm : mayP p with
 | false => rfl
 | true =>
  obtain ⟨m1, m2⟩ := ZfK hm
  have key := fun out ho k2 => Zme fu (by omega) k2 p.2.2.1 (fun t ht => ⟨hp.2 t ht, m2 t ht⟩) m1 p.2.2.1.length fu 0 out (by omega) (by omega) ho
  rw [ZrO fu b (by omega)]
  have e0 : IntKind.i64.wrap (16 * (p.2.2.1.length : Int)) = 16 * p.2.2.1.length := wrap_i64 (by omega) (by omega)
  have e1 : IntKind.u8.wrap (16 * (p.2.2.1.length : Int)) = 16 * p.2.2.1.length := by rw [Zdr]; omega
  have e2 : IntKind.u8.wrap (16 * (p.2.2.1.length : Int) + 1) = 16 * p.2.2.1.length + 1 := by rw [Zdr]; omega
  have e3 : apOk b [16 * (p.2.2.1.length : Int) + 1] 1 = true := Zdg (by simp; omega)
  have e4 : apOk b [16 * (p.2.2.1.length : Int), p.2.1] 1 = true := Zdg (by simp; omega)
  simp only [Bool.not_true, cond_false, Option.bind_some, e0, e1, e2, e3, e4, chk, cond_true, if_true]
  unfold ZaF.j8 putP Zdu
  cases hp1 : p.1 with
  | true =>
   simp only [cond_true, if_true]
   refine (key _ (by simp; omega) _).trans ?_
   simp
  | false =>
   simp only [cond_false]
   refine (key _ (by simp; omega) _).trans ?_
   simp
theorem ZjV (fu : Nat) (hfu : 50 ≤ fu) (b : List Int) (p : Pd) (hl : b.length ≤ 100000) (hp : pdOk p) (hn : p.2.2.1.length ≤ 30) : Zaw fu b p = some ((if mayP p = true then b ++ putP p else [], if mayP p = true then 0 else 1, ()), ()) := by
 unfold Zaw
 rw [ZgU fu hfu p (fun t ht => (hp.2 t ht).1) hn]
 simp only [Option.bind_some]
 cases hm : mayP p with
 | false => rfl
 | true =>
  obtain ⟨m1, m2⟩ := ZfK hm
  have key := fun out ho k2 => ZiP fu (by omega) k2 p (fun t ht => ⟨hp.2 t ht, m2 t ht⟩) m1 p.2.2.1.length fu 0 out (by omega) (by omega) ho
  have ea : apOk ([] : List Int) b 1 = true := Zdg (by simp; omega)
  have e0 : IntKind.i64.wrap (16 * (p.2.2.1.length : Int)) = 16 * p.2.2.1.length := wrap_i64 (by omega) (by omega)
  have e5 : IntKind.i64.wrap (16 * (p.2.2.1.length : Int) + 1) = 16 * p.2.2.1.length + 1 := wrap_i64 (by omega) (by omega)
  have e1 : IntKind.u8.wrap (16 * (p.2.2.1.length : Int)) = 16 * p.2.2.1.length := by rw [Zdr]; omega
  have e2 : IntKind.u8.wrap (16 * (p.2.2.1.length : Int) + 1) = 16 * p.2.2.1.length + 1 := by rw [Zdr]; omega
  have e3 : apOk b [16 * (p.2.2.1.length : Int) + 1] 1 = true := Zdg (by simp; omega)
  have e4 : apOk b [16 * (p.2.2.1.length : Int), p.2.1] 1 = true := Zdg (by simp; omega)
  simp only [Bool.not_true, cond_false, ea, List.nil_append, e0, e5, e1, e2, e3, e4, chk, cond_true, if_true]
  unfold Zaw.j8 putP Zdu
  cases hp1 : p.1 with
  | true =>
   simp only [cond_true, if_true]
   refine (key _ (by simp; omega) _).trans ?_
   simp
  | false =>
   simp only [cond_false]
   refine (key _ (by simp; omega) _).trans ?_
   simp
def cT (t : Te) : Te := (t.1, t.2.1, cv t.2.2.1, ())
theorem ZtO {v : Va} (h : mayV v = true) : mayV (cv v) = true := by
 have c0 : (ZcE 0).toNat = 0 := by decide
 unfold mayV at h ⊢
 simp only [Bool.and_eq_true, Bool.or_eq_true, decide_eq_true_eq] at h ⊢
 refine ⟨⟨⟨⟨h.1.1.1.1, h.1.1.1.2⟩, ?_⟩, h.1.2⟩, h.2⟩
 show (ZcE v.2.2.1).toNat = 0 ∨ v.1 = 2
 rcases h.1.1.2 with k | k
 ·rw [k]; exact .inl c0
 ·exact .inr k
theorem ZoA {t : Te} (h : Zct t = true) : Zct (cT t) = true := by
 have hm := ZtO (ZeA h)
 unfold Zct at h ⊢
 rw [Bool.and_eq_true] at h ⊢
 exact ⟨hm, h.2⟩
theorem ZsU {t : Te} (h : teOk t) : ZnS (cT t) := by
 obtain ⟨⟨h1, h2, h3, h4⟩, h5⟩ := h
 have := ZgI t.2.2.1.2.2.1 h5.2.2.1
 exact ⟨h1, h2, ⟨h3.1, by show (ZcE t.2.2.1.2.2.1).toNat < _; omega⟩, h4⟩
theorem ZtV {t : Te} (h : teOk t) (hm : mayV t.2.2.1 = true) : By (putT t) := by
 intro c hc
 rcases List.mem_cons.1 (show c ∈ t.1 :: t.2.1 :: putV t.2.2.1 from hc) with rfl | hc
 ·exact h.1.1
 ·rcases List.mem_cons.1 hc with rfl | hc
  ·exact h.1.2.1
  ·exact ZtW h.2 hm c hc
theorem Zsr : ∀ (l : List Te), (∀ t ∈ l, teOk t ∧ Zct t = true) → By (Zej l) := by
 intro l
 induction l with
 | nil => intro _ c hc; simp [Zej] at hc
 | cons t l ih =>
  intro h
  rw [Zdv]
  obtain ⟨q1, q2⟩ := h t (List.mem_cons_self ..)
  exact Zhb (ZtV q1 (ZeA q2)) (ih fun w hw => h w (List.mem_cons_of_mem _ hw))
theorem Zra : ∀ (l : List Te), (∀ t ∈ l, Zct t = true) → (Zej l).length ≤ 302 * l.length := by
 intro l
 induction l with
 | nil => intro _; simp [Zej]
 | cons t l ih =>
  intro h
  rw [Zdv, List.length_append, List.length_cons]
  have := Zsq (ZeA (h t (List.mem_cons_self ..)))
  have := ih fun w hw => h w (List.mem_cons_of_mem _ hw)
  omega
theorem ZtF (fu : Nat) (b : List Int) (p : Pd) (hl : b.length ≤ 90000) (hm : mayP p = true) (r : List Int) : Zca fu (b ++ (Zdu p ++ r)) b.length = some ((p.1, (if p.1 = true then 0 else p.2.1), (), ()), (p.2.2.1.length : Int), (b.length : Int) + (Zdu p).length, 0, ()) := by
 obtain ⟨m1, -⟩ := ZfK hm
 have hh : 1 ≤ (Zdu p).length := by unfold Zdu; split <;> simp
 have w1 : IntKind.i64.wrap ((b.length : Int) + 1) = ((b.length + 1 : Nat) : Int) := by rw [wrap_i64 (by omega) (by omega)]; omega
 have w2 : IntKind.i64.wrap ((b.length : Int) + 2) = ((b.length + 2 : Nat) : Int) := by rw [wrap_i64 (by omega) (by omega)]; omega
 unfold Zca
 have k0 : ixOk (b ++ (Zdu p ++ r)) (b.length : Int) = true := ZcQ (by simp; omega)
 rw [decide_eq_false (show ¬ (b.length : Int) < 0 by omega), cond_false]
 simp only [decide_eq_false (show ¬ (b.length : Int) ≥ ((b ++ (Zdu p ++ r)).length : Int) by simp; omega), cond_false, k0, chk, cond_true]
 have hn : p.2.2.1.length = 0 ∨ p.2.2.1.length = 1 ∨ p.2.2.1.length = 2 ∨ p.2.2.1.length = 3 ∨ p.2.2.1.length = 4 := by omega
 cases hp : p.1 with
 | true =>
  have hx : Zdu p = [16 * (p.2.2.1.length : Int) + 1] := by unfold Zdu; rw [hp]; rfl
  have i0 : ixL (0 : Int) (b ++ (Zdu p ++ r)) b.length = 16 * (p.2.2.1.length : Int) + 1 := by rw [hx]; unfold ixL; simp
  rw [i0, hx]
  rw [w1]
  rcases hn with h | h | h | h | h <;> rw [h] <;> rfl
 | false =>
  have hx : Zdu p = [16 * (p.2.2.1.length : Int), p.2.1] := by unfold Zdu; rw [hp]; rfl
  have i0 : ixL (0 : Int) (b ++ (Zdu p ++ r)) b.length = 16 * (p.2.2.1.length : Int) := by rw [hx]; unfold ixL; simp
  have i1 : ixL (0 : Int) (b ++ (Zdu p ++ r)) ((b.length + 1 : Nat) : Int) = p.2.1 := by
   rw [hx]; unfold ixL
   rw [Int.toNat_natCast]
   simp
  have hlen : ((b ++ (Zdu p ++ r)).length) = b.length + 2 + r.length := by rw [hx]; simp; omega
  have k1 : ixOk (b ++ (Zdu p ++ r)) ((b.length + 1 : Nat) : Int) = true := ZcQ (by omega)
  have d1 : decide (((b.length + 1 : Nat) : Int) ≥ ((b ++ (Zdu p ++ r)).length : Int)) = false := decide_eq_false (by omega)
  rw [i0, w1, d1, k1, i1, w2, hx]
  rcases hn with h | h | h | h | h <;> rw [h] <;> rfl
def cP (p : Pd) : Pd := (p.1, (if p.1 = true then 0 else p.2.1), p.2.2.1.map cT, ())
theorem Zou {p : Pd} (hm : mayP p = true) : (putP p).length ≤ 1300 := by
 obtain ⟨m1, m2⟩ := ZfK hm
 have := Zra p.2.2.1 m2
 unfold putP Zdu
 rw [List.length_append]
 split <;> simp <;> omega
theorem ZqZ {p : Pd} (hp : pdOk p) (hm : mayP p = true) : By (putP p) := by
 obtain ⟨m1, m2⟩ := ZfK hm
 refine Zhb ?_ (Zsr _ fun t ht => ⟨hp.2 t ht, m2 t ht⟩)
 unfold Zdu
 split
 ·intro c hc
  obtain rfl := List.mem_singleton.1 hc
  omega
 ·intro c hc
  rcases List.mem_cons.1 hc with rfl | hc
  ·omega
  ·obtain rfl := List.mem_singleton.1 hc
   exact hp.1
theorem Ztp : ∀ l : List Te, allT (l.map cT) l = true := by
 intro l
 induction l with
 | nil => rfl
 | cons t l ih =>
  show (ZsC (cT t) t && allT (l.map cT) l) = true
  rw [ih, Bool.and_true]
  unfold ZsC
  rw [show ZnM (cT t).2.2.1 t.2.2.1 = true from Ztz t.2.2.1]
  simp [cT]
theorem pd_ok {x : Bool × Int × List RT × Unit} (h : kS5.ok x) : pdOk (rawP x) := by
 obtain ⟨-, h1, h2, -⟩ := h
 have h1 : 0 ≤ x.2.1 ∧ x.2.1 < 256 := u8Of h1
 refine ⟨⟨h1.1, by show x.2.1 ≤ 255; omega⟩, fun v hv => ?_⟩
 obtain ⟨w, hw, rfl⟩ := List.mem_map.1 hv
 obtain ⟨k1, k2, k3, -⟩ := h2.2 w (List.mem_of_mem_take hw)
 have k1 : 0 ≤ w.1 ∧ w.1 < 256 := u8Of k1
 have k2 : 0 ≤ w.2.1 ∧ w.2.1 < 256 := u8Of k2
 obtain ⟨v1, v2, v3, v4, -⟩ := k3
 have v1 : 0 ≤ w.2.2.1.1 ∧ w.2.2.1.1 < 256 := u8Of v1
 have v2 := i64Of v2
 have v3 : 0 ≤ w.2.2.1.2.2.1 ∧ w.2.2.1.2.2.1 < 18446744073709551616 := ZsN v3
 have f : F64 (rawV w.2.2.1).2.2.1 := by show w.2.2.1.2.2.1.toNat < _; omega
 exact ⟨⟨⟨k1.1, by show w.1 ≤ 255; omega⟩, ⟨k2.1, by show w.2.1 ≤ 255; omega⟩, ⟨⟨v2.1, by show w.2.2.1.2.1 ≤ _; omega⟩, f⟩, v1.1⟩, ⟨v1.1, by show w.2.2.1.1 ≤ 255; omega⟩, v2, f, fun c hc => v4.2 c hc⟩
def grd (x : No) : List Int := if x.2.2.1 = true then putP x.2.2.2.1 else []
def mid (x : No) (k : Nat) : List Int := if x.1 = 1 then putP x.2.1 else if x.1 = 4 then [x.2.2.2.2.1, x.2.2.2.2.2.1] else [(k : Int)]
def hdN (x : No) : Int := if x.2.2.1 = true then x.1 + 16 else x.1
def wN (x : No) (k : Nat) : List Int := [hdN x] ++ mid x k ++ grd x
mutual
def wr : Tr No → List Int
 | ⟨x, l⟩ => wN x l.length ++ wrL l
def wrL : List (Tr No) → List Int
 | [] => []
 | t :: r => wr t ++ wrL r
end
def OKn (x : No) : Prop := (pdOk x.2.1 ∧ pdOk x.2.2.2.1) ∧ (mayP x.2.1 = true ∧ mayP x.2.2.2.1 = true)
mutual
def OKt : Tr No → Prop
 | ⟨x, l⟩ => OKn x ∧ OKtL l
def OKtL : List (Tr No) → Prop
 | [] => True
 | t :: r => OKt t ∧ OKtL r
end
theorem ZhA : ∀ {l : List (Tr No)}, OKtL l → ∀ t ∈ l, OKt t
 | _ :: r, h, t, ht => by
  rw [OKtL] at h
  rcases List.mem_cons.1 ht with rfl | ht
  ·exact h.1
  ·exact ZhA h.2 t ht
theorem ZcN {x : No} {k : Nat} (h : ZcX x k (decide (k = 0)) = true) :
  (x.2.2.1 = true ∨ Zdd x.2.2.2.1 = true) ∧
  ((x.1 = 1 ∧ k = 0 ∧ x.2.2.2.2.1 = 0 ∧ x.2.2.2.2.2.1 = 0 ∧ x.2.2.1 = false) ∨
   (x.1 = 2 ∧ 2 ≤ k ∧ x.2.2.2.2.1 = 0 ∧ x.2.2.2.2.2.1 = 0 ∧ Zdd x.2.1 = true) ∨
   (x.1 = 3 ∧ 2 ≤ k ∧ x.2.2.2.2.1 = 0 ∧ x.2.2.2.2.2.1 = 0 ∧ Zdd x.2.1 = true ∧ x.2.2.1 = false) ∨
   (x.1 = 4 ∧ k = 1 ∧ (1 ≤ x.2.2.2.2.1 ∧ x.2.2.2.2.1 ≤ x.2.2.2.2.2.1 ∧ x.2.2.2.2.2.1 ≤ 8) ∧ Zdd x.2.1 = true)) := by
 unfold ZcX at h
 rw [Bool.and_eq_true, Bool.or_eq_true] at h
 refine ⟨h.1, ?_⟩
 have h := h.2
 by_cases h1 : x.1 = 1
 ·rw [if_pos h1] at h
  simp only [Bool.and_eq_true, decide_eq_true_eq, Bool.not_eq_true'] at h
  exact .inl ⟨h1, h.2.2.2, h.1, h.2.1, h.2.2.1⟩
 ·rw [if_neg h1] at h
  by_cases h2 : x.1 = 2
  ·rw [if_pos h2] at h
   simp only [Bool.and_eq_true, decide_eq_true_eq] at h
   exact .inr (.inl ⟨h2, h.2.2.2, h.2.1, h.2.2.1, h.1⟩)
  ·rw [if_neg h2] at h
   by_cases h3 : x.1 = 3
   ·rw [if_pos h3] at h
    simp only [Bool.and_eq_true, decide_eq_true_eq, Bool.not_eq_true'] at h
    exact .inr (.inr (.inl ⟨h3, h.2.2.2.1, h.2.1, h.2.2.1, h.1, h.2.2.2.2⟩))
   ·rw [if_neg h3] at h
    by_cases h4 : x.1 = 4
    ·rw [if_pos h4] at h
     simp only [Bool.and_eq_true, decide_eq_true_eq] at h
     exact .inr (.inr (.inr ⟨h4, h.2.1, h.2.2, h.1⟩))
    ·rw [if_neg h4] at h
     simp at h
theorem ZjL {x : No} {c : List (Tr No)} (h : frm (Tr.mk x c) = true) : ZcX x c.length (decide (c.length = 0)) = true ∧ frmL c = true := by
 rw [frm, Bool.and_eq_true] at h
 exact h
theorem Zng {x : No} {k : Nat} (h : OKn x) : (mid x k).length ≤ 1300 := by
 unfold mid
 split
 ·exact Zou h.2.1
 ·split <;> simp
theorem ZmY {x : No} (h : OKn x) : (grd x).length ≤ 1300 := by
 unfold grd
 split
 ·exact Zou h.2.2
 ·simp
theorem Ztl {x : No} {k : Nat} (h : OKn x) : (wN x k).length ≤ 2700 := by
 have := Zng (k := k) h
 have := ZmY h
 unfold wN
 simp only [List.length_append, List.length_cons, List.length_nil]; omega
mutual
theorem ZrA : ∀ (t : Tr No), OKt t → (wr t).length ≤ 2700 * tsz t
 | ⟨x, l⟩, h => by
  rw [OKt] at h
  have h1 := Ztl (k := l.length) h.1
  have h2 := ZnV l h.2
  rw [wr, tsz, List.length_append]; omega
theorem ZnV : ∀ (l : List (Tr No)), OKtL l → (wrL l).length ≤ 2700 * tszL l
 | [], _ => by simp [wrL]
 | t :: r, h => by
  rw [OKtL] at h
  have h1 := ZrA t h.1
  have h2 := ZnV r h.2
  rw [wrL, tszL, List.length_append]; omega
end
theorem Zrz (t : Tr No) : 1 ≤ tsz t := by cases t; rw [tsz]; omega
theorem u8k {k : Nat} (h : k ≤ 100) : IntKind.u8.wrap (k : Int) = (k : Int) := by rw [Zdr]; omega
theorem u8h {x : No} {k : Nat} (h : ZcX x k (decide (k = 0)) = true) : IntKind.u8.wrap (x.1 + (16 : Int)) = x.1 + 16 := by
 have := (ZcN h).2
 rw [Zdr]
 rcases this with h | h | h | h <;> rw [h.1] <;> rfl
theorem ZkW (fu : Nat) (S : (List Int) → (Tr No) → Option (((List Int) × Unit) × (Unit))) (k3 : (List Int) → Option (((List Int) × Unit) × (Unit))) (c : List (Tr No)) (hc : c.length ≤ 1000) (hv : ∀ t ∈ c, ∀ b : List Int, b.length + 2700 * tsz t ≤ 99000 → S b t = some ((b ++ wr t, ()), ())) (hw : ∀ t ∈ c, (wr t).length ≤ 2700 * tsz t)
  (d0 : Int) (d1 : Bool) (d2 : Int) (d3 : List Te) (d4 : Bool) (d5 : Bool) (d6 : Int) (d7 : List Te) (d8 d9 d10 : Int) : ∀ (k m i : Nat) (b : List Int), i + k = c.length → k < m → b.length + 2700 * tszL (c.drop i) ≤ 99000 →
  Zac.l14 fu S k3 m b c.length i d0 d1 d2 d3 d4 d5 d6 d7 d8 d9 d10 c = k3 (b ++ wrL (c.drop i)) := by
 intro k
 induction k with
 | zero =>
  intro m i b h1 h2 h3
  obtain ⟨m, rfl⟩ : ∃ j, m = j + 1 := ⟨m - 1, by omega⟩
  rw [List.drop_eq_nil_of_le (by omega)]
  unfold Zac.l14 Zac.b14
  rw [decide_eq_false (by omega), cond_false, wrL, List.append_nil]
 | succ k ih =>
  intro m i b h1 h2 h3
  obtain ⟨m, rfl⟩ : ∃ j, m = j + 1 := ⟨m - 1, by omega⟩
  have hi : i < c.length := by omega
  have e1 : IntKind.i64.wrap ((i : Int) + 1) = ((i + 1 : Nat) : Int) := wrap_i64 (by omega) (by omega)
  rw [Zcl hi] at h3 ⊢
  rw [tszL] at h3
  have hm := List.getElem_mem hi
  have := hw _ hm
  unfold Zac.l14 Zac.b14
  rw [decide_eq_true (by omega), cond_true, ZcQ hi]
  simp only [chk, cond_true, ixT0 hi, hv _ hm b (by omega), Option.bind_some, e1]
  rw [ih m (i + 1) _ (by omega) (by omega) (by rw [List.length_append]; omega), wrL, List.append_assoc]
theorem ZnG (fu : Nat) (hfu : 2000 ≤ fu) : ∀ (n : Nat) (t : Tr No) (m : Nat) (b : List Int), tsz t ≤ n → n ≤ 33 → n < m → frm t = true → OKt t → b.length + 2700 * tsz t ≤ 99000 → Zac fu m b t = some ((b ++ wr t, ()), ()) := by
 intro n
 induction n with
 | zero => intro t m b h; have := Zrz t; omega
 | succ n ih =>
  intro t m b h1 h2 h3 h4 h5 h6
  obtain ⟨m, rfl⟩ : ∃ j, m = j + 1 := ⟨m - 1, by omega⟩
  obtain ⟨x, c⟩ := t
  obtain ⟨p1, p2⟩ := ZjL h4
  rw [OKt] at h5
  obtain ⟨o1, o2⟩ := h5
  rw [tsz] at h1 h6
  have hcl := Zgb c
  rw [Zgg, List.all_eq_true] at p2
  have hv : ∀ t ∈ c, ∀ b : List Int, b.length + 2700 * tsz t ≤ 99000 → Zac fu m b t = some ((b ++ wr t, ()), ()) := fun t ht b hb => ih t m b (by have := ZgX ht; omega) (by omega) (by omega) (p2 t ht) (ZhA o2 t ht) hb
  have hw : ∀ t ∈ c, (wr t).length ≤ 2700 * tsz t := fun t ht => ZrA t (ZhA o2 t ht)
  have gl := ZmY o1
  have ml := Zng (k := c.length) o1
  have k13 : ∀ (k1 : (List Int) → Option (((List Int) × Unit) × (Unit))) (b : List Int), b.length + 2700 * tszL c ≤ 99000 → Zac.j13 fu (Zac fu m) k1 b x.1 x.2.1.1 x.2.1.2.1 x.2.1.2.2.1 x.2.2.1 x.2.2.2.1.1 x.2.2.2.1.2.1 x.2.2.2.1.2.2.1 x.2.2.2.2.1 x.2.2.2.2.2.1 x.2.2.2.2.2.2.1 c = k1 (b ++ wrL c) := fun k1 b hb => by
   unfold Zac.j13
   exact ZkW fu (Zac fu m) _ c (by omega) hv hw _ _ _ _ _ _ _ _ _ _ _ c.length fu 0 b (by omega) (by omega) (by rw [List.drop_zero]; exact hb)
  have k11 : ∀ (k1 : (List Int) → Option (((List Int) × Unit) × (Unit))) (b : List Int), b.length + 1300 + 2700 * tszL c ≤ 99000 → Zac.j11 fu (Zac fu m) k1 b x.1 x.2.1.1 x.2.1.2.1 x.2.1.2.2.1 x.2.2.1 x.2.2.2.1.1 x.2.2.2.1.2.1 x.2.2.2.1.2.2.1 x.2.2.2.2.1 x.2.2.2.2.2.1 x.2.2.2.2.2.2.1 c x = k1 (b ++ grd x ++ wrL c) := fun k1 b hb => by
   unfold Zac.j11
   cases hg : x.2.2.1 with
   | true =>
    have eg : grd x = putP x.2.2.2.1 := by unfold grd; rw [if_pos hg]
    rw [eg] at gl ⊢
    rw [ZjV fu (by omega) b _ (by omega) o1.1.2 (Nat.le_trans (ZfK o1.2.2).1 (by decide)), if_pos o1.2.2]
    simp only [cond_true, Option.bind_some]
    have := k13 k1 (b ++ putP x.2.2.2.1) (by rw [List.length_append]; omega)
    rw [hg] at this
    exact this
   | false =>
    have eg : grd x = [] := by unfold grd; rw [if_neg (by rw [hg]; decide)]
    rw [eg, List.append_nil]
    simp only [cond_false]
    have := k13 k1 b (by omega)
    rw [hg] at this
    exact this
  have k5 : ∀ (k1 : (List Int) → Option (((List Int) × Unit) × (Unit))) (b : List Int), b.length + 2600 + 2700 * tszL c ≤ 99000 → Zac.j5 fu (Zac fu m) k1 b x.1 x.2.1.1 x.2.1.2.1 x.2.1.2.2.1 x.2.2.1 x.2.2.2.1.1 x.2.2.2.1.2.1 x.2.2.2.1.2.2.1 x.2.2.2.2.1 x.2.2.2.2.2.1 x.2.2.2.2.2.2.1 c x = k1 (b ++ mid x c.length ++ grd x ++ wrL c) := fun k1 b hb => by
   unfold Zac.j5
   simp only [ZcD]
   by_cases h1 : x.1 = 1
   ·have em : mid x c.length = putP x.2.1 := by unfold mid; rw [if_pos h1]
    rw [em] at ml ⊢
    rw [decide_eq_true h1, cond_true, ZjV fu (by omega) b _ (by omega) o1.1.1 (Nat.le_trans (ZfK o1.2.1).1 (by decide)), if_pos o1.2.1]
    simp only [Option.bind_some]
    exact k11 k1 _ (by rw [List.length_append]; omega)
   ·rw [decide_eq_false h1, cond_false]
    by_cases h4 : x.1 = 4
    ·have em : mid x c.length = [x.2.2.2.2.1, x.2.2.2.2.2.1] := by unfold mid; rw [if_neg h1, if_pos h4]
     have ea : apOk b [x.2.2.2.2.1, x.2.2.2.2.2.1] 1 = true := Zdg (by simp; omega)
     rw [em, decide_eq_true h4, cond_true, ea, chk, cond_true]
     exact k11 k1 _ (by simp; omega)
    ·have em : mid x c.length = [(c.length : Int)] := by unfold mid; rw [if_neg h1, if_neg h4]
     have ea : apOk b [(c.length : Int)] 1 = true := Zdg (by simp; omega)
     rw [em, decide_eq_false h4, cond_false, u8k (by omega)]
     simp only [ea, chk, cond_true]
     exact k11 k1 _ (by simp; omega)
  show Zac.bd fu (Zac fu m) b (Tr.mk x c) = _
  unfold Zac.bd
  rw [wr, show (Tr.mk x c).val = x from rfl, show (Tr.mk x c).sub = c from rfl]
  unfold wN hdN
  cases hg : x.2.2.1 with
  | true =>
   simp only [u8h p1, cond_true, if_true]
   have ea : apOk b [x.1 + 16] 1 = true := Zdg (by simp; omega)
   rw [ea]
   simp only [chk, cond_true]
   have := k5 (fun v => some ((v, ()), (()))) (b ++ [x.1 + 16]) (by simp; omega)
   rw [hg] at this
   refine this.trans ?_
   simp
  | false =>
   simp only [cond_false, if_false, Bool.false_eq_true]
   have ea : apOk b [x.1] 1 = true := Zdg (by simp; omega)
   rw [ea]
   simp only [chk, cond_true]
   have := k5 (fun v => some ((v, ()), (()))) (b ++ [x.1]) (by simp; omega)
   rw [hg] at this
   refine this.trans ?_
   simp
theorem ZqC (fu : Nat) (hfu : 50 ≤ fu) (k0 : (List Int) → (List No) → Int → Int → Pt → Option ((List Int) × Int × Unit)) (b : List Int) (v : List No) (n i : Int) (p : Pt) (x : No) (ho : OKn x) (hb : b.length ≤ 100000) : Zar.j18 fu k0 b v n i p x = k0 (b ++ grd x) v n i p := by
 unfold Zar.j18 grd
 cases hg : x.2.2.1 with
 | true =>
  rw [ZjQ fu (by omega) b _ hb ho.1.2, if_pos ho.2.2]
  rfl
 | false => rw [if_neg (by decide), List.append_nil]; rfl
theorem Zud (fu : Nat) (l pre r : List No) (x : No) (hl : l = pre ++ x :: r) (hn : l.length ≤ 900) (h0 : 0 ≤ siz x) (h1 : siz x ≤ r.length) : ZbY fu l pre.length = some (x :: r.take (siz x).toNat, ()) := by
 have hlen : l.length = pre.length + 1 + r.length := by rw [hl]; simp; omega
 obtain ⟨s, hs⟩ : ∃ s : Nat, siz x = s := ⟨(siz x).toNat, by omega⟩
 unfold ZbY
 have e1 : IntKind.i64.wrap ((pre.length : Int) + 1) = ((pre.length + 1 : Nat) : Int) := wrap_i64 (by omega) (by omega)
 have hi : pre.length < l.length := by omega
 have e2 : l[pre.length] = x := by subst hl; simp
 rw [e1, ZcQ hi]
 simp only [chk, cond_true, ixN hi, e2]
 rw [show x.2.2.2.2.2.2.1 = siz x from rfl, hs]
 have e3 : IntKind.i64.wrap (((pre.length + 1 : Nat) : Int) + (s : Int)) = ((pre.length + 1 + s : Nat) : Int) := by rw [wrap_i64 (by omega) (by omega)]; omega
 rw [e3]
 have c1 : ZfE l (pre.length : Int) ((pre.length + 1 + s : Nat) : Int) = true := by unfold ZfE; simp; omega
 rw [c1]
 simp only [cond_true]
 have c2 : cutL l (pre.length : Int) ((pre.length + 1 + s : Nat) : Int) = x :: r.take s := by
  unfold cutL
  rw [Int.toNat_natCast, show (((pre.length + 1 + s : Nat) : Int) - (pre.length : Int)).toNat = s + 1 by omega, hl]
  simp
 rw [c2, Int.toNat_natCast]
theorem ZeK {x : No} {r : List No} {s : List (Tr No)} (h : ZaU (x :: r) = some s) : ∃ a b c q, r = a ++ b ∧ (siz x = a.length) ∧ ZaU a = some c ∧ ZaU b = some q ∧ s = Tr.mk x c :: q ∧ r.take (siz x).toNat = a := by
 rw [ZaU] at h
 split at h
 ·rename_i hx
  obtain ⟨s1, h1, h⟩ := Option.bind_eq_some_iff.1 h
  obtain ⟨q, h2, h⟩ := Option.map_eq_some_iff.1 h
  exact ⟨_, _, s1, q, (List.take_append_drop _ _).symm, by rw [List.length_take]; omega, h1, h2, h.symm, rfl⟩
 ·cases h
theorem ZqU {x : No} {a : List No} {c : List (Tr No)} (h1 : siz x = a.length) (h2 : ZaU a = some c) : (ZeY (x :: a)).length = c.length := by
 have hf : ZaU (x :: a) = some [Tr.mk x c] := by rw [Zez h1, h2]; rfl
 obtain ⟨x', r, s, cs, e1, e2, e3, e4, e5, e6, -⟩ := Zli hf
 cases e1
 rw [h2] at e4
 cases e4
 rw [e5]
 exact (Zne e6).1
theorem Zss (fu : Nat) (hfu : 2000 ≤ fu) (k2 : (List Int) → Option ((List Int) × Int × Unit)) (p : Pt) (hp : p.1.length ≤ 32) (ho : ∀ x ∈ p.1, OKn x) : ∀ (n : Nat) (r pre suf : List No) (s : List (Tr No)) (out : List Int) (m : Nat), r.length ≤ n → ZaU r = some s → frmL s = true → p.1 = pre ++ r ++ suf → out.length + 2700 * r.length ≤ 99000 →
  Zar.l6 fu k2 (m + r.length) out p.1 p.1.length pre.length p = Zar.l6 fu k2 m (out ++ wrL s) p.1 p.1.length (pre ++ r).length p := by
 have hf1 : 1000 ≤ fu := Nat.le_trans (Nat.le_of_ble_eq_true rfl) hfu
 intro n
 induction n with
 | zero =>
  intro r pre suf s out m h1 h2 h3 h4 h5
  obtain rfl : r = [] := List.eq_nil_of_length_eq_zero (by omega)
  rw [Zbe] at h2
  cases h2
  simp [wrL]
 | succ n ih =>
  intro r pre suf s out m h1 h2 h3 h4 h5
  cases r with
  | nil =>
   rw [Zbe] at h2
   cases h2
   simp [wrL]
  | cons x r =>
   obtain ⟨a, b, c, q, e1, e2, e3, e4, e5, e6⟩ := ZeK h2
   subst e5
   have hr : (a ++ b).length = a.length + b.length := List.length_append
   simp only [List.length_cons, e1, hr] at h1 h5
   rw [frmL, Bool.and_eq_true] at h3
   obtain ⟨p1, p2⟩ := ZjL h3.1
   have hlen : p.1.length = pre.length + (1 + (a.length + b.length)) + suf.length := by rw [h4, e1]; simp; omega
   have hx : OKn x := ho x (by rw [h4]; simp)
   have hi : pre.length < p.1.length := by omega
   have gx : p.1[pre.length] = x := by simp [h4]
   have hcl : c.length ≤ a.length := by
    have := Zfw a.length a c (Nat.le_refl _) e3
    exact this.2
   have wl := Ztl (k := c.length) hx
   have ml := Zng (k := c.length) hx
   have gl := ZmY hx
   have i1 : IntKind.i64.wrap ((pre.length : Int) + 1) = ((pre.length + 1 : Nat) : Int) := wrap_i64 (by omega) (by omega)
   have key : Zar.l6 fu k2 (m + (x :: r).length) out p.1 p.1.length pre.length p = Zar.l6 fu k2 (m + (a ++ b).length) (out ++ wN x c.length) p.1 p.1.length (pre ++ [x]).length p := by
    rw [List.length_cons, e1, ← Nat.add_assoc]
    have k11 : ∀ (k0 : (List Int) → (List No) → Int → Int → Pt → Option ((List Int) × Int × Unit)) (hd : Int), Zar.j11 fu k0 out pre.length hd p.1 p.1.length pre.length p x = k0 (out ++ ([hd] ++ mid x c.length ++ grd x)) p.1 p.1.length pre.length p := fun k0 hd => by
     unfold Zar.j11
     have ea : apOk out [hd] 1 = true := Zdg (by simp; omega)
     rw [ea]
     simp only [chk, cond_true, ZcD]
     by_cases h1 : x.1 = 1
     ·have em : mid x c.length = putP x.2.1 := by unfold mid; rw [if_pos h1]
      rw [em] at ml ⊢
      rw [decide_eq_true h1, cond_true, ZjQ fu (by omega) _ _ (by simp; omega) hx.1.1, if_pos hx.2.1]
      simp only [Option.bind_some]
      rw [ZqC fu (by omega) _ _ _ _ _ _ _ hx (by simp; omega)]
      simp [List.append_assoc]
     ·rw [decide_eq_false h1, cond_false]
      by_cases hk4 : x.1 = 4
      ·have em : mid x c.length = [x.2.2.2.2.1, x.2.2.2.2.2.1] := by unfold mid; rw [if_neg h1, if_pos hk4]
       have ea : apOk (out ++ [hd]) [x.2.2.2.2.1, x.2.2.2.2.2.1] 1 = true := Zdg (by simp; omega)
       rw [em, decide_eq_true hk4, cond_true, ea]
       simp only [cond_true]
       rw [ZqC fu (by omega) _ _ _ _ _ _ _ hx (by simp; omega)]
       simp [List.append_assoc]
      ·have em : mid x c.length = [(c.length : Int)] := by unfold mid; rw [if_neg h1, if_neg hk4]
       have ea : apOk (out ++ [hd]) [(c.length : Int)] 1 = true := Zdg (by simp; omega)
       have hre := Zud fu p.1 pre (a ++ b ++ suf) x (by rw [h4, e1]; simp) (by omega) (by omega) (by simp; omega)
       have ht : (a ++ b ++ suf).take (siz x).toNat = a := by
        rw [e2, Int.toNat_natCast, List.append_assoc, List.take_left]
       rw [ht] at hre
       rw [em, decide_eq_false hk4, cond_false, hre]
       simp only [Option.bind_some]
       have hxa : (x :: a).length ≤ 900 := by rw [List.length_cons]; omega
       rw [ZdJ fu (x :: a) hxa hf1]
       have hc100 : c.length ≤ 100 := by omega
       rw [Option.bind_some, ZqU e2 e3, u8k hc100]
       simp only [ea, cond_true]
       rw [ZqC fu (by omega) _ _ _ _ _ _ _ hx (by simp; omega)]
       simp [List.append_assoc]
    conv => lhs; unfold Zar.l6 Zar.b6
    rw [decide_eq_true (by omega), cond_true, ZcQ hi]
    simp only [chk, cond_true, ixN hi, gx]
    have hlp : (pre ++ [x]).length = pre.length + 1 := by simp
    unfold wN hdN
    cases hg : x.2.2.1 with
    | true =>
     simp only [u8h p1, cond_true, if_true]
     rw [k11, i1, hlp]
    | false =>
     simp only [cond_false, if_false, Bool.false_eq_true]
     rw [k11, i1, hlp]
   rw [key, hr]
   have st1 := ih a (pre ++ [x]) (b ++ suf) c (out ++ wN x c.length) (m + b.length) (by omega) e3 p2 (by rw [h4, e1]; simp) (by rw [List.length_append]; omega)
   rw [show m + b.length + a.length = m + (a.length + b.length) by omega] at st1
   rw [st1]
   have hw1 : (wrL c).length ≤ 2700 * a.length := by
    have h1 := Zgf a.length a c (Nat.le_refl _) e3
    have : ∀ (n : Nat) (r : List No) (s : List (Tr No)), r.length ≤ n → ZaU r = some s → (∀ x ∈ r, OKn x) → OKtL s := by
     intro n
     induction n with
     | zero =>
      intro r s h1 h2 h3
      obtain rfl : r = [] := List.eq_nil_of_length_eq_zero (by omega)
      rw [Zbe] at h2
      cases h2
      simp [OKtL]
     | succ n ih =>
      intro r s h1 h2 h3
      cases r with
      | nil => rw [Zbe] at h2; cases h2; simp [OKtL]
      | cons x r =>
       obtain ⟨a, b, c, q, e1, e2, e3, e4, e5, -⟩ := ZeK h2
       subst e5
       rw [e1] at h1 h3
       simp only [List.length_cons, List.length_append] at h1
       rw [OKtL, OKt]
       exact ⟨⟨h3 x (by simp), ih a c (by omega) e3 fun y hy => h3 y (by simp [hy])⟩, ih b q (by omega) e4 fun y hy => h3 y (by simp [hy])⟩
    have := ZnV c (this a.length a c (Nat.le_refl _) e3 fun y hy => ho y (by rw [h4, e1]; simp [hy]))
    omega
   have st2 := ih b (pre ++ [x] ++ a) suf q (out ++ wN x c.length ++ wrL c) m (by omega) e4 h3.2 (by rw [h4, e1]; simp) (by rw [List.length_append, List.length_append]; omega)
   rw [st2, wrL, wr]
   simp only [List.append_assoc, e1, List.cons_append, List.nil_append]
theorem Zkt (fu : Nat) (k1 : Int → Int → Bool → Int → List Te → Option (Pd × Int × Int × Unit)) (k2 : Int → Bool → Int → List Te → Bool → Int → List Te → Option (Pd × Int × Int × Unit)) (b : List Int) (hb : By b) (hlb : b.length ≤ 100000) (hfu : b.length < fu) (hfu2 : 1000 ≤ fu) (c0 c1 : Bool) (d0 d1 : Int) (x0 : List Te) (N : Nat) (hN : N ≤ 4) (suf : List Int) : ∀ (l : List Te) (m i : Nat) (a : List Int) (done : List Te), (∀ t ∈ l, teOk t ∧ Zct t = true) → i + l.length = N → l.length < m → b = a ++ Zej l ++ suf → done.length + l.length ≤ 10 →
  ZaQ.l5 fu k1 k2 m b a.length N i c0 d0 x0 c1 d1 done = k2 ((a.length : Int) + (Zej l).length) c0 d0 x0 c1 d1 (done ++ l.map cT) := by
 intro l
 induction l with
 | nil =>
  intro m i a done hv h1 h2 h3 h4
  obtain ⟨m, rfl⟩ : ∃ j, m = j + 1 := ⟨m - 1, by omega⟩
  simp only [List.length_nil] at h1
  unfold ZaQ.l5 ZaQ.b5
  rw [decide_eq_false (by omega), cond_false]
  simp [Zej]
 | cons t l ih =>
  intro m i a done hv h1 h2 h3 h4
  obtain ⟨m, rfl⟩ : ∃ j, m = j + 1 := ⟨m - 1, by omega⟩
  simp only [List.length_cons] at h1 h2 h4
  obtain ⟨q1, q2⟩ := hv t (List.mem_cons_self ..)
  have qm := ZeA q2
  have hlen : b.length = a.length + (2 + (putV t.2.2.1).length) + (Zej l).length + suf.length := by
   rw [h3, Zdv]; simp [putT]; omega
  have hb2 : b = (a ++ [t.1, t.2.1]) ++ putV t.2.2.1 ++ (Zej l ++ suf) := by rw [h3, Zdv]; simp [putT]
  have e1 : IntKind.i64.wrap ((i : Int) + 1) = ((i + 1 : Nat) : Int) := wrap_i64 (by omega) (by omega)
  have e2 : IntKind.i64.wrap ((b.length : Int) - 2) = (b.length : Int) - 2 := wrap_i64 (by omega) (by omega)
  have e3 : IntKind.i64.wrap ((a.length : Int) + 2) = ((a ++ [t.1, t.2.1]).length : Int) := by rw [wrap_i64 (by omega) (by omega)]; simp
  have e4 : IntKind.i64.wrap ((a.length : Int) + 1) = ((a.length + 1 : Nat) : Int) := wrap_i64 (by omega) (by omega)
  have hv1 := Zuj (a ++ [t.1, t.2.1]) (Zej l ++ suf) t.2.2.1 q1.2 qm
  rw [← hb2] at hv1
  have i0 : ixL (0 : Int) b a.length = t.1 := by rw [hb2]; unfold ixL; simp
  have i1 : ixL (0 : Int) b ((a.length + 1 : Nat) : Int) = t.2.1 := by
   rw [hb2]; unfold ixL
   rw [Int.toNat_natCast]
   simp
  have k0 : ixOk b (a.length : Int) = true := ZcQ (by omega)
  have k1' : ixOk b ((a.length + 1 : Nat) : Int) = true := ZcQ (by omega)
  have e5 : apOk done [cT t] 48 = true := ZsS (by simp; omega)
  have hct : ((t.1, t.2.1, cv t.2.2.1, ()) : Te) = cT t := rfl
  unfold ZaQ.l5 ZaQ.b5
  rw [decide_eq_true (show ((i : Int) < (N : Int)) by omega), cond_true]
  simp only [e2, decide_eq_false (show ¬ (a.length : Int) > (b.length : Int) - 2 by omega), cond_false, e3, ZnU fu b hb hlb hfu (by omega), hv1, Option.bind_some, bne_self_eq_false, cond_false, k0, chk, cond_true, i0, e4, k1', i1, hct, Zhm fu _ (ZsU q1), ZoA q2, Bool.not_true, e5, e1]
  have := ih m (i + 1) (a ++ [t.1, t.2.1] ++ putV t.2.2.1) (done ++ [cT t]) (fun w hw => hv w (List.mem_cons_of_mem _ hw)) (by omega) (by omega) (by rw [hb2]; simp) (by simp; omega)
  rw [show (((a ++ [t.1, t.2.1]).length : Int) + ((putV t.2.2.1).length : Int)) = ((a ++ [t.1, t.2.1] ++ putV t.2.2.1).length : Int) by have := @List.length_append _ (a ++ [t.1, t.2.1]) (putV t.2.2.1); omega]
  rw [this, Zdv]
  simp only [List.append_assoc, List.singleton_append, List.map_cons]
  congr 1
  simp [putT]
  omega
theorem Znq (fu : Nat) (b a suf : List Int) (hb : By b) (p : Pd) (hl : b.length ≤ 100000) (hfu : b.length + 2000 < fu) (hal : a.length ≤ 90000) (hp : pdOk p) (hm : mayP p = true) (hbb : b = a ++ putP p ++ suf) : ZaQ fu b a.length = some (cP p, (((a ++ putP p).length : Nat) : Int), 0, ()) := by
 obtain ⟨m1, m2⟩ := ZfK hm
 unfold ZaQ
 have hh := ZtF fu a p hal hm (Zej p.2.2.1 ++ suf)
 rw [show a ++ (Zdu p ++ (Zej p.2.2.1 ++ suf)) = b by rw [hbb]; unfold putP; simp] at hh
 rw [hh]
 simp only [Option.bind_some, bne_self_eq_false, cond_false]
 have key := Zkt fu (fun vq3 vq3x2 c0q3 c0q3x2 c0q3x3 =>
    some ((c0q3, c0q3x2, c0q3x3, ()), vq3, vq3x2, ())) (fun atvq4 c0q4 c0q4x2 c0q4x3 c1q4 c1q4x2 c1q4x3 =>
    some ((c1q4, c1q4x2, c1q4x3, ()), atvq4, (0 : Int), ())) b hb hl (by omega) (by omega) false p.1 0 (if p.1 = true then 0 else p.2.1) [] p.2.2.1.length m1 suf p.2.2.1 fu 0 (a ++ Zdu p) [] (fun t ht => ⟨hp.2 t ht, m2 t ht⟩) (by omega) (by omega) (by rw [hbb]; unfold putP; simp) (by simp; omega)
 rw [show (((a ++ Zdu p).length : Nat) : Int) = (a.length : Int) + (Zdu p).length by simp] at key
 refine key.trans ?_
 unfold cP putP
 rw [List.nil_append, show (((a ++ (Zdu p ++ Zej p.2.2.1)).length : Nat) : Int) = (a.length : Int) + (Zdu p).length + (Zej p.2.2.1).length by rw [List.length_append, List.length_append]; omega]
def zP : Pd := (false, (0 : Int), ([] : List Te), ())
def prN (x : No) : Pd := if x.1 = 1 then cP x.2.1 else zP
def guN (x : No) : Pd := if x.2.2.1 = true then cP x.2.2.2.1 else zP
def loN (x : No) : Int := if x.1 = 4 then x.2.2.2.2.1 else 0
def hiN (x : No) : Int := if x.1 = 4 then x.2.2.2.2.2.1 else 0
def rdN (x : No) (n : Int) : No := (x.1, prN x, x.2.2.1, guN x, loN x, hiN x, n, ())
mutual
def rd : Tr No → List No
 | ⟨x, l⟩ => rdN x (tszL l) :: rdL l
def rdL : List (Tr No) → List No
 | [] => []
 | t :: r => rd t ++ rdL r
end
mutual
theorem Zov : ∀ (t : Tr No), (rd t).length = tsz t
 | ⟨x, l⟩ => by rw [rd, tsz, List.length_cons, ZkT l]; omega
theorem ZkT : ∀ (l : List (Tr No)), (rdL l).length = tszL l
 | [] => by rw [rdL, tszL]; rfl
 | t :: r => by rw [rdL, tszL, List.length_append, Zov t, ZkT r]
end
theorem ZqL {a b c : Int} (h1 : a ≤ c) (h2 : b ≤ c) : max2 a b ≤ c := by unfold max2; split <;> assumption
theorem Zoq (a b : Int) : a ≤ max2 a b := by unfold max2; split <;> omega
theorem Zsg (a b : Int) : b ≤ max2 a b := by unfold max2; split <;> omega
mutual
theorem ZnY : ∀ (t : Tr No), tsz t ≤ 1000 → 0 ≤ dep t ∧ dep t + 1 ≤ tsz t
 | ⟨x, l⟩, h => by
  rw [tsz] at h
  have := Zkm l 0 (by omega) (by omega) (by omega)
  rw [dep, tsz]; omega
theorem Zkm : ∀ (l : List (Tr No)) (a : Int), tszL l ≤ 1000 → 0 ≤ a → a ≤ 100000 → a ≤ depL l a ∧ depL l a ≤ a + tszL l
 | [], a, _, _, _ => by rw [depL, tszL]; omega
 | t :: r, a, h, h0, h1 => by
  rw [tszL] at h
  have k1 := ZnY t (by omega)
  have e : IntKind.i64.wrap (dep t + 1) = dep t + 1 := wrap_i64 (by omega) (by omega)
  have g1 := Zoq a (dep t + 1)
  have g2 : max2 a (dep t + 1) ≤ a + tsz t := ZqL (by omega) (by omega)
  have : a ≤ 100000 - 1000 ∨ 100000 - 1000 < a := by omega
  rw [depL, tszL, e]
  rcases this with h2 | h2
  ·have k2 := Zkm r (max2 a (dep t + 1)) (by omega) (by omega) (by omega)
   omega
  ·have g3 : max2 a (dep t + 1) = a := by unfold max2; rw [if_neg (by omega)]
   rw [g3]
   have k2 := Zkm r a (by omega) (by omega) (by omega)
   omega
end
theorem ZnX : ∀ (l : List (Tr No)) (a : Int), tszL l ≤ 1000 → 0 ≤ a → a ≤ 2000 → ∀ t ∈ l, dep t + 1 ≤ depL l a
 | t :: r, a, h, h0, h1, u, hu => by
  rw [tszL] at h
  have k1 := ZnY t (by omega)
  have e : IntKind.i64.wrap (dep t + 1) = dep t + 1 := wrap_i64 (by omega) (by omega)
  have g1 := Zoq a (dep t + 1)
  have g2 := Zsg a (dep t + 1)
  have g3 : max2 a (dep t + 1) ≤ 2000 := ZqL (by omega) (by omega)
  rw [depL, e]
  rcases List.mem_cons.1 hu with rfl | hu
  ·have := (Zkm r (max2 a (dep u + 1)) (by omega) (by omega) (by omega)).1
   omega
  ·exact ZnX r _ (by omega) (by omega) g3 u hu
theorem Zqe {x : No} {c : List (Tr No)} {t : Tr No} (h : tszL c ≤ 900) (ht : t ∈ c) : dep t + 1 ≤ dep (Tr.mk x c) := by
 rw [dep]; exact ZnX c 0 (by omega) (by omega) (by omega) t ht
theorem Zkh (fu : Nat) (b pre suf : List Int) (c : Int) (l : List No) (hb : b = pre ++ c :: suf) (hl : b.length ≤ 100000) : Zak fu (b, (pre.length : Int), l, (0 : Int), ()) = some ((c, ()), ((b, ((pre.length + 1 : Nat) : Int), l, (0 : Int), ()), ())) := by
 have hlen : b.length = pre.length + 1 + suf.length := by rw [hb]; simp; omega
 unfold Zak Zak.j3
 have e1 : IntKind.i64.wrap ((pre.length : Int) + 1) = ((pre.length + 1 : Nat) : Int) := wrap_i64 (by omega) (by omega)
 have e2 : IntKind.i64.wrap (((pre.length + 1 : Nat) : Int) - 1) = (pre.length : Int) := by rw [wrap_i64 (by omega) (by omega)]; omega
 have i0 : ixL (0 : Int) b (pre.length : Int) = c := by rw [hb]; unfold ixL; simp
 simp only [decide_eq_false (show ¬ (pre.length : Int) ≥ (b.length : Int) by omega), cond_false, e1, e2, ZcQ (show pre.length < b.length by omega), i0, chk, cond_true, bne_self_eq_false]
theorem ZoB (fu : Nat) (b pre suf : List Int) (p : Pd) (l : List No) (hby : By b) (hb : b = pre ++ putP p ++ suf) (hl : b.length ≤ 90000) (hfu : b.length + 2000 < fu) (hp : pdOk p) (hm : mayP p = true) : ZaR fu (b, (pre.length : Int), l, (0 : Int), ()) = some ((cP p, ()), ((b, (((pre ++ putP p).length : Nat) : Int), l, (0 : Int), ()), ())) := by
 have hlen : b.length = pre.length + (putP p).length + suf.length := by rw [hb]; simp; omega
 unfold ZaR
 simp only [bne_self_eq_false, cond_false]
 rw [Znq fu b pre suf hby p (by omega) hfu (by omega) hp hm hb]
 rfl
theorem Zue (fu : Nat) (b pre suf : List Int) (x : No) (k : Nat) (l : List No) (g : Bool) (hby : By b) (hb : b = pre ++ mid x k ++ suf) (hl : b.length ≤ 90000) (hfu : b.length + 2000 < fu) (ho : OKn x) (hk : k ≤ 100) (hpl : ZcX x k (decide (k = 0)) = true) :
  ZaW fu (b, (pre.length : Int), l, (0 : Int), ()) (x.1, zP, g, zP, (0 : Int), (0 : Int), (0 : Int), ()) = some (((k : Int), ()), ((b, (((pre ++ mid x k).length : Nat) : Int), l, (0 : Int), ()), (x.1, prN x, g, zP, loN x, hiN x, (0 : Int), ()), ())) := by
 unfold ZaW
 simp only [bne_self_eq_false, cond_false, ZcD]
 by_cases h1 : x.1 = 1
 ·have em : mid x k = putP x.2.1 := by unfold mid; rw [if_pos h1]
  have hk0 : k = 0 := by
   rcases (ZcN hpl).2 with h | h | h | h <;> omega
  rw [em] at hb ⊢
  rw [decide_eq_true h1, cond_true, ZoB fu b pre suf x.2.1 l hby hb hl hfu ho.1.1 ho.2.1]
  unfold prN loN hiN
  rw [if_pos h1, if_neg (by omega), if_neg (by omega), hk0]
  rfl
 ·rw [decide_eq_false h1, cond_false]
  by_cases h4 : x.1 = 4
  ·have em : mid x k = [x.2.2.2.2.1, x.2.2.2.2.2.1] := by unfold mid; rw [if_neg h1, if_pos h4]
   obtain ⟨hk1, r1, r2, r3⟩ : k = 1 ∧ 1 ≤ x.2.2.2.2.1 ∧ x.2.2.2.2.1 ≤ x.2.2.2.2.2.1 ∧ x.2.2.2.2.2.1 ≤ 8 := by
    rcases (ZcN hpl).2 with h | h | h | h
    ·omega
    ·omega
    ·omega
    ·exact ⟨h.2.1, h.2.2.1⟩
   rw [em] at hb ⊢
   have e1 := Zkh fu b pre ([x.2.2.2.2.2.1] ++ suf) x.2.2.2.2.1 l (by rw [hb]; simp) (by omega)
   have e2 := Zkh fu b (pre ++ [x.2.2.2.2.1]) suf x.2.2.2.2.2.1 l (by rw [hb]; simp) (by omega)
   rw [show (pre ++ [x.2.2.2.2.1]).length = pre.length + 1 by simp] at e2
   rw [decide_eq_true h4, cond_true, e1]
   simp only [Option.bind_some, e2, decide_eq_false (show ¬ x.2.2.2.2.1 < 1 by omega), decide_eq_false (show ¬ x.2.2.2.2.1 > x.2.2.2.2.2.1 by omega), decide_eq_false (show ¬ x.2.2.2.2.2.1 > 8 by omega), cond_false]
   unfold prN loN hiN
   rw [if_neg h1, if_pos h4, if_pos h4, hk1]
   simp
   omega
  ·have em : mid x k = [(k : Int)] := by unfold mid; rw [if_neg h1, if_neg h4]
   have hk2 : 2 ≤ k := by
    rcases (ZcN hpl).2 with h | h | h | h <;> omega
   rw [em] at hb ⊢
   have e1 := Zkh fu b pre suf (k : Int) l (by rw [hb]; simp) (by omega)
   have e2 : IntKind.i64.wrap (k : Int) = (k : Int) := wrap_i64 (by omega) (by omega)
   rw [decide_eq_false h4, cond_false, e1]
   simp only [Option.bind_some, e2, decide_eq_false (show ¬ (k : Int) < 2 by omega), cond_false]
   unfold prN loN hiN
   rw [if_neg h1, if_neg h4, if_neg h4]
   simp [zP]
theorem ZtP (l r : List No) (x : No) (f : No → No) : modL (l ++ x :: r) (l.length : Int) f = l ++ f x :: r := by
 unfold modL
 rw [Int.toNat_natCast]
 induction l with
 | nil => rfl
 | cons y l ih => simpa using ih
abbrev Rdr : Type := List Int × Int × List No × Int × Unit
abbrev RdR : Type := Option ((Unit) × (Rdr × Unit))
theorem Znm (fu : Nat) (S : Rdr → Int → RdR) k1 k3 (b suf : List Int) (depth : Int) (at' : Int) (hd : 0 ≤ depth ∧ depth ≤ 100) (c : List (Tr No)) (hc : c.length ≤ 100)
  (hv : ∀ t ∈ c, ∀ (pre suf : List Int) (l : List No), b = pre ++ wr t ++ suf → l.length + tsz t ≤ 32 → S (b, (pre.length : Int), l, (0 : Int), ()) (depth + 1) = some ((), ((b, (((pre ++ wr t).length : Nat) : Int), l ++ rd t, (0 : Int), ()), ()))) : ∀ (k m i : Nat) (pre : List Int) (l : List No), i + k = c.length → k < m → b = pre ++ wrL (c.drop i) ++ suf → l.length + tszL (c.drop i) ≤ 32 →
  Zaa.l20 fu S k1 k3 m depth at' c.length i b pre.length l 0 = k3 at' b (((pre ++ wrL (c.drop i)).length : Nat) : Int) (l ++ rdL (c.drop i)) 0 := by
 intro k
 induction k with
 | zero =>
  intro m i pre l h1 h2 h3 h4
  obtain ⟨m, rfl⟩ : ∃ j, m = j + 1 := ⟨m - 1, by omega⟩
  rw [List.drop_eq_nil_of_le (by omega)]
  unfold Zaa.l20 Zaa.b20
  rw [decide_eq_false (by omega), cond_false, wrL, rdL, List.append_nil, List.append_nil]
 | succ k ih =>
  intro m i pre l h1 h2 h3 h4
  obtain ⟨m, rfl⟩ : ∃ j, m = j + 1 := ⟨m - 1, by omega⟩
  have hi : i < c.length := by omega
  have e1 : IntKind.i64.wrap ((i : Int) + 1) = ((i + 1 : Nat) : Int) := wrap_i64 (by omega) (by omega)
  have e2 : IntKind.i64.wrap (depth + 1) = depth + 1 := wrap_i64 (by omega) (by omega)
  rw [Zcl hi] at h3 h4 ⊢
  rw [wrL] at h3
  rw [tszL] at h4
  have hm := List.getElem_mem hi
  unfold Zaa.l20 Zaa.b20
  rw [decide_eq_true (by omega), cond_true]
  simp only [bne_self_eq_false, cond_false, e2]
  rw [hv _ hm pre (wrL (c.drop (i + 1)) ++ suf) l (by rw [h3]; simp) (by omega)]
  simp only [Option.bind_some, e1]
  rw [ih m (i + 1) (pre ++ wr c[i]) (l ++ rd c[i]) (by omega) (by omega) (by rw [h3]; simp) (by rw [List.length_append, Zov]; omega), wrL, rdL, List.append_assoc, List.append_assoc]
theorem ZtR (fu : Nat) (b : List Int) (hby : By b) (hl : b.length ≤ 90000) (hfu : b.length + 2000 < fu) : ∀ (n : Nat) (t : Tr No) (m : Nat) (depth : Int) (pre suf : List Int) (l : List No), tsz t ≤ n → n ≤ 33 → n < m → frm t = true → OKt t → 0 ≤ depth → depth + dep t ≤ 8 → b = pre ++ wr t ++ suf → l.length + tsz t ≤ 32 →
  Zaa fu m (b, (pre.length : Int), l, (0 : Int), ()) depth = some ((), ((b, (((pre ++ wr t).length : Nat) : Int), l ++ rd t, (0 : Int), ()), ())) := by
 intro n
 induction n with
 | zero => intro t m depth pre suf l h; have := Zrz t; omega
 | succ n ih =>
  intro t m depth pre suf l h1 h2 h3 h4 h5 hd0 hd h6 h7
  obtain ⟨m, rfl⟩ : ∃ j, m = j + 1 := ⟨m - 1, by omega⟩
  obtain ⟨x, c⟩ := t
  obtain ⟨p1, p2⟩ := ZjL h4
  rw [OKt] at h5
  obtain ⟨o1, o2⟩ := h5
  rw [tsz] at h1 h7
  have hcl := Zgb c
  have hdb := ZnY (Tr.mk x c) (by rw [tsz]; omega)
  rw [Zgg, List.all_eq_true] at p2
  rw [wr] at h6 ⊢
  have hpc := (ZcN p1).2
  have hv : ∀ t ∈ c, ∀ (pre suf : List Int) (l : List No), b = pre ++ wr t ++ suf → l.length + tsz t ≤ 32 → Zaa fu m (b, (pre.length : Int), l, (0 : Int), ()) (depth + 1) = some ((), ((b, (((pre ++ wr t).length : Nat) : Int), l ++ rd t, (0 : Int), ()), ())) := fun t ht pre suf l hb hlt => by
   have q1 := ZgX ht
   have q2 := Zqe (x := x) (by omega) ht
   exact ih t m (depth + 1) pre suf l (by omega) (by omega) (by omega) (p2 t ht) (ZhA o2 t ht) (by omega) (by omega) hb hlt
  have k17 : ∀ (k0 k1 : List Int → Int → List No → Int → RdR) (q : List Int) (G : Pd), b = q ++ wrL c ++ suf →
    Zaa.j17 fu (Zaa fu m) k0 k1 depth (c.length : Int) b (q.length : Int) l 0 x.1 (prN x) x.2.2.1 G (loN x) (hiN x) 0 = k0 b (((q ++ wrL c).length : Nat) : Int) (l ++ (x.1, prN x, x.2.2.1, G, loN x, hiN x, (tszL c : Int), ()) :: rdL c) 0 := fun k0 k1 q G hq => by
   unfold Zaa.j17
   have ea : apOk l [(x.1, prN x, x.2.2.1, G, loN x, hiN x, (0 : Int), ())] 96 = true := ZsT (by simp; omega)
   simp only [ea, chk, cond_true]
   have := Znm fu (Zaa fu m) (fun c0q7 c0q7x2 c0q7x3 c0q7x4 =>
   k1 c0q7 c0q7x2 c0q7x3 c0q7x4) (fun atvq8 c0q8 c0q8x2 c0q8x3 c0q8x4 =>
   chk (ixOk c0q8x3 atvq8) <|
   k0 c0q8 c0q8x2 (modL c0q8x3 atvq8 (fun e => (e.1, (e.2.1, (e.2.2.1, (e.2.2.2.1, (e.2.2.2.2.1, (e.2.2.2.2.2.1, (IntKind.i64.wrap (IntKind.i64.wrap ((c0q8x3.length : Int) - atvq8) - (1 : Int)), e.2.2.2.2.2.2.2))))))))) c0q8x4) b suf depth (l.length : Int) (by omega) c (by omega) hv c.length fu 0 q (l ++ [(x.1, prN x, x.2.2.1, G, loN x, hiN x, (0 : Int), ())]) (by omega) (by omega) (by rw [List.drop_zero]; exact hq) (by rw [List.drop_zero, List.length_append, List.length_singleton]; omega)
   refine this.trans ?_
   rw [List.drop_zero]
   have hL : (l ++ [(x.1, prN x, x.2.2.1, G, loN x, hiN x, (0 : Int), ())] ++ rdL c).length = l.length + 1 + tszL c := by rw [List.length_append, ZkT]; simp
   have e1 : IntKind.i64.wrap (((l ++ [(x.1, prN x, x.2.2.1, G, loN x, hiN x, (0 : Int), ())] ++ rdL c).length : Int) - (l.length : Int)) = ((1 + tszL c : Nat) : Int) := by rw [hL, wrap_i64 (by omega) (by omega)]; omega
   have e2 : IntKind.i64.wrap (((1 + tszL c : Nat) : Int) - 1) = (tszL c : Int) := by rw [wrap_i64 (by omega) (by omega)]; omega
   rw [e1, e2, ZcQ (by rw [hL]; omega)]
   simp only [chk, cond_true]
   rw [List.append_assoc, List.singleton_append, ZtP]
  have hxl : ∀ q : List Int, (q ++ mid x c.length).length = q.length + (mid x c.length).length := fun q => List.length_append
  have k14 : ∀ (k0 k1 : List Int → Int → List No → Int → RdR) (q : List Int), b = q ++ mid x c.length ++ grd x ++ wrL c ++ suf →
    Zaa.j14 fu (Zaa fu m) k0 k1 depth b (q.length : Int) l 0 x.1 false 0 [] x.2.2.1 false 0 [] 0 0 0 = k0 b (((q ++ mid x c.length ++ grd x ++ wrL c).length : Nat) : Int) (l ++ rd (Tr.mk x c)) 0 := fun k0 k1 q hq => by
   unfold Zaa.j14
   have ho := Zue fu b q (grd x ++ wrL c ++ suf) x c.length l x.2.2.1 hby (by rw [hq]; simp) hl hfu o1 (by omega) p1
   unfold zP at ho
   rw [ho]
   simp only [Option.bind_some]
   rw [rd]
   unfold rdN
   cases hg : x.2.2.1 with
   | true =>
    have eg : grd x = putP x.2.2.2.1 := by unfold grd; rw [if_pos hg]
    have eu : guN x = cP x.2.2.2.1 := by unfold guN; rw [if_pos hg]
    rw [eg] at hq ⊢
    simp only [cond_true]
    rw [ZoB fu b (q ++ mid x c.length) (wrL c ++ suf) x.2.2.2.1 l hby (by rw [hq]; simp) hl hfu o1.1.2 o1.2.2]
    simp only [Option.bind_some, eu]
    have := k17 k0 k1 (q ++ mid x c.length ++ putP x.2.2.2.1) (cP x.2.2.2.1) hq
    rw [hg] at this
    exact this
   | false =>
    have eg : grd x = [] := by unfold grd; rw [if_neg (by rw [hg]; decide)]
    have eu : guN x = zP := by unfold guN; rw [if_neg (by rw [hg]; decide)]
    rw [eg, List.append_nil] at hq ⊢
    simp only [cond_false, eu]
    have := k17 k0 k1 (q ++ mid x c.length) zP hq
    rw [hg] at this
    exact this
  have k12 : ∀ (k0 k1 : List Int → Int → List No → Int → RdR) (q : List Int), b = q ++ mid x c.length ++ grd x ++ wrL c ++ suf →
    Zaa.j12 fu (Zaa fu m) k0 k1 depth b (q.length : Int) l 0 x.1 false 0 [] x.2.2.1 false 0 [] 0 0 0 = k0 b (((q ++ mid x c.length ++ grd x ++ wrL c).length : Nat) : Int) (l ++ rd (Tr.mk x c)) 0 := fun k0 k1 q hq => by
   unfold Zaa.j12
   simp only [ZcD, Zdh]
   by_cases h1 : x.1 = 1
   ·rw [decide_eq_true h1, Bool.not_true, cond_false]
    exact k14 k0 k1 q hq
   ·have hne : ¬ depth = 8 := by
     have hcn : c ≠ [] := by
      intro e
      subst e
      simp at hpc
      omega
     obtain ⟨t, r, rfl⟩ := List.exists_cons_of_ne_nil hcn
     have q2 := Zqe (x := x) (t := t) (c := t :: r) (by omega) (List.mem_cons_self ..)
     have q3 := ZnY t (by rw [tszL] at h7; omega)
     omega
    rw [decide_eq_false h1, Bool.not_false, cond_true, decide_eq_false hne, cond_false]
    exact k14 k0 k1 q hq
  have hw : wN x c.length = hdN x :: (mid x c.length ++ grd x) := by unfold wN; simp
  have hbe := Zkh fu b pre (mid x c.length ++ grd x ++ wrL c ++ suf) (hdN x) l (by rw [h6, hw]; simp) (by omega)
  rw [show pre.length + 1 = (pre ++ [hdN x]).length by simp] at hbe
  have hfin : ∀ (k0 k1 : List Int → Int → List No → Int → RdR), Zaa.j12 fu (Zaa fu m) k0 k1 depth b (((pre ++ [hdN x]).length : Nat) : Int) l 0 x.1 false 0 [] x.2.2.1 false 0 [] 0 0 0 = k0 b (((pre ++ (wN x c.length ++ wrL c)).length : Nat) : Int) (l ++ rd (Tr.mk x c)) 0 := fun k0 k1 => by
   rw [k12 k0 k1 (pre ++ [hdN x]) (by rw [h6, hw]; simp)]
   congr 2
   rw [hw]
   simp
  show Zaa.bd fu (Zaa fu m) (b, (pre.length : Int), l, (0 : Int), ()) depth = _
  unfold Zaa.bd
  have h32 : ((l.length : Int) == 32) = false := by rw [ZcD]; exact decide_eq_false (by omega)
  simp only [h32, cond_false]
  unfold Zaa.j2
  rw [hbe]
  simp only [Option.bind_some]
  have hT : Int.tmod (hdN x) 16 = x.1 := by
   unfold hdN
   rcases hpc with h | h | h | h <;> rw [h.1] <;> split <;> rfl
  have hG : decide (hdN x ≥ 16) = x.2.2.1 := by
   unfold hdN
   rcases hpc with h | h | h | h <;> rw [h.1] <;> cases x.2.2.1 <;> rfl
  rw [hT, hG]
  have hH : hdN x = 1 ∨ hdN x = 2 ∨ hdN x = 3 ∨ hdN x = 4 ∨ hdN x = 18 ∨ hdN x = 20 := by
   unfold hdN
   rcases hpc with h | h | h | h
   ·rw [h.1, h.2.2.2.2]; simp
   ·rw [h.1]; split <;> simp
   ·rw [h.1, h.2.2.2.2.2]; simp
   ·rw [h.1]; split <;> simp
  rcases hH with h | h | h | h | h | h
  all_goals
   rw [h] at hfin ⊢
   first
   | exact hfin _ (fun c0 c1 c2 c3 => some ((()), ((c0, c1, c2, c3, ()), ())))
mutual
def mpT : Tr No → Tr No
 | ⟨x, l⟩ => ⟨rdN x (tszL l), mpL l⟩
def mpL : List (Tr No) → List (Tr No)
 | [] => []
 | t :: r => mpT t :: mpL r
end
theorem Zni : ∀ (l : List (Tr No)), (mpL l).length = l.length
 | [] => by rw [mpL]
 | t :: r => by rw [mpL, List.length_cons, List.length_cons, Zni r]
mutual
theorem ZlK : ∀ (t : Tr No) (r : List No), ZaU (rd t ++ r) = (ZaU r).map (mpT t :: ·)
 | ⟨x, l⟩, r => by
  have h := ZjJ l []
  rw [Zbe, List.append_nil, Option.map_some, List.append_nil] at h
  have hs : siz (rdN x (tszL l)) = ((rdL l).length : Int) := by rw [ZkT]; rfl
  rw [rd, mpT, List.cons_append, ZaU, hs, if_pos (by rw [List.length_append]; omega), Int.toNat_natCast, List.take_left, List.drop_left, h]
  cases ZaU r <;> rfl
theorem ZjJ : ∀ (s : List (Tr No)) (r : List No), ZaU (rdL s ++ r) = (ZaU r).map (mpL s ++ ·)
 | [], r => by rw [rdL, mpL, List.nil_append]; cases ZaU r <;> rfl
 | t :: q, r => by
  rw [rdL, mpL, List.append_assoc, ZlK t, ZjJ q]
  cases ZaU r <;> rfl
end
theorem Ztn : mayP zP = true := by decide
theorem Zlj : Zdd zP = true := by decide
theorem Zso {x : No} {k : Nat} (n : Int) (h : ZcX x k (decide (k = 0)) = true) : ZcX (rdN x n) k (decide (k = 0)) = true := by
 obtain ⟨h1, h2⟩ := ZcN h
 have g : ((rdN x n).2.2.1 || Zdd (rdN x n).2.2.2.1) = true := by
  show (x.2.2.1 || Zdd (guN x)) = true
  unfold guN
  cases hg : x.2.2.1 with
  | true => rfl
  | false => rw [if_neg (by decide)]; exact Zlj
 unfold ZcX
 rw [g, Bool.true_and]
 show (if x.1 = 1 then decide (loN x = 0) && (decide (hiN x = 0) && (!x.2.2.1 && decide (k = 0)))
  else Zdd (prN x) && (if x.1 = 2 then decide (loN x = 0) && (decide (hiN x = 0) && decide (2 ≤ k))
   else if x.1 = 3 then decide (loN x = 0) && (decide (hiN x = 0) && (decide (2 ≤ k) && !x.2.2.1))
   else if x.1 = 4 then decide (k = 1) && (decide (1 ≤ loN x) && (decide (loN x ≤ hiN x) && decide (hiN x ≤ 8)))
   else false)) = true
 unfold loN hiN prN
 rcases h2 with h | h | h | h
 ·obtain ⟨a1, a2, a3, a4, a5⟩ := h
  rw [a1, a5, a2]; rfl
 ·obtain ⟨a1, a2, a3, a4, a5⟩ := h
  simp [a1, a2, Zlj]
 ·obtain ⟨a1, a2, a3, a4, a5, a6⟩ := h
  simp [a1, a2, a6, Zlj]
 ·obtain ⟨a1, a2, a3, a4⟩ := h
  simp [a1, a2, a3, Zlj]
mutual
theorem ZsX : ∀ (t : Tr No), frm t = true → frm (mpT t) = true
 | ⟨x, l⟩, h => by
  obtain ⟨p1, p2⟩ := ZjL h
  rw [mpT, frm, Zni, Zso _ p1, Zqt l p2]; rfl
theorem Zqt : ∀ (l : List (Tr No)), frmL l = true → frmL (mpL l) = true
 | [], _ => by rw [mpL, frmL]
 | t :: r, h => by
  rw [frmL, Bool.and_eq_true] at h
  rw [mpL, frmL, ZsX t h.1, Zqt r h.2]; rfl
end
mutual
theorem ZsV : ∀ (t : Tr No), dep (mpT t) = dep t
 | ⟨x, l⟩ => by rw [mpT, dep, dep, Zqd l]
theorem Zqd : ∀ (l : List (Tr No)) (a : Int), depL (mpL l) a = depL l a
 | [], a => by rw [mpL]
 | t :: r, a => by rw [mpL, depL, depL, ZsV t, Zqd r]
end
theorem ZtA (x : No) (n m : Int) : fin2 (rdN x n) m = fin2 x m := by
 unfold fin2
 show (if x.1 = 4 then IntKind.i64.wrap (m * IntKind.i64.wrap (hiN x)) else m) = _
 unfold hiN
 by_cases h : x.1 = 4
 ·rw [if_pos h, if_pos h, if_pos h]
 ·rw [if_neg h, if_neg h]
mutual
theorem Ztg : ∀ (t : Tr No), plc (mpT t) = plc t
 | ⟨x, l⟩ => by rw [mpT, plc, plc, ZqX l, Zni, ZtA]
theorem ZqX : ∀ (l : List (Tr No)) (a : Int), plcL (mpL l) a = plcL l a
 | [], a => by rw [mpL]
 | t :: r, a => by rw [mpL, plcL, plcL, Ztg t, ZqX r]
end
theorem ZqM {p : Pd} (h : mayP p = true) : mayP (cP p) = true := by
 obtain ⟨h1, h2⟩ := ZfK h
 unfold mayP cP
 have e1 : (p.2.2.1.map cT).length ≤ 4 := by rw [List.length_map]; exact h1
 have e2 : (p.2.2.1.map cT).all Zct = true := List.all_eq_true.2 fun t ht => by
  obtain ⟨u, hu, rfl⟩ := List.mem_map.1 ht
  exact ZoA (h2 u hu)
 simp only [decide_eq_true e1, e2, Bool.and_true]
 cases p.1 <;> simp
theorem ZkL {p : Pd} (h : pdOk p) : Zjt (cP p) := fun t ht => by
 obtain ⟨u, hu, rfl⟩ := List.mem_map.1 (show t ∈ p.2.2.1.map cT from ht)
 exact ZsU (h.2 u hu)
theorem Zot : Zjt zP := fun t ht => by cases ht
theorem ZpZ {p : Pd} (h : mayP p = true) : (cP p).2.2.1.length ≤ 30 := by
 have := (ZfK h).1
 show (p.2.2.1.map cT).length ≤ 30
 rw [List.length_map]; omega
theorem rdN_ok {x : No} (n : Int) (h : OKn x) : ZcU (rdN x n) = false ∧ Zjr (rdN x n) := by
 obtain ⟨⟨h1, h2⟩, h3, h4⟩ := h
 have a1 : mayP (prN x) = true ∧ Zjt (prN x) ∧ (prN x).2.2.1.length ≤ 30 := by
  unfold prN
  split
  ·exact ⟨ZqM h3, ZkL h1, ZpZ h3⟩
  ·exact ⟨Ztn, Zot, by decide⟩
 have a2 : mayP (guN x) = true ∧ Zjt (guN x) ∧ (guN x).2.2.1.length ≤ 30 := by
  unfold guN
  split
  ·exact ⟨ZqM h4, ZkL h2, ZpZ h4⟩
  ·exact ⟨Ztn, Zot, by decide⟩
 refine ⟨?_, ⟨a1.2, a2.2⟩⟩
 show (!(mayP (prN x) && mayP (guN x))) = false
 rw [a1.1, a2.1]; rfl
mutual
theorem Zua : ∀ (t : Tr No), OKt t → ∀ y ∈ rd t, ZcU y = false ∧ Zjr y
 | ⟨x, l⟩, h, y, hy => by
  rw [OKt] at h
  rw [rd] at hy
  rcases List.mem_cons.1 hy with rfl | hy
  ·exact rdN_ok _ h.1
  ·exact Zth l h.2 y hy
theorem Zth : ∀ (l : List (Tr No)), OKtL l → ∀ y ∈ rdL l, ZcU y = false ∧ Zjr y
 | [], _, y, hy => by rw [rdL] at hy; cases hy
 | t :: r, h, y, hy => by
  rw [OKtL] at h
  rw [rdL] at hy
  rcases List.mem_append.1 hy with hy | hy
  ·exact Zua t h.1 y hy
  ·exact Zth r h.2 y hy
end
theorem ZlU {p : Pt} {t : Tr No} (h : mayT p t = 0) : frm t = true ∧ p.1.any ZcU = false ∧ dep t ≤ 8 ∧ 1 ≤ p.2.1 ∧ p.2.1 ≤ 1048576 ∧ plc t ≤ 32 := by
 unfold mayT at h
 split at h
 ·rename_i h1
  split at h
  ·cases h
  ·rename_i h2
   split at h
   ·cases h
   ·rename_i h3
    split at h
    ·cases h
    ·rename_i h4
     split at h
     ·cases h
     ·rename_i h5
      split at h
      ·cases h
      ·rename_i h6
       exact ⟨h1, by simpa using h2, by omega, by omega, by omega, by omega⟩
 ·cases h
theorem Zsh (fu : Nat) (hfu : 1000 ≤ fu) (p : Pt) (t : Tr No) (ho : OKt t) (hl : tsz t ≤ 32) (h : mayT p t = 0) : ZaT fu (rd t, p.2.1, ()) = some (0, ()) := by
 obtain ⟨h1, h2, h3, h4, h5, h6⟩ := ZlU h
 have hf := ZlK t []
 rw [List.append_nil, Zbe] at hf
 rw [Zor fu hfu (rd t, p.2.1, ()) (fun x hx => (Zua t ho x hx).2) (by show (rd t).length ≤ 32; rw [Zov]; exact hl) (mpT t) hf]
 unfold mayT
 have hw : ¬ (rd t).any ZcU = true := by
  rw [List.any_eq_true]
  rintro ⟨y, hy, hw⟩
  rw [(Zua t ho y hy).1] at hw
  cases hw
 rw [if_pos (ZsX t h1), ZsV, Ztg]
 show some ((if (rd t).any ZcU = true then 1 else if dep t > 8 then 16 else if p.2.1 < 1 then 5 else if p.2.1 > 1048576 then 5 else if plc t > 32 then 4 else 0 : Int), ()) = _
 rw [if_neg hw, if_neg (by omega), if_neg (by omega), if_neg (by omega), if_neg (by omega)]
theorem ZsA {p : Pd} (hm : mayP p = true) : ZnN (cP p) p = true := by
 unfold ZnN
 rw [show allT (cP p).2.2.1 p.2.2.1 = true from Ztp p.2.2.1, decide_eq_true (show (cP p).2.2.1.length = p.2.2.1.length by simp [cP])]
 unfold mayP at hm
 simp only [cP]
 by_cases hp1 : p.1 = true
 ·rw [hp1] at hm
  by_cases h0 : p.2.1 = 0
  ·simp [h0, hp1]
  ·simp [h0] at hm
 ·simp [hp1]
theorem ZsB {p : Pd} (h : Zdd p = true) : ZnN zP p = true := by
 unfold Zdd at h
 simp only [Bool.and_eq_true, Bool.not_eq_true', decide_eq_true_eq] at h
 obtain ⟨h1, h2, h3⟩ := h
 have h3 : p.2.2.1 = [] := List.eq_nil_of_length_eq_zero h3
 unfold ZnN zP
 rw [h1, h2, h3]; rfl
def Sp (a b : Pd) : Prop := (a.2.2.1.length ≤ 30 ∧ okT a.2.2.1 ∧ okT b.2.2.1) ∧ ZnN a b = true
theorem Ztd {p : Pd} (h : pdOk p) : okT p.2.2.1 := fun t ht => (h.2 t ht).2.2.2.1
theorem Sp_cP {p : Pd} (h : pdOk p) (hm : mayP p = true) : Sp (cP p) p :=
 ⟨⟨ZpZ hm, fun t ht => (ZkL h t ht).2.2.1.2, Ztd h⟩, ZsA hm⟩
theorem Sp_zP {p : Pd} (h : pdOk p) (hm : Zdd p = true) : Sp zP p :=
 ⟨⟨by decide, (fun t ht => by cases ht), Ztd h⟩, ZsB hm⟩
theorem sp_eq (fu : Nat) (hfu : 1000 ≤ fu) {a b : Pd} (h : Sp a b) : ZaD fu a b = some (true, ()) := by
 obtain ⟨⟨h1, h2, h3⟩, h4⟩ := h
 rw [ZnC fu a b (by omega) (by omega) h2 h3, h4]
theorem ZqR (fu : Nat) (hfu : 1000 ≤ fu) (x : No) (n : Int) (k : Nat) (hn : siz x = n) (ho : OKn x) (hp : ZcX x k (decide (k = 0)) = true) : ZaX fu (rdN x n) x = some (true, ()) := by
 obtain ⟨h1, h2⟩ := ZcN hp
 have a1 : Sp (prN x) x.2.1 := by
  unfold prN
  by_cases hk : x.1 = 1
  ·rw [if_pos hk]; exact Sp_cP ho.1.1 ho.2.1
  ·rw [if_neg hk]
   refine Sp_zP ho.1.1 ?_
   rcases h2 with h | h | h | h
   ·exact absurd h.1 hk
   ·exact h.2.2.2.2
   ·exact h.2.2.2.2.1
   ·exact h.2.2.2
 have a2 : Sp (guN x) x.2.2.2.1 := by
  unfold guN
  by_cases hk : x.2.2.1 = true
  ·rw [if_pos hk]; exact Sp_cP ho.1.2 ho.2.2
  ·rw [if_neg hk]; exact Sp_zP ho.1.2 (h1.resolve_left hk)
 have a3 : loN x = x.2.2.2.2.1 ∧ hiN x = x.2.2.2.2.2.1 := by
  unfold loN hiN
  by_cases hk : x.1 = 4
  ·rw [if_pos hk, if_pos hk]; exact ⟨rfl, rfl⟩
  ·rw [if_neg hk, if_neg hk]
   rcases h2 with h | h | h | h
   ·exact ⟨h.2.2.1.symm, h.2.2.2.1.symm⟩
   ·exact ⟨h.2.2.1.symm, h.2.2.2.1.symm⟩
   ·exact ⟨h.2.2.1.symm, h.2.2.2.1.symm⟩
   ·exact absurd h.1 hk
 unfold ZaX
 rw [show (rdN x n).1 = x.1 from rfl, show (rdN x n).2.2.1 = x.2.2.1 from rfl, show (rdN x n).2.2.2.2.1 = x.2.2.2.2.1 from a3.1, show (rdN x n).2.2.2.2.2.1 = x.2.2.2.2.2.1 from a3.2, show (rdN x n).2.2.2.2.2.2.1 = x.2.2.2.2.2.2.1 from hn.symm, show (rdN x n).2.1 = prN x from rfl, show (rdN x n).2.2.2.1 = guN x from rfl]
 simp only [beq_self_eq_true, cond_true, sp_eq fu hfu a1, sp_eq fu hfu a2, Option.bind_some]
def al (fu : Nat) : List No → List No → Prop
 | [], [] => True
 | y :: a, x :: b => ZaX fu y x = some (true, ()) ∧ al fu a b
 | _, _ => False
theorem ZsP (fu : Nat) : ∀ {a b c d : List No}, al fu a b → al fu c d → al fu (a ++ c) (b ++ d)
 | [], [], _, _, _, h => h
 | y :: a, x :: b, _, _, h1, h2 => ⟨h1.1, ZsP fu h1.2 h2⟩
 | [], _ :: _, _, _, h, _ => h.elim
 | _ :: _, [], _, _, h, _ => h.elim
theorem ZsQ (fu : Nat) : ∀ {a b : List No}, al fu a b → a.length = b.length
 | [], [], _ => rfl
 | _ :: _, _ :: _, h => by rw [List.length_cons, List.length_cons, ZsQ fu h.2]
 | [], _ :: _, h => h.elim
 | _ :: _, [], h => h.elim
theorem ZpM (fu : Nat) (hfu : 1000 ≤ fu) : ∀ (n : Nat) (r : List No) (s : List (Tr No)), r.length ≤ n → ZaU r = some s → frmL s = true → (∀ x ∈ r, OKn x) → al fu (rdL s) r := by
 intro n
 induction n with
 | zero =>
  intro r s h1 h2 h3 h4
  obtain rfl : r = [] := List.eq_nil_of_length_eq_zero (by omega)
  rw [Zbe] at h2
  cases h2
  rw [rdL]; trivial
 | succ n ih =>
  intro r s h1 h2 h3 h4
  cases r with
  | nil => rw [Zbe] at h2; cases h2; rw [rdL]; trivial
  | cons x r =>
   obtain ⟨a, b, c, q, e1, e2, e3, e4, e5, -⟩ := ZeK h2
   subst e5
   subst e1
   simp only [List.length_cons, List.length_append] at h1
   rw [frmL, Bool.and_eq_true] at h3
   obtain ⟨p1, p2⟩ := ZjL h3.1
   rw [rdL, rd, List.cons_append]
   have hs := Zgf a.length a c (Nat.le_refl _) e3
   refine ⟨ZqR fu hfu x _ c.length (by rw [e2, hs]) (h4 x (by simp)) p1, ?_⟩
   exact ZsP fu (ih a c (by omega) e3 p2 fun y hy => h4 y (by simp [hy])) (ih b q (by omega) e4 h3.2 fun y hy => h4 y (by simp [hy]))
theorem Zto : ∀ (n : Nat) (r : List No) (s : List (Tr No)), r.length ≤ n → ZaU r = some s → (∀ x ∈ r, OKn x) → OKtL s := by
 intro n
 induction n with
 | zero =>
  intro r s h1 h2 h3
  obtain rfl : r = [] := List.eq_nil_of_length_eq_zero (by omega)
  rw [Zbe] at h2
  cases h2
  simp [OKtL]
 | succ n ih =>
  intro r s h1 h2 h3
  cases r with
  | nil => rw [Zbe] at h2; cases h2; simp [OKtL]
  | cons x r =>
   obtain ⟨a, b, c, q, e1, e2, e3, e4, e5, -⟩ := ZeK h2
   subst e5
   rw [e1] at h1 h3
   simp only [List.length_cons, List.length_append] at h1
   rw [OKtL, OKt]
   exact ⟨⟨h3 x (by simp), ih a c (by omega) e3 fun y hy => h3 y (by simp [hy])⟩, ih b q (by omega) e4 fun y hy => h3 y (by simp [hy])⟩
theorem Zlc (fu : Nat) (k1 : Bool → Option (Bool × Unit)) (k2 : Unit → Option (Bool × Unit)) (a b : List No) (hab : a.length = b.length) (hl : a.length ≤ 1000) : ∀ (k m i : Nat), i + k = a.length → k < m → al fu (a.drop i) (b.drop i) → Zah.l4 fu k1 k2 m a b a.length i = k2 () := by
 intro k
 induction k with
 | zero =>
  intro m i h1 h2 h3
  obtain ⟨m, rfl⟩ : ∃ j, m = j + 1 := ⟨m - 1, by omega⟩
  unfold Zah.l4 Zah.b4
  rw [decide_eq_false (by omega), cond_false]
 | succ k ih =>
  intro m i h1 h2 h3
  obtain ⟨m, rfl⟩ : ∃ j, m = j + 1 := ⟨m - 1, by omega⟩
  have hi : i < a.length := by omega
  have hj : i < b.length := by omega
  have e1 : IntKind.i64.wrap ((i : Int) + 1) = ((i + 1 : Nat) : Int) := wrap_i64 (by omega) (by omega)
  rw [Zcl hi, Zcl hj] at h3
  unfold Zah.l4 Zah.b4
  rw [decide_eq_true (by omega), cond_true, ZcQ hi, ZcQ hj]
  simp only [chk, cond_true, ixN hi, ixN hj, h3.1, Option.bind_some, Bool.not_true, cond_false, e1]
  exact ih m (i + 1) (by omega) (by omega) h3.2
theorem Zri (fu : Nat) (hfu : 2000 ≤ fu) (a b : List No) (w : Int) (hl : a.length ≤ 1000) (h : al fu a b) : ZbC fu (a, w, ()) (b, w, ()) = some (true, ()) := by
 have hab := ZsQ fu h
 unfold ZbC Zah
 simp only [beq_self_eq_true, cond_true, hab, bne_self_eq_false, cond_false]
 have key : Zah.l4 fu (fun vq3 => some (vq3, ())) (fun (_ : Unit) => some (true, ())) fu a b a.length (0 : Int) = some (true, ()) :=
  Zlc fu _ _ a b hab hl a.length fu 0 (by omega) (by omega) (by rw [List.drop_zero, List.drop_zero]; exact h)
 rw [← hab, key]
 rfl
theorem wN_by {x : No} {k : Nat} (hk : k ≤ 200) (ho : OKn x) (hp : ZcX x k (decide (k = 0)) = true) : By (wN x k) := by
 have h2 := (ZcN hp).2
 unfold wN
 refine Zhb (Zhb ?_ ?_) ?_
 ·intro c hc
  obtain rfl := List.mem_singleton.1 hc
  unfold hdN
  rcases h2 with h | h | h | h <;> rw [h.1] <;> split <;> decide
 ·unfold mid
  by_cases h1 : x.1 = 1
  ·rw [if_pos h1]; exact ZqZ ho.1.1 ho.2.1
  ·rw [if_neg h1]
   by_cases h4 : x.1 = 4
   ·rw [if_pos h4]
    obtain ⟨r1, r2, r3⟩ : 1 ≤ x.2.2.2.2.1 ∧ x.2.2.2.2.1 ≤ x.2.2.2.2.2.1 ∧ x.2.2.2.2.2.1 ≤ 8 := by
     rcases h2 with h | h | h | h
     ·omega
     ·omega
     ·omega
     ·exact h.2.2.1
    intro c hc
    rcases List.mem_cons.1 hc with rfl | hc
    ·omega
    ·obtain rfl := List.mem_singleton.1 hc
     omega
   ·rw [if_neg h4]
    intro c hc
    obtain rfl := List.mem_singleton.1 hc
    omega
 ·unfold grd
  split
  ·exact ZqZ ho.1.2 ho.2.2
  ·intro c hc; cases hc
mutual
theorem wr_by : ∀ (t : Tr No), tsz t ≤ 200 → OKt t → frm t = true → By (wr t)
 | ⟨x, l⟩, h, ho, hf => by
  obtain ⟨p1, p2⟩ := ZjL hf
  rw [OKt] at ho
  rw [tsz] at h
  have := Zgb l
  rw [wr]
  exact Zhb (wN_by (by omega) ho.1 p1) (Ztm l (by omega) ho.2 p2)
theorem Ztm : ∀ (l : List (Tr No)), tszL l ≤ 200 → OKtL l → frmL l = true → By (wrL l)
 | [], _, _, _ => by rw [wrL]; intro c hc; cases hc
 | t :: r, h, ho, hf => by
  rw [OKtL] at ho
  rw [tszL] at h
  rw [frmL, Bool.and_eq_true] at hf
  rw [wrL]
  exact Zhb (wr_by t (by omega) ho.1 hf.1) (Ztm r (by omega) ho.2 hf.2)
end
theorem ZtB (m : Nat) : Zbu (m + 1000) = some (true, ()) := by kernel_rfl
theorem ZtZ {x : List RN × Int × Unit} (h : kS9.ok x) : ∀ n ∈ (Znu x).1, pdOk n.2.1 ∧ pdOk n.2.2.2.1 := fun n hn => by
 obtain ⟨h1, -, -⟩ := h
 obtain ⟨w, hw, rfl⟩ := List.mem_map.1 hn
 obtain ⟨-, k1, -, k2, -⟩ := h1.2 w (List.mem_of_mem_take hw)
 exact ⟨pd_ok k1, pd_ok k2⟩
theorem lawCodePuts (x : List RN × Int × Unit) (h : okAll law13CodePuts.con.ps (x, ())) : law13CodePuts (x.1.length + (x.1.map lenN).sum + 200000) x = some (true, ()) := by
 have hf := ZtB (x.1.length + (x.1.map lenN).sum + 199000)
 rw [show x.1.length + (x.1.map lenN).sum + 199000 + 1000 = x.1.length + (x.1.map lenN).sum + 200000 by omega] at hf
 have hfu0 : x.1.length + (x.1.map lenN).sum < x.1.length + (x.1.map lenN).sum + 200000 := by omega
 obtain ⟨e1, e2, e3⟩ := Zst (x.1.length + (x.1.map lenN).sum + 200000) x h.1 hfu0
 have hfu1 : 199000 ≤ x.1.length + (x.1.map lenN).sum + 200000 := by omega
 generalize x.1.length + (x.1.map lenN).sum + 200000 = fu at *
 have hfu : 1000 ≤ fu := by omega
 have hfu2 : 2000 ≤ fu := by omega
 have hpk := ZtZ h.1
 have e3 : 0 ≤ (Znu x).2.1 := e3
 have e4 : (Znu x).1.length ≤ 40 := by simp [Znu]; omega
 unfold law13CodePuts
 rw [e1]
 simp only [Option.bind_some]
 generalize Znu x = p at e2 e3 e4 hpk
 obtain ⟨g, hg⟩ := Zpj fu (by omega) p
 rw [hg]
 simp only [Option.bind_some, hf]
 cases g with
 | true => rfl
 | false =>
  simp only [cond_false, Bool.not_true]
  have hbad : ∀ e : Int, e ≠ 0 → ZaT fu p = some (e, ()) → ZaI fu p = some (e, ()) → Zar fu p = some ([], e, ()) ∧ ZbM fu p = some ([], e, ()) := fun e he q1 q2 => by
   constructor
   ·unfold Zar
    rw [q1]
    simp only [Option.bind_some, Zdh, decide_eq_false he, Bool.not_false, cond_true]
   ·unfold ZbM
    rw [q2]
    simp only [Option.bind_some, Zdh, decide_eq_false he, Bool.not_false, cond_true]
  have hbad2 : ∀ e : Int, e ≠ 0 → ZaT fu p = some (e, ()) → ZaI fu p = some (e, ()) → ((Zar fu p).bind fun r4 => (ZbM fu p).bind fun r5 => cond (r4.1 != r5.1) (some (false, ())) (cond (r4.2.1 != r5.2.1) (some (false, ())) (cond (r4.2.1 != (0 : Int)) (some (true, ())) ((ZaK fu r4.1).bind fun r7 => cond (r7.2.1 == (0 : Int)) ((ZbC fu r7.1 p).bind fun r8 => some (r8.1, ())) (some (false, ())))))) = some (true, ()) := fun e he q1 q2 => by
   obtain ⟨w1, w2⟩ := hbad e he q1 q2
   rw [w1, w2]
   simp only [Option.bind_some, bne_self_eq_false, cond_false, Zdh, decide_eq_false he, Bool.not_false, cond_true, decide_true, Bool.not_true]
  by_cases hl : p.1.length ≤ 32
  ·by_cases ht : ∃ t, ZaU p.1 = some [t]
   ·obtain ⟨t, ht⟩ := ht
    have hm := Zor fu hfu p e2 hl t ht
    have hrm := ZnA fu hfu p e2 hl e3 t ht
    by_cases h0 : mayT p t = 0
    ·obtain ⟨z1, z2, z3, z4, z5, z6⟩ := ZlU h0
     rw [h0] at hm hrm
     have hw0 : p.2.1 < 18446744073709551616 := by omega
     have hsz0 := Zgf p.1.length p.1 [t] (Nat.le_refl _) ht
     have hsz : tsz t = p.1.length := by simpa [tszL] using hsz0
     have hok : ∀ n ∈ p.1, OKn n := fun n hn => by
      have hwr : ZcU n = false := by
       cases hh : ZcU n with
       | false => rfl
       | true =>
        have : p.1.any ZcU = true := List.any_eq_true.2 ⟨n, hn, hh⟩
        rw [z2] at this
        cases this
      have hmm : mayP n.2.1 = true ∧ mayP n.2.2.2.1 = true := by
       unfold ZcU at hwr
       rw [Bool.not_eq_false', Bool.and_eq_true] at hwr
       exact hwr
      exact ⟨hpk n hn, hmm⟩
     have hokt := Zto p.1.length p.1 [t] (Nat.le_refl _) ht hok
     rw [OKtL] at hokt
     have hokt := hokt.1
     have hfl : frmL [t] = true := by rw [frmL, frmL, z1]; rfl
     have hpl := Zep 9 p.2.1
     have hwl := ZrA t hokt
     have c1 : Zar fu p = some (putN 9 p.2.1 ++ wr t, 0, ()) := by
      unfold Zar
      rw [hm]
      simp only [Option.bind_some, bne_self_eq_false, cond_false]
      rw [ZkO fu (by omega) [] p.2.1 (by simp) e3 hw0]
      simp only [Option.bind_some, List.nil_append]
      have := Zss fu hfu2 (fun bq2 => some (bq2, (0 : Int), ())) p hl hok p.1.length p.1 [] [] [t] (putN 9 p.2.1) (fu - p.1.length) (Nat.le_refl _) ht hfl (by simp) (by omega)
      rw [show fu - p.1.length + p.1.length = fu by omega, List.nil_append] at this
      refine this.trans ?_
      obtain ⟨j, hj⟩ : ∃ j, fu - p.1.length = j + 1 := ⟨fu - p.1.length - 1, by omega⟩
      rw [hj]
      unfold Zar.l6 Zar.b6
      rw [decide_eq_false (by omega), cond_false, wrL, wrL, List.append_nil]
     have c2 : ZbM fu p = some (putN 9 p.2.1 ++ wr t, 0, ()) := by
      unfold ZbM
      rw [hrm]
      simp only [Option.bind_some, bne_self_eq_false, cond_false]
      rw [(ZgV fu hfu p.1 (by omega)).1 t ht]
      simp only [Option.bind_some]
      rw [Zgs fu (by omega) [] p.2.1 (by simp) e3 hw0]
      simp only [Option.bind_some, List.nil_append, ZoG]
      rw [ZnG fu hfu2 32 t fu (putN 9 p.2.1) (by omega) (by omega) (by omega) z1 hokt (by omega)]
      rfl
     rw [c1, c2]
     simp only [Option.bind_some, bne_self_eq_false, cond_false]
     have hby : By (putN 9 p.2.1 ++ wr t) := Zhb (ZkN p.2.1 e3 hw0) (wr_by t (by omega) hokt z1)
     have hbl : (putN 9 p.2.1 ++ wr t).length ≤ 90000 := by rw [List.length_append]; omega
     have c3 : ZaK fu (putN 9 p.2.1 ++ wr t) = some ((rd t, p.2.1, ()), 0, ()) := by
      unfold ZaK
      have hg0 := ZmX [] (wr t) p.2.1 e3 hw0
      rw [List.nil_append] at hg0
      have hg1 : got (putN 9 p.2.1 ++ wr t) 0 = (p.2.1, ((putN 9 p.2.1).length : Int), 0) := by
       refine hg0.trans ?_
       simp
      rw [ZgQ fu _ hby (by omega) (by omega) 0, hg1]
      simp only [Option.bind_some, bne_self_eq_false, cond_false]
      have hn := ZtR fu (putN 9 p.2.1 ++ wr t) hby hbl (by omega) 32 t fu 0 (putN 9 p.2.1) [] [] (by omega) (by omega) (by omega) z1 hokt (by omega) (by omega) (by simp) (by simp; omega)
      rw [hn]
      simp only [Option.bind_some, decide_eq_false (show ¬ (((putN 9 p.2.1 ++ wr t).length : Nat) : Int) < (((putN 9 p.2.1 ++ wr t).length : Nat) : Int) by omega), cond_false, List.nil_append]
      unfold ZaK.j8
      simp only [beq_self_eq_true, cond_true]
      rw [Zsh fu hfu p t hokt (by omega) h0]
      simp only [Option.bind_some]
      unfold ZaK.j11
      simp only [bne_self_eq_false, cond_false]
     rw [c3]
     simp only [Option.bind_some, beq_self_eq_true, cond_true]
     have hal := ZpM fu hfu p.1.length p.1 [t] (Nat.le_refl _) ht hfl hok
     rw [rdL, rdL, List.append_nil] at hal
     have hs := Zri fu hfu2 (rd t) p.1 p.2.1 (by rw [Zov]; omega) hal
     rw [show ((p.1, p.2.1, ()) : Pt) = p from rfl] at hs
     rw [hs]
     rfl
    ·exact hbad2 _ h0 hm hrm
   ·exact hbad2 2 (by decide) (may_no fu hfu p hl ht) (Zre fu hfu p hl ht)
  ·exact hbad2 12 (by decide) (Zsi fu p hl) (Znz fu p hl)
end Go.Shal.Pr
