/- The plain law of values' order. By an AI agent. -/
import Derived.Test.YtfnhgbonlbemhaaGen04o
set_option linter.unusedVariables false
namespace Go.Shal.Pr
open Go Go.Shal Go.Proofs
theorem wrap_u64 {x : Int} (h0 : 0 ≤ x) (h1 : x < 18446744073709551616) : IntKind.u64.wrap x = x := by
  simp only [IntKind.wrap, IntKind.signed, IntKind.bits]
  simp
  omega
theorem wrap_i64 {x : Int} (h0 : -9223372036854775808 ≤ x) (h1 : x < 9223372036854775808) : IntKind.i64.wrap x = x := by
  simp only [IntKind.wrap, IntKind.signed, IntKind.bits]
  simp
  omega
/-! ### The order of floats, by their words -/
def rung (x : Nat) : Nat := x % 9223372036854775808
def sgn (x : Nat) : Bool := x / 9223372036854775808 % 2 == 1
def isNan (x : Nat) : Prop := rung x > 9218868437227405312
instance (x : Nat) : Decidable (isNan x) := inferInstanceAs (Decidable (_ > _))
/-- A number's size, as a whole number of the least one. -/
def mag (r : Nat) : Nat := if r < 4503599627370496 then r else (4503599627370496 + r % 4503599627370496) * 2 ^ (r / 4503599627370496 - 1)
def sg (s : Bool) (a : Nat) : Int := if s then -(a : Int) else (a : Int)
/-- A word's place in the row of all numbers; the two zeros have one. -/
def sk (x : Nat) : Int := sg (sgn x) (rung x)
theorem mag_mono {r q : Nat} (h : r < q) : mag r < mag q := by
  unfold mag
  by_cases h1 : q < 4503599627370496
  · rw [if_pos (by omega), if_pos h1]; exact h
  · rw [if_neg h1]
    have hq1 : 1 ≤ q / 4503599627370496 := by omega
    by_cases h2 : r < 4503599627370496
    · rw [if_pos h2]
      have : 1 ≤ 2 ^ (q / 4503599627370496 - 1) := Nat.one_le_two_pow
      have : (4503599627370496 + q % 4503599627370496) * 1 ≤ (4503599627370496 + q % 4503599627370496) * 2 ^ (q / 4503599627370496 - 1) := Nat.mul_le_mul_left _ this
      omega
    · rw [if_neg h2]
      rcases Nat.lt_or_ge (r / 4503599627370496) (q / 4503599627370496) with hd | hd
      · have e1 : (4503599627370496 + r % 4503599627370496) * 2 ^ (r / 4503599627370496 - 1) < 9007199254740992 * 2 ^ (r / 4503599627370496 - 1) := Nat.mul_lt_mul_of_pos_right (by omega) (Nat.two_pow_pos _)
        have e2 : 9007199254740992 * 2 ^ (r / 4503599627370496 - 1) = 4503599627370496 * 2 ^ (r / 4503599627370496) := by
          obtain ⟨e, he⟩ : ∃ e, r / 4503599627370496 = e + 1 := ⟨r / 4503599627370496 - 1, by omega⟩
          rw [he, Nat.add_sub_cancel, Nat.pow_succ]; omega
        have e3 : 4503599627370496 * 2 ^ (r / 4503599627370496) ≤ 4503599627370496 * 2 ^ (q / 4503599627370496 - 1) := Nat.mul_le_mul_left _ (Nat.pow_le_pow_right (by omega) (by omega))
        have e4 : 4503599627370496 * 2 ^ (q / 4503599627370496 - 1) ≤ (4503599627370496 + q % 4503599627370496) * 2 ^ (q / 4503599627370496 - 1) := Nat.mul_le_mul_right _ (by omega)
        omega
      · have hd2 : r / 4503599627370496 = q / 4503599627370496 := by omega
        rw [hd2]
        exact Nat.mul_lt_mul_of_pos_right (by omega) (Nat.two_pow_pos _)
theorem mag_zero : mag 0 = 0 := rfl
theorem cmp_of {a b c d : Int} (h1 : a < b ↔ c < d) (h2 : a = b ↔ c = d) : compare a b = compare c d := by
  show compareOfLessAndEq a b = compareOfLessAndEq c d
  unfold compareOfLessAndEq
  by_cases x1 : a < b
  · rw [if_pos x1, if_pos (h1.1 x1)]
  · rw [if_neg x1, if_neg (fun h => x1 (h1.2 h))]
    by_cases x2 : a = b
    · rw [if_pos x2, if_pos (h2.1 x2)]
    · rw [if_neg x2, if_neg (fun h => x2 (h2.2 h))]
theorem mag_cmp (s t : Bool) (r q : Nat) : compare (sg s (mag r)) (sg t (mag q)) = compare (sg s r) (sg t q) := by
  have pos : ∀ {r : Nat}, 0 < r → 0 < mag r := fun h => by have := mag_mono h; rw [mag_zero] at this; exact this
  have z : ∀ {r : Nat}, r = 0 → mag r = 0 := fun h => by rw [h]; rfl
  have pr := pos (r := r)
  have pq := pos (r := q)
  have zr := z (r := r)
  have zq := z (r := q)
  have lt1 : r < q → mag r < mag q := mag_mono
  have lt2 : q < r → mag q < mag r := mag_mono
  have eq : r = q → mag r = mag q := fun h => by rw [h]
  cases s <;> cases t <;> simp only [sg, Bool.false_eq_true, if_false, if_true] <;> refine cmp_of ?_ ?_ <;> omega
theorem cmp_scale (k : Nat) (a b : Int) : compare (a * 2 ^ k) (b * 2 ^ k) = compare a b := by
  have hp : (0 : Int) < 2 ^ k := Int.pow_pos (by decide)
  refine cmp_of ⟨fun h => ?_, fun h => Int.mul_lt_mul_of_pos_right h hp⟩ ⟨fun h => ?_, fun h => by rw [h]⟩
  · exact Int.lt_of_mul_lt_mul_right h (Int.le_of_lt hp)
  · exact Int.eq_of_mul_eq_mul_right (by omega) h
theorem signed_eq (s : Bool) (m u : Nat) : Ieee.signed s m u = sg s (m * 2 ^ u) := by
  unfold Ieee.signed sg
  rw [Nat.shiftLeft_eq]
theorem sg_mul (s : Bool) (a k : Nat) : sg s (a * 2 ^ k) = sg s a * 2 ^ k := by
  unfold sg
  cases s <;> simp [Int.neg_mul]
theorem num_order (s t : Bool) (m n k l : Nat) (L : Int) : (Ieee.Datum.number s m (L + k)).order (.number t n (L + l)) = some (compare (sg s (m * 2 ^ k)) (sg t (n * 2 ^ l))) := by
  show some (compare (Ieee.signed s m (L + k - min (L + k) (L + l)).toNat) (Ieee.signed t n (L + l - min (L + k) (L + l)).toNat)) = _
  congr 1
  rw [signed_eq, signed_eq]
  have e1 : (L + (k : Int) - min (L + k) (L + l)).toNat = k - min k l := by omega
  have e2 : (L + (l : Int) - min (L + k) (L + l)).toNat = l - min k l := by omega
  rw [e1, e2, ← cmp_scale (min k l), ← sg_mul, ← sg_mul, Nat.mul_assoc, Nat.mul_assoc, ← Nat.pow_add, ← Nat.pow_add, Nat.sub_add_cancel (Nat.min_le_left _ _), Nat.sub_add_cancel (Nat.min_le_right _ _)]
def LP64 : Int := Ieee.double.leastPlace
theorem read_num {x : Nat} (h : rung x < 9218868437227405312) : ∃ m k : Nat, Ieee.double.read x = .number (sgn x) m (LP64 + k) ∧ m * 2 ^ k = mag (rung x) := by
  have hw : Ieee.double.signWeight = 9223372036854775808 := by decide
  have hb : Ieee.double.binade = 4503599627370496 := by decide
  have hi : Ieee.double.infRung = 9218868437227405312 := by decide
  unfold rung at h ⊢
  unfold Ieee.Format.read mag
  rw [hw, hb, hi]
  simp only
  by_cases h1 : x % 9223372036854775808 < 4503599627370496
  · rw [if_pos h1, if_pos h1]
    exact ⟨_, 0, by rw [show ((0 : Nat) : Int) = 0 from rfl, Int.add_zero]; rfl, by simp⟩
  · rw [if_neg h1, if_neg h1, if_pos h]
    exact ⟨_, _, rfl, rfl⟩
theorem read_inf {x : Nat} (h : rung x = 9218868437227405312) : Ieee.double.read x = .infinity (sgn x) := by
  have hw : Ieee.double.signWeight = 9223372036854775808 := by decide
  have hb : Ieee.double.binade = 4503599627370496 := by decide
  have hi : Ieee.double.infRung = 9218868437227405312 := by decide
  unfold rung at h
  unfold Ieee.Format.read
  rw [hw, hb, hi]
  simp only
  rw [h, if_neg (by decide), if_neg (by decide), if_pos rfl]
  rfl
theorem read_nan {x : Nat} (h : isNan x) : ∃ t, Ieee.double.read x = .nan (sgn x) t := by
  have hw : Ieee.double.signWeight = 9223372036854775808 := by decide
  have hb : Ieee.double.binade = 4503599627370496 := by decide
  have hi : Ieee.double.infRung = 9218868437227405312 := by decide
  unfold isNan rung at h
  unfold Ieee.Format.read
  rw [hw, hb, hi]
  simp only
  rw [if_neg (by omega), if_neg (by omega), if_neg (by omega)]
  exact ⟨_, rfl⟩
theorem order_nan_l {x y : Nat} (h : isNan x) : FloatKind.f64.format.order x y = none := by
  obtain ⟨t, ht⟩ := read_nan h
  show (Ieee.double.read x).order (Ieee.double.read y) = none
  rw [ht]; rfl
theorem order_nan_r {x y : Nat} (h : isNan y) : FloatKind.f64.format.order x y = none := by
  obtain ⟨t, ht⟩ := read_nan h
  show (Ieee.double.read x).order (Ieee.double.read y) = none
  rw [ht]
  cases Ieee.double.read x <;> rfl
theorem order_sk {x y : Nat} (hx : ¬ isNan x) (hy : ¬ isNan y) : FloatKind.f64.format.order x y = some (compare (sk x) (sk y)) := by
  show (Ieee.double.read x).order (Ieee.double.read y) = _
  unfold isNan at hx hy
  unfold sk
  rcases Nat.lt_or_ge (rung x) 9218868437227405312 with h1 | h1 <;> rcases Nat.lt_or_ge (rung y) 9218868437227405312 with h2 | h2
  · obtain ⟨m, k, e1, e2⟩ := read_num h1
    obtain ⟨n, l, e3, e4⟩ := read_num h2
    rw [e1, e3, num_order, e2, e4, mag_cmp]
  · obtain ⟨m, k, e1, e2⟩ := read_num h1
    have h2 : rung y = 9218868437227405312 := by omega
    rw [e1, read_inf h2, h2]
    show some (if sgn y then Ordering.gt else Ordering.lt) = _
    congr 1
    cases sgn x <;> cases sgn y <;> simp only [sg, Bool.false_eq_true, if_false, if_true]
    · exact (Int.compare_eq_lt.2 (by omega)).symm
    · exact (Int.compare_eq_gt.2 (by omega)).symm
    · exact (Int.compare_eq_lt.2 (by omega)).symm
    · exact (Int.compare_eq_gt.2 (by omega)).symm
  · obtain ⟨n, l, e3, e4⟩ := read_num h2
    have h1 : rung x = 9218868437227405312 := by omega
    rw [e3, read_inf h1, h1]
    show some (if sgn x then Ordering.lt else Ordering.gt) = _
    congr 1
    cases sgn x <;> cases sgn y <;> simp only [sg, Bool.false_eq_true, if_false, if_true]
    · exact (Int.compare_eq_gt.2 (by omega)).symm
    · exact (Int.compare_eq_gt.2 (by omega)).symm
    · exact (Int.compare_eq_lt.2 (by omega)).symm
    · exact (Int.compare_eq_lt.2 (by omega)).symm
  · have h1 : rung x = 9218868437227405312 := by omega
    have h2 : rung y = 9218868437227405312 := by omega
    rw [read_inf h1, read_inf h2, h1, h2]
    cases sgn x <;> cases sgn y <;> rfl
theorem ord_cases (a b : Int) : compare a b = if a < b then Ordering.lt else if a = b then Ordering.eq else Ordering.gt := rfl
theorem fLss_eq (x y : Nat) : fLss x y = decide (¬ isNan x ∧ ¬ isNan y ∧ sk x < sk y) := by
  unfold fLss
  by_cases hx : isNan x
  · rw [order_nan_l hx, decide_eq_false (fun h => h.1 hx)]; rfl
  by_cases hy : isNan y
  · rw [order_nan_r hy, decide_eq_false (fun h => h.2.1 hy)]; rfl
  rw [order_sk hx hy, ord_cases]
  by_cases h : sk x < sk y
  · rw [if_pos h, decide_eq_true ⟨hx, hy, h⟩]; rfl
  · rw [if_neg h, decide_eq_false (fun h' => h h'.2.2)]
    split <;> rfl
theorem fGtr_eq (x y : Nat) : fGtr x y = decide (¬ isNan x ∧ ¬ isNan y ∧ sk y < sk x) := by
  unfold fGtr
  by_cases hx : isNan x
  · rw [order_nan_l hx, decide_eq_false (fun h => h.1 hx)]; rfl
  by_cases hy : isNan y
  · rw [order_nan_r hy, decide_eq_false (fun h => h.2.1 hy)]; rfl
  rw [order_sk hx hy, ord_cases]
  by_cases h : sk x < sk y
  · rw [if_pos h, decide_eq_false (fun h' => by omega)]; rfl
  · rw [if_neg h]
    by_cases h2 : sk x = sk y
    · rw [if_pos h2, decide_eq_false (fun h' => by omega)]; rfl
    · rw [if_neg h2, decide_eq_true ⟨hx, hy, by omega⟩]; rfl
theorem fEql_eq (x y : Nat) : fEql x y = decide (¬ isNan x ∧ ¬ isNan y ∧ sk x = sk y) := by
  unfold fEql
  by_cases hx : isNan x
  · rw [order_nan_l hx, decide_eq_false (fun h => h.1 hx)]; rfl
  by_cases hy : isNan y
  · rw [order_nan_r hy, decide_eq_false (fun h => h.2.1 hy)]; rfl
  rw [order_sk hx hy, ord_cases]
  by_cases h : sk x < sk y
  · rw [if_pos h, decide_eq_false (fun h' => by omega)]; rfl
  · rw [if_neg h]
    by_cases h2 : sk x = sk y
    · rw [if_pos h2, decide_eq_true ⟨hx, hy, h2⟩]; rfl
    · rw [if_neg h2, decide_eq_false (fun h' => h2 h'.2.2)]; rfl
theorem fNeq_eq (x y : Nat) : fNeq x y = !(fEql x y) := rfl
theorem fNeq_self (x : Nat) : fNeq x x = decide (isNan x) := by
  rw [fNeq_eq, fEql_eq]
  by_cases h : isNan x <;> simp [h]
theorem fGeq_eq (x y : Nat) : fGeq x y = decide (¬ isNan x ∧ ¬ isNan y ∧ sk y ≤ sk x) := by
  have : fGeq x y = (fGtr x y || fEql x y) := rfl
  rw [this, fGtr_eq, fEql_eq]
  by_cases hx : isNan x <;> by_cases hy : isNan y <;> simp only [hx, hy, not_true_eq_false, not_false_eq_true, false_and, true_and, decide_false, Bool.or_self, and_false]
  by_cases h1 : sk y < sk x <;> by_cases h2 : sk x = sk y <;> simp [h1, h2] <;> omega
def ord3 (a b : Int) : Int := if a < b then -1 else if b < a then 1 else 0

/-! ### Whole numbers and numbers -/
theorem cut_parts (n drop : Nat) : n / (1 <<< min drop (n.log2 + 2)) = n / 2 ^ drop ∧ (n % (1 <<< min drop (n.log2 + 2)) = 0 ↔ n % 2 ^ drop = 0) := by
  rw [Nat.shiftLeft_eq, Nat.one_mul]
  by_cases h : drop ≤ n.log2 + 2
  · rw [Nat.min_eq_left h]
    exact ⟨rfl, Iff.rfl⟩
  · have hn : n < 2 ^ (n.log2 + 1) := Nat.lt_log2_self
    have h1 : 2 ^ (n.log2 + 1) ≤ 2 ^ (n.log2 + 2) := Nat.pow_le_pow_right (by omega) (by omega)
    have h2 : 2 ^ (n.log2 + 1) ≤ 2 ^ drop := Nat.pow_le_pow_right (by omega) (by omega)
    rw [Nat.min_eq_right (by omega), Nat.div_eq_of_lt (by omega), Nat.div_eq_of_lt (by omega), Nat.mod_eq_of_lt (by omega), Nat.mod_eq_of_lt (by omega)]
    exact ⟨rfl, Iff.rfl⟩
/-- A unit, in least ones. -/
def UE : Nat := 1074
def UN : Nat := 2 ^ UE
theorem UN_pos : 0 < UN := Nat.two_pow_pos _
theorem place_div (m j : Nat) : (m <<< (-(UE : Int) + j).toNat) / 2 ^ (-(-(UE : Int) + j)).toNat = m * 2 ^ j / UN ∧ ((m <<< (-(UE : Int) + j).toNat) % 2 ^ (-(-(UE : Int) + j)).toNat = 0 ↔ m * 2 ^ j % UN = 0) := by
  unfold UN
  rw [Nat.shiftLeft_eq]
  by_cases h : UE ≤ j
  · have e1 : (-(UE : Int) + j).toNat = j - UE := by omega
    have e2 : (-(-(UE : Int) + j)).toNat = 0 := by omega
    have e3 : m * 2 ^ j = m * 2 ^ (j - UE) * 2 ^ UE := by rw [Nat.mul_assoc, ← Nat.pow_add, Nat.sub_add_cancel h]
    rw [e1, e2, e3, Nat.pow_zero, Nat.div_one, Nat.mod_one, Nat.mul_div_cancel _ (Nat.two_pow_pos _), Nat.mul_mod_left]
    exact ⟨rfl, Iff.rfl⟩
  · have e1 : (-(UE : Int) + j).toNat = 0 := by omega
    have e2 : (-(-(UE : Int) + j)).toNat = UE - j := by omega
    have e3 : (2 : Nat) ^ UE = 2 ^ (UE - j) * 2 ^ j := by rw [← Nat.pow_add, Nat.sub_add_cancel (by omega)]
    rw [e1, e2, e3, Nat.pow_zero, Nat.mul_one, Nat.mul_div_mul_right _ _ (Nat.two_pow_pos _), Nat.mul_mod_mul_right]
    refine ⟨rfl, fun h => by rw [h, Nat.zero_mul], fun h => ?_⟩
    rcases Nat.mul_eq_zero.1 h with h | h
    · exact h
    · have := Nat.two_pow_pos j; omega
theorem lp64 : LP64 = -(UE : Int) := by decide
/-- How many whole units lie at or below a number, by its size. -/
def flo (s : Bool) (V : Nat) : Nat := V / UN + (s && decide (V % UN ≠ 0)).toNat
theorem bne_dec (a : Nat) : (a != 0) = decide (a ≠ 0) := by cases a <;> rfl
theorem cut_down (s : Bool) (m j : Nat) : Ieee.Toward.down.cut s (m <<< (LP64 + j).toNat) (-(LP64 + j)).toNat = flo s (m * 2 ^ j) := by
  unfold Ieee.Toward.cut flo
  rw [lp64]
  simp only
  obtain ⟨h1, h2⟩ := cut_parts (m <<< (-(UE : Int) + j).toNat) (-(-(UE : Int) + j)).toNat
  obtain ⟨h3, h4⟩ := place_div m j
  rw [h1, h3, bne_dec]
  congr 3
  exact decide_eq_decide.2 (not_congr (h2.trans h4))
theorem cut_zero (s : Bool) (m j : Nat) : Ieee.Toward.zero.cut s (m <<< (LP64 + j).toNat) (-(LP64 + j)).toNat = m * 2 ^ j / UN := by
  unfold Ieee.Toward.cut
  rw [lp64]
  simp only
  obtain ⟨h1, h2⟩ := cut_parts (m <<< (-(UE : Int) + j).toNat) (-(-(UE : Int) + j)).toNat
  obtain ⟨h3, h4⟩ := place_div m j
  rw [h1, h3]
  rfl
theorem int_eq {x : Nat} (h : rung x < 9218868437227405312) : (Ieee.double.read x).toInt .zero = some (sg (sgn x) (mag (rung x) / UN)) := by
  obtain ⟨m, k, e1, e2⟩ := read_num h
  rw [e1]
  show some (Ieee.signed (sgn x) (Ieee.Toward.zero.cut (sgn x) (m <<< (LP64 + k).toNat) (-(LP64 + k)).toNat) 0) = _
  rw [cut_zero, signed_eq, e2, Nat.pow_zero, Nat.mul_one]
theorem floor_eq {x : Nat} (h : rung x < 9218868437227405312) : integ .down x = some (Ieee.double.nearest (sgn x) (flo (sgn x) (mag (rung x))) 0) := by
  obtain ⟨m, k, e1, e2⟩ := read_num h
  unfold integ
  have e3 : FloatKind.f64.decode x = .number (sgn x) m (LP64 + k) := e1
  rw [e3]
  show some (Ieee.double.nearest (sgn x) (Ieee.Toward.down.cut (sgn x) (m <<< (LP64 + k).toNat) (-(LP64 + k)).toNat) 0) = _
  rw [cut_down, e2]
/-- A whole number that there is room for is written as it is. -/
theorem near_word (s : Bool) (kept t : Nat) (h1 : 4503599627370496 ≤ kept) (h2 : kept < 9007199254740992) (h3 : t ≤ 1200) :
    rung (Ieee.double.word s (min (t * 4503599627370496 + kept) 9218868437227405312)) = t * 4503599627370496 + kept ∧ sgn (Ieee.double.word s (min (t * 4503599627370496 + kept) 9218868437227405312)) = s ∧ mag (t * 4503599627370496 + kept) = kept * 2 ^ t ∧ t * 4503599627370496 + kept < 9218868437227405312 ∧ Ieee.double.word s (min (t * 4503599627370496 + kept) 9218868437227405312) < 18446744073709551616 := by
  have hw : Ieee.double.signWeight = 9223372036854775808 := by decide
  unfold Ieee.Format.word rung sgn mag
  rw [hw, Nat.min_eq_left (by omega)]
  refine ⟨?_, ?_, ?_, by omega, ?_⟩
  · cases s <;> simp <;> omega
  · cases s <;> simp <;> omega
  · rw [if_neg (by omega), show (t * 4503599627370496 + kept) / 4503599627370496 - 1 = t by omega, show 4503599627370496 + (t * 4503599627370496 + kept) % 4503599627370496 = kept by omega]
  · cases s <;> simp <;> omega
theorem ue1 {a : Nat} (h : a ≤ 52) : 52 - a + (a + 1022) = UE := by unfold UE; omega
theorem ue2 (t : Nat) : t + 52 + 1022 = t + UE := by unfold UE; omega
theorem near_whole (s : Bool) (c d : Nat) (hc : c < 9007199254740992) (hk : c * 2 ^ d < 18446744073709551616) :
    rung (Ieee.double.nearest s (c * 2 ^ d) 0) < 9218868437227405312 ∧ sgn (Ieee.double.nearest s (c * 2 ^ d) 0) = s ∧ mag (rung (Ieee.double.nearest s (c * 2 ^ d) 0)) = c * 2 ^ d * UN ∧ Ieee.double.nearest s (c * 2 ^ d) 0 < 18446744073709551616 := by
  have hw : Ieee.double.signWeight = 9223372036854775808 := by decide
  have hb : Ieee.double.binade = 4503599627370496 := by decide
  have hi : Ieee.double.infRung = 9218868437227405312 := by decide
  have hl : Ieee.double.leastPlace = -1074 := by decide
  have hf : Ieee.double.fractionBits = 52 := rfl
  by_cases h0 : c * 2 ^ d = 0
  · rw [h0]
    have : Ieee.double.nearest s 0 0 = if s then 9223372036854775808 else 0 := by
      unfold Ieee.Format.nearest Ieee.Format.word
      rw [if_pos rfl, hw, Nat.add_zero]
    rw [this]
    cases s <;> simp [rung, sgn, mag]
  · generalize hkk : c * 2 ^ d = k at h0 hk
    have hlo : 2 ^ k.log2 ≤ k := Nat.log2_self_le h0
    have hhi : k < 2 ^ (k.log2 + 1) := Nat.lt_log2_self
    have hlt : k.log2 < 64 := (Nat.log2_lt h0).2 hk
    unfold Ieee.Format.nearest
    rw [if_neg h0, hb, hi, hl, hf]
    simp only
    have el : max ((0 : Int) + (k.log2 : Int) - (52 : Nat)) (-1074) = (k.log2 : Int) - 52 := by omega
    rw [el]
    have et : ((k.log2 : Int) - 52 - -1074).toNat = k.log2 + 1022 := by omega
    rw [et]
    by_cases hA : k.log2 ≤ 52
    · have e1 : ((0 : Int) - ((k.log2 : Int) - 52)).toNat = 52 - k.log2 := by omega
      have e2 : ((k.log2 : Int) - 52 - 0).toNat = 0 := by omega
      have e3 : Ieee.Toward.even.cut s (k <<< (52 - k.log2)) 0 = k * 2 ^ (52 - k.log2) := by
        unfold Ieee.Toward.cut
        simp [Nat.mod_one, Nat.shiftLeft_eq]
      rw [e1, e2, e3]
      have p52 : (2 : Nat) ^ 52 = 4503599627370496 := by decide
      have p53 : (2 : Nat) ^ 53 = 9007199254740992 := by decide
      have q1 : 2 ^ k.log2 * 2 ^ (52 - k.log2) = 4503599627370496 := by rw [← Nat.pow_add, ← p52]; congr 1; omega
      have q2 : 2 ^ (k.log2 + 1) * 2 ^ (52 - k.log2) = 9007199254740992 := by rw [← Nat.pow_add, ← p53]; congr 1; omega
      have r1 : 2 ^ k.log2 * 2 ^ (52 - k.log2) ≤ k * 2 ^ (52 - k.log2) := Nat.mul_le_mul_right _ hlo
      have r2 : k * 2 ^ (52 - k.log2) < 2 ^ (k.log2 + 1) * 2 ^ (52 - k.log2) := Nat.mul_lt_mul_of_pos_right hhi (Nat.two_pow_pos _)
      obtain ⟨n1, n2, n3, n4, n5⟩ := near_word s (k * 2 ^ (52 - k.log2)) (k.log2 + 1022) (by omega) (by omega) (by omega)
      rw [n1]
      refine ⟨n4, n2, ?_, n5⟩
      rw [n3]
      unfold UN
      rw [Nat.mul_assoc, ← Nat.pow_add, ue1 hA]
    · have e1 : ((0 : Int) - ((k.log2 : Int) - 52)).toNat = 0 := by omega
      have e2 : ((k.log2 : Int) - 52 - 0).toNat = k.log2 - 52 := by omega
      obtain ⟨t, ht⟩ : ∃ t, k.log2 = t + 52 := ⟨k.log2 - 52, by omega⟩
      have hd : t ≤ d := by
        rcases Nat.lt_or_ge d t with hlt2 | hge
        · exfalso
          have a1 : c * 2 ^ d < 9007199254740992 * 2 ^ d := Nat.mul_lt_mul_of_pos_right hc (Nat.two_pow_pos _)
          have a2 : 9007199254740992 * 2 ^ d ≤ 9007199254740992 * 2 ^ (t - 1) := Nat.mul_le_mul_left _ (Nat.pow_le_pow_right (by omega) (by omega))
          have p53 : (2 : Nat) ^ 53 = 9007199254740992 := by decide
          have a3 : 9007199254740992 * 2 ^ (t - 1) = 2 ^ k.log2 := by rw [← p53, ← Nat.pow_add]; congr 1; omega
          omega
        · exact hge
      have ek : k = c * 2 ^ (d - t) * 2 ^ t := by rw [← hkk, Nat.mul_assoc, ← Nat.pow_add, Nat.sub_add_cancel hd]
      have e3 : Ieee.Toward.even.cut s (k <<< 0) t = c * 2 ^ (d - t) := by
        unfold Ieee.Toward.cut
        rw [Nat.shiftLeft_zero]
        obtain ⟨c1, c2⟩ := cut_parts k t
        have z : k % 2 ^ t = 0 := by rw [ek]; exact Nat.mul_mod_left _ _
        simp only [c1, c2.2 z]
        rw [show k / 2 ^ t = c * 2 ^ (d - t) by rw [ek]; exact Nat.mul_div_cancel _ (Nat.two_pow_pos _)]
        have g : 0 < 1 <<< min t (k.log2 + 2) := by rw [Nat.shiftLeft_eq, Nat.one_mul]; exact Nat.two_pow_pos _
        have g1 : ((1 <<< min t (k.log2 + 2)) == 2 * 0) = false := by rw [Nat.mul_zero]; exact beq_false_of_ne (by omega)
        simp
      rw [e1, e2, ht, Nat.add_sub_cancel, e3]
      have p52 : (2 : Nat) ^ 52 = 4503599627370496 := by decide
      have p53 : (2 : Nat) ^ 53 = 9007199254740992 := by decide
      rw [ht] at hlo hhi
      have b1 : 4503599627370496 * 2 ^ t ≤ c * 2 ^ (d - t) * 2 ^ t := by rw [← ek, ← p52, ← Nat.pow_add, Nat.add_comm]; exact hlo
      have b2 : c * 2 ^ (d - t) * 2 ^ t < 9007199254740992 * 2 ^ t := by rw [← ek, ← p53, ← Nat.pow_add, show 53 + t = t + 52 + 1 by omega]; exact hhi
      have b3 := Nat.le_of_mul_le_mul_right b1 (Nat.two_pow_pos _)
      have b4 := Nat.lt_of_mul_lt_mul_right b2
      obtain ⟨n1, n2, n3, n4, n5⟩ := near_word s (c * 2 ^ (d - t)) (t + 52 + 1022) b3 b4 (by omega)
      rw [n1]
      refine ⟨n4, n2, ?_, n5⟩
      rw [n3]
      unfold UN
      rw [ek, Nat.mul_assoc (c * 2 ^ (d - t)), ← Nat.pow_add, ue2 t]
theorem div_lo {m j : Nat} (h : j < UE) : m * 2 ^ j / UN = m / 2 ^ (UE - j) ∧ (m * 2 ^ j % UN = 0 ↔ m % 2 ^ (UE - j) = 0) := by
  obtain ⟨h1, h2⟩ := place_div m j
  have e1 : (-(UE : Int) + j).toNat = 0 := by omega
  have e2 : (-(-(UE : Int) + j)).toNat = UE - j := by omega
  rw [e1, e2, Nat.shiftLeft_zero] at h1 h2
  exact ⟨h1.symm, h2.symm⟩
theorem div_hi {m j : Nat} (h : UE ≤ j) : m * 2 ^ j / UN = m * 2 ^ (j - UE) ∧ m * 2 ^ j % UN = 0 := by
  obtain ⟨h1, h2⟩ := place_div m j
  have e1 : (-(UE : Int) + j).toNat = j - UE := by omega
  have e2 : (-(-(UE : Int) + j)).toNat = 0 := by omega
  rw [e1, e2, Nat.shiftLeft_eq, Nat.pow_zero, Nat.div_one] at h1
  rw [e1, e2, Nat.shiftLeft_eq, Nat.pow_zero, Nat.mod_one] at h2
  exact ⟨h1.symm, h2.1 rfl⟩
theorem mag_bits (r : Nat) : ∃ m j, m < 9007199254740992 ∧ mag r = m * 2 ^ j ∧ ((r < 4503599627370496 ∧ m = r ∧ j = 0) ∨ (4503599627370496 ≤ r ∧ m = 4503599627370496 + r % 4503599627370496 ∧ j = r / 4503599627370496 - 1)) := by
  unfold mag
  by_cases h : r < 4503599627370496
  · exact ⟨r, 0, by omega, by rw [if_pos h, Nat.pow_zero, Nat.mul_one], .inl ⟨h, rfl, rfl⟩⟩
  · exact ⟨4503599627370496 + r % 4503599627370496, r / 4503599627370496 - 1, by omega, by rw [if_neg h], .inr ⟨by omega, rfl, rfl⟩⟩
theorem flo_bits (s : Bool) (r : Nat) : ∃ c d, c < 9007199254740992 ∧ flo s (mag r) = c * 2 ^ d := by
  obtain ⟨m, j, h1, h2, -⟩ := mag_bits r
  rw [h2]
  unfold flo
  by_cases h : UE ≤ j
  · obtain ⟨e1, e2⟩ := div_hi (m := m) h
    refine ⟨m, j - UE, h1, ?_⟩
    rw [e1, e2]
    simp
  · obtain ⟨e1, e2⟩ := div_lo (m := m) (j := j) (by omega)
    refine ⟨_, 0, ?_, (Nat.mul_one _).symm⟩
    have p : m / 2 ^ (UE - j) ≤ m / 2 ^ 1 := Nat.div_le_div_left (Nat.pow_le_pow_right (by omega) (by omega)) (by decide)
    have q : ∀ b : Bool, b.toNat ≤ 1 := fun b => by cases b <;> decide
    have := q (s && decide (m * 2 ^ j % UN ≠ 0))
    rw [e1]
    rw [Nat.pow_one] at p
    omega
theorem flo_le {s : Bool} {V B : Nat} (h : V ≤ B * UN) : flo s V ≤ B := by
  unfold flo
  have h1 := Nat.div_add_mod V UN
  have hp := UN_pos
  rw [Nat.mul_comm] at h1
  generalize V / UN = q at h1 ⊢
  generalize V % UN = r at h1 ⊢
  by_cases hr : r = 0
  · subst hr
    have : q * UN ≤ B * UN := by omega
    have := Nat.le_of_mul_le_mul_right this hp
    cases s <;> simp <;> omega
  · have : q * UN < B * UN := by omega
    have := Nat.lt_of_mul_lt_mul_right this
    cases s <;> simp [hr] <;> omega
theorem flo_gt {V B : Nat} (h : B * UN < V) : B < flo true V := by
  unfold flo
  have h1 := Nat.div_add_mod V UN
  have hp := UN_pos
  have h2 := Nat.mod_lt V hp
  rw [Nat.mul_comm] at h1
  generalize V / UN = q at h1 ⊢
  generalize V % UN = r at h1 h2 ⊢
  by_cases hr : r = 0
  · subst hr
    have : B * UN < q * UN := by omega
    have := Nat.lt_of_mul_lt_mul_right this
    simp; omega
  · have : B * UN < (q + 1) * UN := by rw [Nat.add_mul, Nat.one_mul]; omega
    have := Nat.lt_of_mul_lt_mul_right this
    simp [hr]; omega
theorem flo_cmp (s : Bool) (V : Nat) : sg s (flo s V * UN) < sg s V ↔ V % UN ≠ 0 := by
  unfold flo sg
  have h1 := Nat.div_add_mod V UN
  have hp := UN_pos
  have h2 := Nat.mod_lt V hp
  rw [Nat.mul_comm] at h1
  generalize V / UN = q at h1 ⊢
  generalize V % UN = r at h1 h2 ⊢
  cases s with
  | false =>
    simp only [Bool.false_eq_true, if_false, Bool.false_and, Bool.toNat_false, Nat.add_zero]
    omega
  | true =>
    simp only [if_true, Bool.true_and]
    by_cases hr : r = 0
    · subst hr
      simp
      omega
    · have : (decide (r ≠ 0)) = true := decide_eq_true hr
      rw [this, Bool.toNat_true, Nat.add_mul, Nat.one_mul]
      omega
def B63 : Nat := 9223372036854775808
theorem mag63 : mag 4890909195324358656 = B63 * UN := by
  obtain ⟨m, j, h1, h2, h3⟩ := mag_bits 4890909195324358656
  rcases h3 with ⟨h, -⟩ | ⟨-, hm, hj⟩
  · omega
  · rw [h2]
    have hm : m = 4503599627370496 := by omega
    have hj : j = 11 + UE := by unfold UE; omega
    rw [hm, hj, Nat.pow_add]
    unfold B63 UN
    rw [← Nat.mul_assoc]
theorem mag_le {r q : Nat} : mag r ≤ mag q ↔ r ≤ q := by
  constructor
  · intro h
    rcases Nat.lt_or_ge q r with hl | hg
    · have := mag_mono hl; omega
    · exact hg
  · intro h
    rcases Nat.lt_or_ge r q with hl | hg
    · have := mag_mono hl; omega
    · have : r = q := by omega
      subst this; exact Nat.le_refl _
theorem mag_lt {r q : Nat} : mag r < mag q ↔ r < q := by
  have := @mag_le q r
  omega
theorem sk_mag (x y : Nat) : sk x < sk y ↔ sg (sgn x) (mag (rung x)) < sg (sgn y) (mag (rung y)) := by
  have h := mag_cmp (sgn x) (sgn y) (rung x) (rung y)
  rw [ord_cases, ord_cases] at h
  unfold sk
  by_cases h1 : sg (sgn x) (mag (rung x)) < sg (sgn y) (mag (rung y))
  · rw [if_pos h1] at h
    by_cases h2 : sg (sgn x) (rung x) < sg (sgn y) (rung y)
    · exact ⟨fun _ => h1, fun _ => h2⟩
    · rw [if_neg h2] at h
      split at h <;> cases h
  · rw [if_neg h1] at h
    by_cases h2 : sg (sgn x) (rung x) < sg (sgn y) (rung y)
    · rw [if_pos h2] at h
      split at h <;> cases h
    · exact ⟨fun h => absurd h h2, fun h => absurd h h1⟩
/-- How a whole number stands to a number. -/
def ag (n : Int) (x : Nat) : Int × Bool :=
  if isNan x then (0, false) else
  if sgn x = false ∧ 4890909195324358656 ≤ rung x then (-1, true) else
  if sgn x = true ∧ 4890909195324358656 < rung x then (1, true) else
  if n < sg (sgn x) (flo (sgn x) (mag (rung x))) then (-1, true) else
  if sg (sgn x) (flo (sgn x) (mag (rung x))) < n then (1, true) else
  if mag (rung x) % UN ≠ 0 then (-1, true) else (0, true)
theorem cmpI_eq (fu : Nat) (a b : Int) : cmpCompare fu a b = some (ord3 a b, ()) := by
  unfold cmpCompare cmpIsNaN ord3
  simp only [bne_self_eq_false, Option.bind_some, cond_false]
  by_cases h1 : a < b
  · simp [h1]
  · by_cases h2 : b < a
    · simp [h1, h2]
    · simp [h1, h2]
theorem floor_val {x : Nat} (hn : ¬ isNan x) (hp : sgn x = false → rung x < 4890909195324358656) (hm : sgn x = true → rung x ≤ 4890909195324358656) :
    ∃ y, integ .down x = some y ∧ floatToIntVal .f64 y .i64 = some (sg (sgn x) (flo (sgn x) (mag (rung x)))) ∧ (fGtr x y = decide (mag (rung x) % UN ≠ 0)) := by
  have hr : rung x ≤ 4890909195324358656 := by
    cases hs : sgn x with
    | false => have := hp hs; omega
    | true => exact hm hs
  have hfin : rung x < 9218868437227405312 := by omega
  have hV : mag (rung x) ≤ B63 * UN := by rw [← mag63]; exact mag_le.2 hr
  have hk := flo_le (s := sgn x) hV
  have hk2 : sgn x = false → flo (sgn x) (mag (rung x)) < B63 := fun hs => by
    have hlt : mag (rung x) < B63 * UN := by rw [← mag63]; exact mag_lt.2 (hp hs)
    rw [hs]
    unfold flo
    rw [Bool.false_and, Bool.toNat_false, Nat.add_zero]
    exact (Nat.div_lt_iff_lt_mul UN_pos).2 hlt
  obtain ⟨c, d, hc, hcd⟩ := flo_bits (sgn x) (rung x)
  have h64 : c * 2 ^ d < 18446744073709551616 := by rw [← hcd]; unfold B63 at hk; omega
  obtain ⟨n1, n2, n3, n4⟩ := near_whole (sgn x) c d hc h64
  rw [← hcd] at n1 n2 n3 n4
  refine ⟨_, floor_eq hfin, ?_, ?_⟩
  · have hi := int_eq n1
    rw [n2, n3, Nat.mul_div_cancel _ UN_pos] at hi
    unfold floatToIntVal
    have hi' : (FloatKind.f64.decode (Ieee.double.nearest (sgn x) (flo (sgn x) (mag (rung x))) 0)).toInt .zero = some (sg (sgn x) (flo (sgn x) (mag (rung x)))) := hi
    rw [hi']
    simp only
    rw [if_pos]
    have e1 : IntKind.i64.min = -9223372036854775808 := by decide
    have e2 : IntKind.i64.max = 9223372036854775807 := by decide
    rw [e1, e2]
    unfold B63 at hk hk2
    cases hs : sgn x with
    | false =>
      have := hk2 hs
      rw [hs] at this
      simp only [sg, Bool.false_eq_true, if_false]
      omega
    | true =>
      rw [hs] at hk
      simp only [sg, if_true]
      omega
  · rw [fGtr_eq]
    have hny : ¬ isNan (Ieee.double.nearest (sgn x) (flo (sgn x) (mag (rung x))) 0) := by unfold isNan; omega
    refine decide_eq_decide.2 ?_
    rw [sk_mag, n2, n3, flo_cmp]
    exact ⟨fun h => h.2.2, fun h => ⟨hn, hny, h⟩⟩
theorem against_eq (fu : Nat) (n : Int) (x : Nat) : realAgainst fu n x = some ((ag n x).1, (ag n x).2, ()) := by
  unfold realAgainst ag
  rw [fNeq_self, fGeq_eq, fLss_eq]
  have y1 : ¬ isNan 4890909195324358656 := by decide
  have y2 : ¬ isNan 14114281232179134464 := by decide
  have y3 : sk 4890909195324358656 = 4890909195324358656 := by decide
  have y4 : sk 14114281232179134464 = -4890909195324358656 := by decide
  by_cases hn : isNan x
  · rw [decide_eq_true hn, if_pos hn]; rfl
  · rw [decide_eq_false hn, if_neg hn, cond_false, y3, y4]
    by_cases h1 : sgn x = false ∧ 4890909195324358656 ≤ rung x
    · have : (4890909195324358656 : Int) ≤ sk x := by unfold sk sg; rw [h1.1]; simp only [Bool.false_eq_true, if_false]; omega
      rw [if_pos h1, decide_eq_true ⟨hn, y1, this⟩]; rfl
    · have q1 : ¬ (¬ isNan x ∧ ¬ isNan 4890909195324358656 ∧ (4890909195324358656 : Int) ≤ sk x) := by
        rintro ⟨-, -, h⟩
        unfold sk sg at h
        cases hs : sgn x with
        | false => rw [hs] at h; simp only [Bool.false_eq_true, if_false] at h; exact h1 ⟨hs, by omega⟩
        | true => rw [hs] at h; simp only [if_true] at h; omega
      rw [if_neg h1, decide_eq_false q1]
      simp only [cond_false]
      by_cases h2 : sgn x = true ∧ 4890909195324358656 < rung x
      · have : sk x < -4890909195324358656 := by unfold sk sg; rw [h2.1]; simp only [if_true]; omega
        rw [if_pos h2, decide_eq_true ⟨hn, y2, this⟩]; rfl
      · have q2 : ¬ (¬ isNan x ∧ ¬ isNan 14114281232179134464 ∧ sk x < -4890909195324358656) := by
          rintro ⟨-, -, h⟩
          unfold sk sg at h
          cases hs : sgn x with
          | false => rw [hs] at h; simp only [Bool.false_eq_true, if_false] at h; omega
          | true => rw [hs] at h; simp only [if_true] at h; exact h2 ⟨hs, by omega⟩
        rw [if_neg h2, decide_eq_false q2]
        obtain ⟨y, f1, f2, f3⟩ := floor_val hn (fun hs => by by_cases hh : 4890909195324358656 ≤ rung x; exact absurd ⟨hs, hh⟩ h1; omega) (fun hs => by by_cases hh : 4890909195324358656 < rung x; exact absurd ⟨hs, hh⟩ h2; omega)
        have f4 : mathFloor fu x = some (y, ()) := by
          unfold mathFloor
          have : extFloor.f fu (x, ()) = some (y, ()) := by
            show (integ .down x).map (fun y => (y, ())) = _
            rw [f1]; rfl
          rw [this]; rfl
        have f5 : fIntOk .i64 y = true := by unfold fIntOk; rw [f2]; rfl
        have f6 : fInt .i64 y = sg (sgn x) (flo (sgn x) (mag (rung x))) := by unfold fInt; rw [f2]; rfl
        rw [f4]
        simp only [cond_false, Option.bind_some, f5, chk, cond_true, f6, cmpI_eq, f3]
        generalize sg (sgn x) (flo (sgn x) (mag (rung x))) = D
        unfold ord3
        by_cases a1 : n < D
        · simp only [if_pos a1]; rfl
        · by_cases a2 : D < n
          · simp only [if_neg a1, if_pos a2]; rfl
          · simp only [if_neg a1, if_neg a2]
            by_cases a3 : mag (rung x) % UN ≠ 0
            · rw [decide_eq_true a3, if_pos a3]; rfl
            · rw [decide_eq_false a3, if_neg a3]; rfl
theorem u64Of {x : Int} (h : inR .u64 x) : 0 ≤ x ∧ x < 18446744073709551616 := by
  simp [inR, IntKind.min, IntKind.max, IntKind.signed, IntKind.bits] at h
  omega
theorem i64Of {x : Int} (h : inR .i64 x) : -9223372036854775808 ≤ x ∧ x < 9223372036854775808 := by
  simp [inR, IntKind.min, IntKind.max, IntKind.signed, IntKind.bits] at h
  omega
abbrev Va : Type := Int × Int × Nat × List Int × Unit
theorem ne_bne {x y : Int} (h : ¬ x = y) : (x != y) = true := bne_iff_ne.2 h
theorem ne_beq {x y : Int} (h : ¬ x = y) : (x == y) = false := beq_false_of_ne h
def F64 (x : Nat) : Prop := x < 18446744073709551616
theorem from_bind {β : Type} (fu x : Nat) (K : (Kd.struct extFrom.rs).T → Option β) : (extFrom.f fu ((x : Int), ())).bind K = K (x, ()) := rfl
theorem extBits_eq (fu : Nat) {x : Nat} (h : F64 x) : extBits.f fu (x, ()) = some ((x : Int), ()) := by
  show (match decide (x < 18446744073709551616) with | true => some ((x : Int), ()) | false => none) = _
  have : decide (x < 18446744073709551616) = true := decide_eq_true (show x < 18446744073709551616 from h)
  rw [this]
theorem bits_bind {β : Type} (fu : Nat) {x : Nat} (h : F64 x) (K : (Kd.struct extBits.rs).T → Option β) : (extBits.f fu (x, ())).bind K = K ((x : Int), ()) := by rw [extBits_eq fu h]; rfl
def mayV (v : Va) : Bool := decide (v.1 ≤ 3) && (decide (v.2.1 = 0) || decide (v.1 = 1)) && (decide (v.2.2.1 = 0) || decide (v.1 = 2)) && (decide (v.2.2.2.1 = []) || decide (v.1 = 3)) && decide (v.2.2.2.1.length ≤ 255)
theorem valueMay_eq (fu : Nat) (v : Va) (h : F64 v.2.2.1) : valueMay fu v = some (mayV v, ()) := by
  obtain ⟨k, i, x, s, u⟩ := v
  have h0 : F64 0 := by unfold F64; omega
  have q1 : ∀ y : Nat, (((0 : Nat) : Int) == (y : Int)) = decide (y = 0) := fun y => by
    by_cases hy : y = 0
    · subst hy; rfl
    · rw [decide_eq_false hy]; exact ne_beq (by omega)
  have q2 : ∀ y : Int, ((0 : Int) == y) = decide (y = 0) := fun y => by
    by_cases hy : y = 0
    · subst hy; rfl
    · rw [decide_eq_false hy]; exact ne_beq (by omega)
  have q3 : ∀ y : List Int, (([] : List Int) == y) = decide (y = []) := fun y => by cases y <;> rfl
  have q4 : decide ((s.length : Int) ≤ 255) = decide (s.length ≤ 255) := by
    by_cases hs : s.length ≤ 255
    · rw [decide_eq_true hs, decide_eq_true (by omega)]
    · rw [decide_eq_false hs, decide_eq_false (by omega)]
  have h' : F64 x := h
  unfold valueMay valueHeld mayV
  by_cases k1 : k = 1
  · subst k1
    simp only [beq_self_eq_true, cond_true, Option.bind_some, bits_bind fu h', bits_bind fu h0, q1, q3, q4]
    cases decide (s.length ≤ 255) <;> cases decide (s = []) <;> cases decide (x = 0) <;> simp
  · by_cases k2 : k = 2
    · subst k2
      simp only [ne_beq (show ¬ (2 : Int) = 1 by decide), beq_self_eq_true, cond_true, cond_false, Option.bind_some, bits_bind fu h', q2, q3, q4]
      cases decide (s.length ≤ 255) <;> cases decide (s = []) <;> cases decide (i = 0) <;> simp
    · by_cases k3 : k = 3
      · subst k3
        simp only [ne_beq (show ¬ (3 : Int) = 1 by decide), ne_beq (show ¬ (3 : Int) = 2 by decide), beq_self_eq_true, cond_true, cond_false, Option.bind_some, bits_bind fu h', bits_bind fu h0, q1, q2, q4]
        cases decide (s.length ≤ 255) <;> cases decide (i = 0) <;> cases decide (x = 0) <;> simp
      · simp only [ne_beq k1, ne_beq k2, ne_beq k3, cond_false, Option.bind_some, bits_bind fu h', bits_bind fu h0, q1, q2, q3, q4, k1, k2, k3, decide_false, Bool.or_false]
        cases decide (k ≤ 3) <;> cases decide (s.length ≤ 255) <;> cases decide (i = 0) <;> cases decide (x = 0) <;> cases decide (s = []) <;> simp
theorem ixOkN {α : Type} {l : List α} {i : Nat} (h : i < l.length) : ixOk l (i : Int) = true := by unfold ixOk; simp; omega
abbrev Rw : Type := Int × Int × Int × List Int × Unit
def rawV (x : Rw) : Va := (x.1, x.2.1, x.2.2.1.toNat, x.2.2.2.1, ())
theorem raw_eq (fu : Nat) (x : Rw) : law04RawValue fu x = some (rawV x, ()) := rfl
theorem ixR {l : List Rw} {i : Nat} (h : i < l.length) : ixL ((0 : Int), (0 : Int), (0 : Int), ([] : List Int), ()) l i = l[i] := by
  unfold ixL
  simp [List.getElem?_eq_getElem h]

/-! ### Values in order -/
theorem sg_flo (s : Bool) (V : Nat) : sg s (flo s V) * UN ≤ sg s V ∧ sg s V < (sg s (flo s V) + 1) * UN := by
  have h1 := Nat.div_add_mod V UN
  have h2 := Nat.mod_lt V UN_pos
  rw [Nat.mul_comm] at h1
  unfold flo sg
  generalize V / UN = q at h1 ⊢
  generalize V % UN = r at h1 h2 ⊢
  have hv : (V : Int) = (q : Int) * UN + r := by rw [← h1]; simp
  cases s with
  | false =>
    simp only [Bool.false_eq_true, if_false, Bool.false_and, Bool.toNat_false, Nat.add_zero]
    rw [Int.add_mul, Int.one_mul, hv]
    omega
  | true =>
    simp only [if_true, Bool.true_and]
    by_cases hr : r = 0
    · subst hr
      have hp := UN_pos
      rw [hv]
      simp only [ne_eq, not_true_eq_false, decide_false, Bool.toNat_false, Nat.add_zero, Int.neg_mul, Int.add_mul, Int.one_mul]
      omega
    · have : (decide (r ≠ 0)) = true := decide_eq_true hr
      rw [this, hv, Bool.toNat_true]
      simp only [Int.natCast_add, Int.natCast_one, Int.neg_add, Int.add_mul, Int.neg_mul, Int.one_mul]
      omega
theorem mul_lt_UN {a b : Int} : a * UN < b * UN ↔ a < b := by
  have hp : (0 : Int) < UN := by have := UN_pos; omega
  exact ⟨fun h => Int.lt_of_mul_lt_mul_right h (Int.le_of_lt hp), fun h => Int.mul_lt_mul_of_pos_right h hp⟩
theorem ord3_of {a b c d : Int} (h1 : a < b ↔ c < d) (h2 : b < a ↔ d < c) : ord3 a b = ord3 c d := by
  unfold ord3
  by_cases x1 : a < b
  · rw [if_pos x1, if_pos (h1.1 x1)]
  · rw [if_neg x1, if_neg (fun h => x1 (h1.2 h))]
    by_cases x2 : b < a
    · rw [if_pos x2, if_pos (h2.1 x2)]
    · rw [if_neg x2, if_neg (fun h => x2 (h2.2 h))]
/-- A number's place. -/
def nv (x : Nat) : Int := sg (sgn x) (mag (rung x))
theorem ag_ord (n : Int) (hn : -9223372036854775808 ≤ n ∧ n ≤ 9223372036854775807) (x : Nat) (h : ¬ isNan x) : ag n x = (ord3 (n * UN) (nv x), true) := by
  have hB : (B63 : Int) = 9223372036854775808 := rfl
  unfold ag nv
  rw [if_neg h]
  by_cases h1 : sgn x = false ∧ 4890909195324358656 ≤ rung x
  · have hV : B63 * UN ≤ mag (rung x) := by rw [← mag63]; exact mag_le.2 h1.2
    have : n * UN < (B63 : Int) * UN := mul_lt_UN.2 (by omega)
    have hV' : (B63 : Int) * UN ≤ mag (rung x) := by exact_mod_cast hV
    rw [if_pos h1, h1.1]
    unfold ord3 sg
    rw [if_pos (by simp only [Bool.false_eq_true, if_false]; omega)]
  · rw [if_neg h1]
    by_cases h2 : sgn x = true ∧ 4890909195324358656 < rung x
    · have hV : B63 * UN < mag (rung x) := by rw [← mag63]; exact mag_lt.2 h2.2
      have : (-(B63 : Int)) * UN ≤ n * UN := Int.mul_le_mul_of_nonneg_right (by omega) (by omega)
      have hV' : (B63 : Int) * UN < mag (rung x) := by exact_mod_cast hV
      rw [Int.neg_mul] at this
      rw [if_pos h2, h2.1]
      unfold ord3 sg
      rw [if_neg (by simp only [if_true]; omega), if_pos (by simp only [if_true]; omega)]
    · rw [if_neg h2]
      obtain ⟨f1, f2⟩ := sg_flo (sgn x) (mag (rung x))
      have fe := flo_cmp (sgn x) (mag (rung x))
      have fm : sg (sgn x) (flo (sgn x) (mag (rung x)) * UN) = sg (sgn x) (flo (sgn x) (mag (rung x))) * UN := by unfold sg; cases sgn x <;> simp [Int.neg_mul]
      rw [fm] at fe
      generalize sg (sgn x) (mag (rung x)) = W at f1 f2 fe ⊢
      generalize sg (sgn x) (flo (sgn x) (mag (rung x))) = D at f1 f2 fe ⊢
      unfold ord3
      by_cases a1 : n < D
      · have := mul_lt_UN.2 a1
        rw [if_pos a1, if_pos (by omega)]
      · by_cases a2 : D < n
        · have : (D + 1) * UN ≤ n * UN := Int.mul_le_mul_of_nonneg_right (by omega) (by omega)
          rw [if_neg a1, if_pos a2, if_neg (by omega), if_pos (by omega)]
        · have hnD : n = D := by omega
          subst hnD
          rw [if_neg a1, if_neg a1]
          by_cases a3 : mag (rung x) % UN ≠ 0
          · have := fe.2 a3
            rw [if_pos a3, if_pos (by omega)]
          · have := mt fe.1 a3
            rw [if_neg a3, if_neg (by omega), if_neg (by omega)]
theorem realCompare_eq (fu : Nat) (x y : Nat) : realCompare fu x y = some (if isNan x ∨ isNan y then (0, false, ()) else (ord3 (nv x) (nv y), true, ())) := by
  unfold realCompare
  rw [fLss_eq, fGtr_eq, fEql_eq]
  by_cases h : isNan x ∨ isNan y
  · rw [if_pos h, decide_eq_false (fun q => h.elim q.1 q.2.1), decide_eq_false (fun q => h.elim q.1 q.2.1), decide_eq_false (fun q => h.elim q.1 q.2.1)]; rfl
  · have hx : ¬ isNan x := fun q => h (.inl q)
    have hy : ¬ isNan y := fun q => h (.inr q)
    rw [if_neg h]
    unfold nv ord3
    simp only [← sk_mag, hx, hy, not_false_eq_true, true_and]
    by_cases a1 : sk x < sk y
    · rw [decide_eq_true a1, if_pos a1]; rfl
    · rw [decide_eq_false a1, if_neg a1]
      by_cases a2 : sk y < sk x
      · rw [decide_eq_true a2, if_pos a2]; rfl
      · rw [decide_eq_false a2, if_neg a2, decide_eq_true (by omega)]; rfl
/-- Is it a number that stands in a row; where. -/
def numb (v : Va) : Bool := decide (v.1 = 1) || (decide (v.1 = 2) && !decide (isNan v.2.2.1))
def plc (v : Va) : Int := if v.1 = 1 then v.2.1 * UN else nv v.2.2.1
def cmpV (a b : Va) : Int × Bool :=
  if mayV a = true ∧ mayV b = true then
    if a.1 = 3 ∧ b.1 = 3 then (cmpL a.2.2.2.1 b.2.2.2.1, true) else
    if numb a = true ∧ numb b = true then (ord3 (plc a) (plc b), true) else (0, false)
  else (0, false)
theorem ord3_neg (a b : Int) : ord3 a b = -ord3 b a := by
  unfold ord3
  by_cases x1 : a < b
  · rw [if_pos x1, if_neg (by omega), if_pos x1]
  · rw [if_neg x1]
    by_cases x2 : b < a
    · rw [if_pos x2, if_pos x2]; rfl
    · rw [if_neg x2, if_neg x2, if_neg x1]; rfl
theorem ord3_in (a b : Int) : ord3 a b = -1 ∨ ord3 a b = 0 ∨ ord3 a b = 1 := by
  unfold ord3
  split
  · exact .inl rfl
  · split
    · exact .inr (.inr rfl)
    · exact .inr (.inl rfl)
def vaFit (v : Va) : Prop := (-9223372036854775808 ≤ v.2.1 ∧ v.2.1 ≤ 9223372036854775807) ∧ F64 v.2.2.1
theorem compareV_eq (fu : Nat) (a b : Va) (ha : vaFit a) (hb : vaFit b) : valueCompare fu a b = some ((cmpV a b).1, (cmpV a b).2, ()) := by
  have pair : ∀ p q : Int, (([List.getD ([a.1, b.1]) 0 (0 : Int), List.getD ([a.1, b.1]) 1 (0 : Int)] : List Int) == [p, q]) = (decide (a.1 = p) && decide (b.1 = q)) := fun p q => by
    show ((a.1 == p) && ((b.1 == q) && true)) = _
    rw [Bool.and_true]; rfl
  unfold valueCompare cmpV
  rw [valueMay_eq fu a ha.2]
  simp only [Option.bind_some]
  by_cases ma : mayV a = true
  · rw [valueMay_eq fu b hb.2]
    simp only [ma, Bool.not_true, cond_false, Option.bind_some, true_and]
    by_cases mb : mayV b = true
    · simp only [mb, Bool.not_true, cond_false, if_true, pair]
      unfold numb plc
      by_cases a3 : a.1 = 3
      · by_cases b3 : b.1 = 3
        · simp only [a3, b3, decide_true, Bool.and_true, cond_true, and_self, if_true]
          rfl
        · have : ¬ (a.1 = 3 ∧ b.1 = 3) := fun h => b3 h.2
          simp only [a3, b3, decide_true, decide_false, Bool.and_false, cond_false, show ¬ (3 : Int) = 2 by decide, show ¬ (3 : Int) = 1 by decide, Bool.false_and, and_false, false_and, if_false, Bool.or_false, Bool.false_eq_true]
      · have h33 : ¬ (a.1 = 3 ∧ b.1 = 3) := fun h => a3 h.1
        rw [if_neg h33]
        simp only [a3, decide_false, Bool.false_and, cond_false]
        by_cases a1 : a.1 = 1
        · simp only [a1, show ¬ (1 : Int) = 2 by decide, decide_true, decide_false, Bool.false_and, Bool.true_and, cond_false, Bool.true_or, true_and, if_true]
          by_cases b1 : b.1 = 1
          · simp only [b1, show ¬ (1 : Int) = 2 by decide, decide_true, decide_false, cond_false, cond_true, Bool.true_or, if_true]
            have ho : ord3 (a.2.1 * UN) (b.2.1 * UN) = ord3 a.2.1 b.2.1 := ord3_of mul_lt_UN mul_lt_UN
            rw [ho]
            unfold ord3
            by_cases x1 : a.2.1 < b.2.1
            · rw [decide_eq_true x1, if_pos x1]; rfl
            · rw [decide_eq_false x1, if_neg x1]
              by_cases x2 : b.2.1 < a.2.1
              · rw [decide_eq_true (show a.2.1 > b.2.1 from x2), if_pos x2]; rfl
              · rw [decide_eq_false (show ¬ a.2.1 > b.2.1 from x2), if_neg x2]; rfl
          · by_cases b2 : b.1 = 2
            · simp only [b2, show ¬ (2 : Int) = 1 by decide, decide_true, decide_false, cond_true, Bool.false_or, Bool.true_and, if_false]
              rw [against_eq]
              by_cases hn : isNan b.2.2.1
              · have : ag a.2.1 b.2.2.1 = (0, false) := by unfold ag; rw [if_pos hn]
                simp [this, hn]
              · rw [ag_ord _ ha.1 _ hn]
                simp [hn]
            · simp only [b1, b2, decide_false, cond_false, Bool.false_and, Bool.or_false, Bool.false_eq_true, if_false]
        · simp only [a1, decide_false, Bool.false_and, Bool.false_or, cond_false, if_false]
          by_cases a2 : a.1 = 2
          · simp only [a2, decide_true, Bool.true_and]
            by_cases b1 : b.1 = 1
            · simp only [b1, show ¬ (1 : Int) = 2 by decide, decide_true, decide_false, cond_true, cond_false, Bool.true_or, and_true, if_true]
              rw [against_eq]
              by_cases hn : isNan a.2.2.1
              · have : ag b.2.1 a.2.2.1 = (0, false) := by unfold ag; rw [if_pos hn]
                simp only [this, Option.bind_some, decide_eq_true hn, Bool.not_true, Bool.false_eq_true, if_false]
                rfl
              · rw [ag_ord _ hb.1 _ hn]
                simp only [Option.bind_some, decide_eq_false hn, Bool.not_false, if_true]
                have e : IntKind.i64.wrap (0 - ord3 (b.2.1 * UN) (nv a.2.2.1)) = ord3 (nv a.2.2.1) (b.2.1 * UN) := by
                  have := ord3_in (b.2.1 * UN) (nv a.2.2.1)
                  rw [ord3_neg (nv a.2.2.1), wrap_i64 (by omega) (by omega)]
                  omega
                rw [e]
            · by_cases b2 : b.1 = 2
              · simp only [b2, show ¬ (2 : Int) = 1 by decide, decide_true, decide_false, cond_true, Bool.false_or, Bool.true_and, if_false]
                rw [realCompare_eq]
                by_cases hn : isNan a.2.2.1
                · simp [hn]
                · by_cases hm : isNan b.2.2.1
                  · simp [hn, hm]
                  · simp [hn, hm]
              · simp only [b1, b2, decide_false, cond_false, Bool.false_and, Bool.or_false, Bool.false_eq_true, and_false, if_false]
          · simp only [a2, decide_false, Bool.false_and, cond_false, Bool.false_eq_true, false_and, if_false]
    · have mb' : mayV b = false := by simpa using mb
      simp [mb']
  · have ma' : mayV a = false := by simpa using ma
    simp [ma']
theorem cmpL_neg : ∀ a b : List Int, cmpL a b = -cmpL b a
  | [], [] => rfl
  | [], _ :: _ => rfl
  | _ :: _, [] => rfl
  | x :: r, y :: q => by
    unfold cmpL
    by_cases h1 : x < y
    · rw [if_pos h1, if_neg (by omega), if_pos h1]
    · by_cases h2 : y < x
      · rw [if_neg h1, if_pos h2, if_pos h2]; rfl
      · rw [if_neg h1, if_neg h2, if_neg h2, if_neg h1]; exact cmpL_neg r q
theorem cmpL_trans : ∀ a b c : List Int, (cmpL a b ≤ 0 → cmpL b c ≤ 0 → cmpL a c ≤ 0) ∧ (cmpL a b = 0 → cmpL b c = 0 → cmpL a c = 0) ∧ (cmpL a b < 0 → cmpL b c ≤ 0 → cmpL a c < 0)
  | [], [], c => by have := cmpL_in [] c; simp only [cmpL]; omega
  | [], _ :: _, [] => by simp [cmpL]
  | [], _ :: _, _ :: _ => by simp [cmpL]
  | _ :: _, [], c => by simp [cmpL]
  | _ :: _, _ :: _, [] => by simp [cmpL]
  | x :: a, y :: b, z :: c => by
    have ih := cmpL_trans a b c
    unfold cmpL
    by_cases h1 : x < y
    · rw [if_pos h1]
      by_cases h2 : y < z
      · rw [if_pos h2, if_pos (by omega)]; omega
      · by_cases h3 : z < y
        · rw [if_neg h2, if_pos h3]; omega
        · rw [if_pos (show x < z by omega)]; omega
    · rw [if_neg h1]
      by_cases h2 : y < x
      · rw [if_pos h2]; omega
      · rw [if_neg h2]
        have hxy : x = y := by omega
        subst hxy
        by_cases h3 : x < z
        · rw [if_pos h3]; omega
        · rw [if_neg h3]
          by_cases h4 : z < x
          · rw [if_pos h4]; omega
          · simp only [if_neg h3, if_neg h4]; exact ih
theorem ord3_trans (a b c : Int) : (ord3 a b ≤ 0 → ord3 b c ≤ 0 → ord3 a c ≤ 0) ∧ (ord3 a b = 0 → ord3 b c = 0 → ord3 a c = 0) ∧ (ord3 a b < 0 → ord3 b c ≤ 0 → ord3 a c < 0) := by
  unfold ord3
  refine ⟨?_, ?_, ?_⟩ <;> (repeat' split) <;> omega
theorem cmpV_in (a b : Va) : (cmpV a b).1 = -1 ∨ (cmpV a b).1 = 0 ∨ (cmpV a b).1 = 1 := by
  unfold cmpV
  split
  · split
    · exact cmpL_in _ _
    · split
      · exact ord3_in _ _
      · exact .inr (.inl rfl)
  · exact .inr (.inl rfl)
theorem cmpV_neg (a b : Va) : (cmpV a b).1 = -(cmpV b a).1 ∧ (cmpV a b).2 = (cmpV b a).2 := by
  unfold cmpV
  by_cases h : mayV a = true ∧ mayV b = true
  · have h' : mayV b = true ∧ mayV a = true := ⟨h.2, h.1⟩
    by_cases h3 : a.1 = 3 ∧ b.1 = 3
    · have h3' : b.1 = 3 ∧ a.1 = 3 := ⟨h3.2, h3.1⟩
      simp only [if_pos h, if_pos h', if_pos h3, if_pos h3']
      exact ⟨cmpL_neg _ _, trivial⟩
    · have h3' : ¬ (b.1 = 3 ∧ a.1 = 3) := fun q => h3 ⟨q.2, q.1⟩
      by_cases hn : numb a = true ∧ numb b = true
      · have hn' : numb b = true ∧ numb a = true := ⟨hn.2, hn.1⟩
        simp only [if_pos h, if_pos h', if_neg h3, if_neg h3', if_pos hn, if_pos hn']
        exact ⟨ord3_neg _ _, trivial⟩
      · have hn' : ¬ (numb b = true ∧ numb a = true) := fun q => hn ⟨q.2, q.1⟩
        simp only [if_pos h, if_pos h', if_neg h3, if_neg h3', if_neg hn, if_neg hn']
        exact ⟨rfl, trivial⟩
  · have h' : ¬ (mayV b = true ∧ mayV a = true) := fun q => h ⟨q.2, q.1⟩
    simp only [if_neg h, if_neg h']
    exact ⟨rfl, trivial⟩
theorem numb_not3 {v : Va} (h : numb v = true) : ¬ v.1 = 3 := by
  intro h3
  unfold numb at h
  rw [h3] at h
  exact absurd h (by simp)
theorem cmpV_trans (a b c : Va) (h1 : (cmpV a b).2 = true) (h2 : (cmpV b c).2 = true) : (cmpV a c).2 = true ∧ ((cmpV a b).1 ≤ 0 → (cmpV b c).1 ≤ 0 → (cmpV a c).1 ≤ 0) ∧ ((cmpV a b).1 = 0 → (cmpV b c).1 = 0 → (cmpV a c).1 = 0) ∧ ((cmpV a b).1 < 0 → (cmpV b c).1 ≤ 0 → (cmpV a c).1 < 0) := by
  unfold cmpV at h1 h2 ⊢
  by_cases m1 : mayV a = true ∧ mayV b = true
  · by_cases m2 : mayV b = true ∧ mayV c = true
    · rw [if_pos m1] at h1 ⊢
      rw [if_pos m2] at h2 ⊢
      rw [if_pos ⟨m1.1, m2.2⟩]
      by_cases t1 : a.1 = 3 ∧ b.1 = 3
      · rw [if_pos t1] at h1 ⊢
        by_cases t2 : b.1 = 3 ∧ c.1 = 3
        · rw [if_pos t2, if_pos ⟨t1.1, t2.2⟩]
          exact ⟨rfl, cmpL_trans _ _ _⟩
        · rw [if_neg t2] at h2
          by_cases n2 : numb b = true ∧ numb c = true
          · exact absurd t1.2 (numb_not3 n2.1)
          · rw [if_neg n2] at h2; exact absurd h2 (by decide)
      · rw [if_neg t1] at h1 ⊢
        by_cases n1 : numb a = true ∧ numb b = true
        · rw [if_pos n1] at h1 ⊢
          have t2 : ¬ (b.1 = 3 ∧ c.1 = 3) := fun q => numb_not3 n1.2 q.1
          have t3 : ¬ (a.1 = 3 ∧ c.1 = 3) := fun q => numb_not3 n1.1 q.1
          rw [if_neg t2] at h2 ⊢
          rw [if_neg t3]
          by_cases n2 : numb b = true ∧ numb c = true
          · rw [if_pos n2, if_pos ⟨n1.1, n2.2⟩]
            exact ⟨rfl, ord3_trans _ _ _⟩
          · rw [if_neg n2] at h2; exact absurd h2 (by decide)
        · rw [if_neg n1] at h1; exact absurd h1 (by decide)
    · rw [if_neg m2] at h2; exact absurd h2 (by decide)
  · rw [if_neg m1] at h1; exact absurd h1 (by decide)
theorem great3_rounds (fu : Nat) (k1 : Bool → Option (Bool × Unit)) (k2 : Unit → Option (Bool × Unit)) (l : List Rw) (hl : l.length ≤ 1000) : ∀ (k m i : Nat), i + k = l.length → k < m → law04Great.l2 fu k1 k2 m l l.length i = k1 true ∨ law04Great.l2 fu k1 k2 m l l.length i = k2 () := by
  intro k
  induction k with
  | zero =>
    intro m i h1 h2
    obtain ⟨m, rfl⟩ : ∃ j, m = j + 1 := ⟨m - 1, by omega⟩
    unfold law04Great.l2 law04Great.b2
    rw [decide_eq_false (by omega), cond_false]
    exact .inr rfl
  | succ k ih =>
    intro m i h1 h2
    obtain ⟨m, rfl⟩ : ∃ j, m = j + 1 := ⟨m - 1, by omega⟩
    have hi : i < l.length := by omega
    have e1 : IntKind.i64.wrap ((i : Int) + 1) = ((i + 1 : Nat) : Int) := wrap_i64 (by omega) (by omega)
    have := ih m (i + 1) (by omega) (by omega)
    unfold law04Great.l2 law04Great.b2
    rw [decide_eq_true (by omega), cond_true, ixOkN hi, ixR hi]
    simp only [chk, cond_true, e1]
    cases decide (((l[i].2.2.2.1.length : Nat) : Int) > 2000) with
    | true => exact .inl rfl
    | false => exact this
theorem great3 (l : List Rw) (hl : l.length ≤ 1000) : ∃ g, law04Great 3000 l = some (g, ()) := by
  unfold law04Great
  rcases great3_rounds 3000 (fun vq3 => some (vq3, ())) (fun _ => some (false, ())) l hl l.length 3000 0 (by omega) (by omega) with h | h
  · exact ⟨true, h⟩
  · exact ⟨false, h⟩
theorem raw_fit {x : Rw} (h : (Kd.struct [(.int .u8), (.int .i64), (.int .u64), .str]).ok x) : vaFit (rawV x) := by
  obtain ⟨-, k2, k3, -⟩ := h
  have k2 := i64Of k2
  have k3 : 0 ≤ x.2.2.1 ∧ x.2.2.1 < 18446744073709551616 := u64Of k3
  have k2 : -9223372036854775808 ≤ x.2.1 ∧ x.2.1 < 9223372036854775808 := k2
  exact ⟨⟨k2.1, by show x.2.1 ≤ _; omega⟩, by show x.2.2.1.toNat < _; omega⟩
theorem fixed04 : law04Fixed 3000 = some (true, ()) := by kernel_rfl
theorem lawValueOrder (x y z : Rw) (h : okAll law04ValueOrder.con.ps (x, y, z, ())) : law04ValueOrder 3000 x y z = some (true, ()) := by
  have hx := raw_fit h.1
  have hy := raw_fit h.2.1
  have hz := raw_fit h.2.2.1
  obtain ⟨g, hg⟩ := great3 [x, y, z] (by simp)
  have hf := fixed04
  unfold law04ValueOrder
  simp only [hg, hf, raw_eq, Option.bind_some, compareV_eq 3000 _ _ hx hy, compareV_eq 3000 _ _ hy hx, compareV_eq 3000 _ _ hy hz, compareV_eq 3000 _ _ hx hz, law04ValueOrder.j106010, law04ValueOrder.j11]
  have i1 := cmpV_in (rawV x) (rawV y)
  have i2 := cmpV_in (rawV y) (rawV z)
  have i3 := cmpV_in (rawV x) (rawV z)
  obtain ⟨n1, n2⟩ := cmpV_neg (rawV y) (rawV x)
  have tr := cmpV_trans (rawV x) (rawV y) (rawV z)
  rw [n1, n2]
  generalize (cmpV (rawV x) (rawV y)).1 = ab at *
  generalize (cmpV (rawV x) (rawV y)).2 = p at *
  generalize (cmpV (rawV y) (rawV z)).1 = bc at *
  generalize (cmpV (rawV y) (rawV z)).2 = r at *
  generalize (cmpV (rawV x) (rawV z)).1 = ac at *
  generalize (cmpV (rawV x) (rawV z)).2 = s at *
  cases g with
  | true => rfl
  | false =>
    cases p with
    | false => rcases i1 with rfl | rfl | rfl <;> rfl
    | true =>
      cases r with
      | false => rcases i1 with rfl | rfl | rfl <;> rfl
      | true =>
        obtain ⟨hs, t1, t2, t3⟩ := tr rfl rfl
        subst hs
        rcases i1 with rfl | rfl | rfl <;> rcases i2 with rfl | rfl | rfl <;> rcases i3 with rfl | rfl | rfl <;> first | rfl | (exfalso; omega)
end Go.Shal.Pr
