/- The plain laws of seven questions. By an AI agent. -/
import Derived.Test.YtbhigcnmdobmoaaDoorGen10t
set_option linter.unusedVariables false
namespace Go.Shal.Pr
open Go Go.Shal Go.Proofs
abbrev Sp0 : Type := Bool × Int × Int × Unit
theorem wrap_u64 {x : Int} (h0 : 0 ≤ x) (h1 : x < 18446744073709551616) : IntKind.u64.wrap x = x := by
  simp only [IntKind.wrap, IntKind.signed, IntKind.bits]
  simp
  omega
theorem wrap_i64 {x : Int} (h0 : -9223372036854775808 ≤ x) (h1 : x < 9223372036854775808) : IntKind.i64.wrap x = x := by
  simp only [IntKind.wrap, IntKind.signed, IntKind.bits]
  simp
  omega
def rung (x : Nat) : Nat := x % 9223372036854775808
def sgn (x : Nat) : Bool := x / 9223372036854775808 % 2 == 1
def isNan (x : Nat) : Prop := rung x > 9218868437227405312
instance (x : Nat) : Decidable (isNan x) := inferInstanceAs (Decidable (_ > _))
def mag (r : Nat) : Nat := if r < 4503599627370496 then r else (4503599627370496 + r % 4503599627370496) * 2 ^ (r / 4503599627370496 - 1)
def sg (s : Bool) (a : Nat) : Int := if s then -(a : Int) else (a : Int)
def sk (x : Nat) : Int := sg (sgn x) (rung x)
theorem mag_mono {r q : Nat} (h : r < q) : mag r < mag q := by
  unfold mag
  by_cases h1 : q < 4503599627370496
  · rw [if_pos (by omega), if_pos h1]; exact h
  · rw [if_neg h1]
    have hq1 : 1 ≤ q / 4503599627370496 := by omega
    by_cases h2 : r < 4503599627370496
    · rw [if_pos h2]
      have : 1 ≤ 2 ^ (q / 4503599627370496 - 1) := Nat.one_le_two_pow
      have : (4503599627370496 + q % 4503599627370496) * 1 ≤ (4503599627370496 + q % 4503599627370496) * 2 ^ (q / 4503599627370496 - 1) := Nat.mul_le_mul_left _ this
      omega
    · rw [if_neg h2]
      rcases Nat.lt_or_ge (r / 4503599627370496) (q / 4503599627370496) with hd | hd
      · have e1 : (4503599627370496 + r % 4503599627370496) * 2 ^ (r / 4503599627370496 - 1) < 9007199254740992 * 2 ^ (r / 4503599627370496 - 1) := Nat.mul_lt_mul_of_pos_right (by omega) (Nat.two_pow_pos _)
        have e2 : 9007199254740992 * 2 ^ (r / 4503599627370496 - 1) = 4503599627370496 * 2 ^ (r / 4503599627370496) := by
          obtain ⟨e, he⟩ : ∃ e, r / 4503599627370496 = e + 1 := ⟨r / 4503599627370496 - 1, by omega⟩
          rw [he, Nat.add_sub_cancel, Nat.pow_succ]; omega
        have e3 : 4503599627370496 * 2 ^ (r / 4503599627370496) ≤ 4503599627370496 * 2 ^ (q / 4503599627370496 - 1) := Nat.mul_le_mul_left _ (Nat.pow_le_pow_right (by omega) (by omega))
        have e4 : 4503599627370496 * 2 ^ (q / 4503599627370496 - 1) ≤ (4503599627370496 + q % 4503599627370496) * 2 ^ (q / 4503599627370496 - 1) := Nat.mul_le_mul_right _ (by omega)
        omega
      · have hd2 : r / 4503599627370496 = q / 4503599627370496 := by omega
        rw [hd2]
        exact Nat.mul_lt_mul_of_pos_right (by omega) (Nat.two_pow_pos _)
theorem mag_zero : mag 0 = 0 := rfl
theorem cmp_of {a b c d : Int} (h1 : a < b ↔ c < d) (h2 : a = b ↔ c = d) : compare a b = compare c d := by
  show compareOfLessAndEq a b = compareOfLessAndEq c d
  unfold compareOfLessAndEq
  by_cases x1 : a < b
  · rw [if_pos x1, if_pos (h1.1 x1)]
  · rw [if_neg x1, if_neg (fun h => x1 (h1.2 h))]
    by_cases x2 : a = b
    · rw [if_pos x2, if_pos (h2.1 x2)]
    · rw [if_neg x2, if_neg (fun h => x2 (h2.2 h))]
theorem mag_cmp (s t : Bool) (r q : Nat) : compare (sg s (mag r)) (sg t (mag q)) = compare (sg s r) (sg t q) := by
  have pos : ∀ {r : Nat}, 0 < r → 0 < mag r := fun h => by have := mag_mono h; rw [mag_zero] at this; exact this
  have z : ∀ {r : Nat}, r = 0 → mag r = 0 := fun h => by rw [h]; rfl
  have pr := pos (r := r)
  have pq := pos (r := q)
  have zr := z (r := r)
  have zq := z (r := q)
  have lt1 : r < q → mag r < mag q := mag_mono
  have lt2 : q < r → mag q < mag r := mag_mono
  have eq : r = q → mag r = mag q := fun h => by rw [h]
  cases s <;> cases t <;> simp only [sg, Bool.false_eq_true, if_false, if_true] <;> refine cmp_of ?_ ?_ <;> omega
theorem cmp_scale (k : Nat) (a b : Int) : compare (a * 2 ^ k) (b * 2 ^ k) = compare a b := by
  have hp : (0 : Int) < 2 ^ k := Int.pow_pos (by decide)
  refine cmp_of ⟨fun h => ?_, fun h => Int.mul_lt_mul_of_pos_right h hp⟩ ⟨fun h => ?_, fun h => by rw [h]⟩
  · exact Int.lt_of_mul_lt_mul_right h (Int.le_of_lt hp)
  · exact Int.eq_of_mul_eq_mul_right (by omega) h
theorem signed_eq (s : Bool) (m u : Nat) : Ieee.signed s m u = sg s (m * 2 ^ u) := by
  unfold Ieee.signed sg
  rw [Nat.shiftLeft_eq]
theorem sg_mul (s : Bool) (a k : Nat) : sg s (a * 2 ^ k) = sg s a * 2 ^ k := by
  unfold sg
  cases s <;> simp [Int.neg_mul]
theorem num_order (s t : Bool) (m n k l : Nat) (L : Int) : (Ieee.Datum.number s m (L + k)).order (.number t n (L + l)) = some (compare (sg s (m * 2 ^ k)) (sg t (n * 2 ^ l))) := by
  show some (compare (Ieee.signed s m (L + k - min (L + k) (L + l)).toNat) (Ieee.signed t n (L + l - min (L + k) (L + l)).toNat)) = _
  congr 1
  rw [signed_eq, signed_eq]
  have e1 : (L + (k : Int) - min (L + k) (L + l)).toNat = k - min k l := by omega
  have e2 : (L + (l : Int) - min (L + k) (L + l)).toNat = l - min k l := by omega
  rw [e1, e2, ← cmp_scale (min k l), ← sg_mul, ← sg_mul, Nat.mul_assoc, Nat.mul_assoc, ← Nat.pow_add, ← Nat.pow_add, Nat.sub_add_cancel (Nat.min_le_left _ _), Nat.sub_add_cancel (Nat.min_le_right _ _)]
def LP64 : Int := Ieee.double.leastPlace
theorem read_num {x : Nat} (h : rung x < 9218868437227405312) : ∃ m k : Nat, Ieee.double.read x = .number (sgn x) m (LP64 + k) ∧ m * 2 ^ k = mag (rung x) := by
  have hw : Ieee.double.signWeight = 9223372036854775808 := by decide
  have hb : Ieee.double.binade = 4503599627370496 := by decide
  have hi : Ieee.double.infRung = 9218868437227405312 := by decide
  unfold rung at h ⊢
  unfold Ieee.Format.read mag
  rw [hw, hb, hi]
  simp only
  by_cases h1 : x % 9223372036854775808 < 4503599627370496
  · rw [if_pos h1, if_pos h1]
    exact ⟨_, 0, by rw [show ((0 : Nat) : Int) = 0 from rfl, Int.add_zero]; rfl, by simp⟩
  · rw [if_neg h1, if_neg h1, if_pos h]
    exact ⟨_, _, rfl, rfl⟩
theorem read_inf {x : Nat} (h : rung x = 9218868437227405312) : Ieee.double.read x = .infinity (sgn x) := by
  have hw : Ieee.double.signWeight = 9223372036854775808 := by decide
  have hb : Ieee.double.binade = 4503599627370496 := by decide
  have hi : Ieee.double.infRung = 9218868437227405312 := by decide
  unfold rung at h
  unfold Ieee.Format.read
  rw [hw, hb, hi]
  simp only
  rw [h, if_neg (by decide), if_neg (by decide), if_pos rfl]
  rfl
theorem read_nan {x : Nat} (h : isNan x) : ∃ t, Ieee.double.read x = .nan (sgn x) t := by
  have hw : Ieee.double.signWeight = 9223372036854775808 := by decide
  have hb : Ieee.double.binade = 4503599627370496 := by decide
  have hi : Ieee.double.infRung = 9218868437227405312 := by decide
  unfold isNan rung at h
  unfold Ieee.Format.read
  rw [hw, hb, hi]
  simp only
  rw [if_neg (by omega), if_neg (by omega), if_neg (by omega)]
  exact ⟨_, rfl⟩
theorem order_nan_l {x y : Nat} (h : isNan x) : FloatKind.f64.format.order x y = none := by
  obtain ⟨t, ht⟩ := read_nan h
  show (Ieee.double.read x).order (Ieee.double.read y) = none
  rw [ht]; rfl
theorem order_nan_r {x y : Nat} (h : isNan y) : FloatKind.f64.format.order x y = none := by
  obtain ⟨t, ht⟩ := read_nan h
  show (Ieee.double.read x).order (Ieee.double.read y) = none
  rw [ht]
  cases Ieee.double.read x <;> rfl
theorem order_sk {x y : Nat} (hx : ¬ isNan x) (hy : ¬ isNan y) : FloatKind.f64.format.order x y = some (compare (sk x) (sk y)) := by
  show (Ieee.double.read x).order (Ieee.double.read y) = _
  unfold isNan at hx hy
  unfold sk
  rcases Nat.lt_or_ge (rung x) 9218868437227405312 with h1 | h1 <;> rcases Nat.lt_or_ge (rung y) 9218868437227405312 with h2 | h2
  · obtain ⟨m, k, e1, e2⟩ := read_num h1
    obtain ⟨n, l, e3, e4⟩ := read_num h2
    rw [e1, e3, num_order, e2, e4, mag_cmp]
  · obtain ⟨m, k, e1, e2⟩ := read_num h1
    have h2 : rung y = 9218868437227405312 := by omega
    rw [e1, read_inf h2, h2]
    show some (if sgn y then Ordering.gt else Ordering.lt) = _
    congr 1
    cases sgn x <;> cases sgn y <;> simp only [sg, Bool.false_eq_true, if_false, if_true]
    · exact (Int.compare_eq_lt.2 (by omega)).symm
    · exact (Int.compare_eq_gt.2 (by omega)).symm
    · exact (Int.compare_eq_lt.2 (by omega)).symm
    · exact (Int.compare_eq_gt.2 (by omega)).symm
  · obtain ⟨n, l, e3, e4⟩ := read_num h2
    have h1 : rung x = 9218868437227405312 := by omega
    rw [e3, read_inf h1, h1]
    show some (if sgn x then Ordering.lt else Ordering.gt) = _
    congr 1
    cases sgn x <;> cases sgn y <;> simp only [sg, Bool.false_eq_true, if_false, if_true]
    · exact (Int.compare_eq_gt.2 (by omega)).symm
    · exact (Int.compare_eq_gt.2 (by omega)).symm
    · exact (Int.compare_eq_lt.2 (by omega)).symm
    · exact (Int.compare_eq_lt.2 (by omega)).symm
  · have h1 : rung x = 9218868437227405312 := by omega
    have h2 : rung y = 9218868437227405312 := by omega
    rw [read_inf h1, read_inf h2, h1, h2]
    cases sgn x <;> cases sgn y <;> rfl
theorem ord_cases (a b : Int) : compare a b = if a < b then Ordering.lt else if a = b then Ordering.eq else Ordering.gt := rfl
theorem fLss_eq (x y : Nat) : fLss x y = decide (¬ isNan x ∧ ¬ isNan y ∧ sk x < sk y) := by
  unfold fLss
  by_cases hx : isNan x
  · rw [order_nan_l hx, decide_eq_false (fun h => h.1 hx)]; rfl
  by_cases hy : isNan y
  · rw [order_nan_r hy, decide_eq_false (fun h => h.2.1 hy)]; rfl
  rw [order_sk hx hy, ord_cases]
  by_cases h : sk x < sk y
  · rw [if_pos h, decide_eq_true ⟨hx, hy, h⟩]; rfl
  · rw [if_neg h, decide_eq_false (fun h' => h h'.2.2)]
    split <;> rfl
theorem fGtr_eq (x y : Nat) : fGtr x y = decide (¬ isNan x ∧ ¬ isNan y ∧ sk y < sk x) := by
  unfold fGtr
  by_cases hx : isNan x
  · rw [order_nan_l hx, decide_eq_false (fun h => h.1 hx)]; rfl
  by_cases hy : isNan y
  · rw [order_nan_r hy, decide_eq_false (fun h => h.2.1 hy)]; rfl
  rw [order_sk hx hy, ord_cases]
  by_cases h : sk x < sk y
  · rw [if_pos h, decide_eq_false (fun h' => by omega)]; rfl
  · rw [if_neg h]
    by_cases h2 : sk x = sk y
    · rw [if_pos h2, decide_eq_false (fun h' => by omega)]; rfl
    · rw [if_neg h2, decide_eq_true ⟨hx, hy, by omega⟩]; rfl
theorem fEql_eq (x y : Nat) : fEql x y = decide (¬ isNan x ∧ ¬ isNan y ∧ sk x = sk y) := by
  unfold fEql
  by_cases hx : isNan x
  · rw [order_nan_l hx, decide_eq_false (fun h => h.1 hx)]; rfl
  by_cases hy : isNan y
  · rw [order_nan_r hy, decide_eq_false (fun h => h.2.1 hy)]; rfl
  rw [order_sk hx hy, ord_cases]
  by_cases h : sk x < sk y
  · rw [if_pos h, decide_eq_false (fun h' => by omega)]; rfl
  · rw [if_neg h]
    by_cases h2 : sk x = sk y
    · rw [if_pos h2, decide_eq_true ⟨hx, hy, h2⟩]; rfl
    · rw [if_neg h2, decide_eq_false (fun h' => h2 h'.2.2)]; rfl
theorem fNeq_eq (x y : Nat) : fNeq x y = !(fEql x y) := rfl
theorem fNeq_self (x : Nat) : fNeq x x = decide (isNan x) := by
  rw [fNeq_eq, fEql_eq]
  by_cases h : isNan x <;> simp [h]
theorem fGeq_eq (x y : Nat) : fGeq x y = decide (¬ isNan x ∧ ¬ isNan y ∧ sk y ≤ sk x) := by
  have : fGeq x y = (fGtr x y || fEql x y) := rfl
  rw [this, fGtr_eq, fEql_eq]
  by_cases hx : isNan x <;> by_cases hy : isNan y <;> simp only [hx, hy, not_true_eq_false, not_false_eq_true, false_and, true_and, decide_false, Bool.or_self, and_false]
  by_cases h1 : sk y < sk x <;> by_cases h2 : sk x = sk y <;> simp [h1, h2] <;> omega
def ord3 (a b : Int) : Int := if a < b then -1 else if b < a then 1 else 0
theorem cut_parts (n drop : Nat) : n / (1 <<< min drop (n.log2 + 2)) = n / 2 ^ drop ∧ (n % (1 <<< min drop (n.log2 + 2)) = 0 ↔ n % 2 ^ drop = 0) := by
  rw [Nat.shiftLeft_eq, Nat.one_mul]
  by_cases h : drop ≤ n.log2 + 2
  · rw [Nat.min_eq_left h]
    exact ⟨rfl, Iff.rfl⟩
  · have hn : n < 2 ^ (n.log2 + 1) := Nat.lt_log2_self
    have h1 : 2 ^ (n.log2 + 1) ≤ 2 ^ (n.log2 + 2) := Nat.pow_le_pow_right (by omega) (by omega)
    have h2 : 2 ^ (n.log2 + 1) ≤ 2 ^ drop := Nat.pow_le_pow_right (by omega) (by omega)
    rw [Nat.min_eq_right (by omega), Nat.div_eq_of_lt (by omega), Nat.div_eq_of_lt (by omega), Nat.mod_eq_of_lt (by omega), Nat.mod_eq_of_lt (by omega)]
    exact ⟨rfl, Iff.rfl⟩
def UE : Nat := 1074
def UN : Nat := 2 ^ UE
theorem UN_pos : 0 < UN := Nat.two_pow_pos _
theorem place_div (m j : Nat) : (m <<< (-(UE : Int) + j).toNat) / 2 ^ (-(-(UE : Int) + j)).toNat = m * 2 ^ j / UN ∧ ((m <<< (-(UE : Int) + j).toNat) % 2 ^ (-(-(UE : Int) + j)).toNat = 0 ↔ m * 2 ^ j % UN = 0) := by
  unfold UN
  rw [Nat.shiftLeft_eq]
  by_cases h : UE ≤ j
  · have e1 : (-(UE : Int) + j).toNat = j - UE := by omega
    have e2 : (-(-(UE : Int) + j)).toNat = 0 := by omega
    have e3 : m * 2 ^ j = m * 2 ^ (j - UE) * 2 ^ UE := by rw [Nat.mul_assoc, ← Nat.pow_add, Nat.sub_add_cancel h]
    rw [e1, e2, e3, Nat.pow_zero, Nat.div_one, Nat.mod_one, Nat.mul_div_cancel _ (Nat.two_pow_pos _), Nat.mul_mod_left]
    exact ⟨rfl, Iff.rfl⟩
  · have e1 : (-(UE : Int) + j).toNat = 0 := by omega
    have e2 : (-(-(UE : Int) + j)).toNat = UE - j := by omega
    have e3 : (2 : Nat) ^ UE = 2 ^ (UE - j) * 2 ^ j := by rw [← Nat.pow_add, Nat.sub_add_cancel (by omega)]
    rw [e1, e2, e3, Nat.pow_zero, Nat.mul_one, Nat.mul_div_mul_right _ _ (Nat.two_pow_pos _), Nat.mul_mod_mul_right]
    refine ⟨rfl, fun h => by rw [h, Nat.zero_mul], fun h => ?_⟩
    rcases Nat.mul_eq_zero.1 h with h | h
    · exact h
    · have := Nat.two_pow_pos j; omega
theorem lp64 : LP64 = -(UE : Int) := by decide
def flo (s : Bool) (V : Nat) : Nat := V / UN + (s && decide (V % UN ≠ 0)).toNat
theorem bne_dec (a : Nat) : (a != 0) = decide (a ≠ 0) := by cases a <;> rfl
theorem cut_down (s : Bool) (m j : Nat) : Ieee.Toward.down.cut s (m <<< (LP64 + j).toNat) (-(LP64 + j)).toNat = flo s (m * 2 ^ j) := by
  unfold Ieee.Toward.cut flo
  rw [lp64]
  simp only
  obtain ⟨h1, h2⟩ := cut_parts (m <<< (-(UE : Int) + j).toNat) (-(-(UE : Int) + j)).toNat
  obtain ⟨h3, h4⟩ := place_div m j
  rw [h1, h3, bne_dec]
  congr 3
  exact decide_eq_decide.2 (not_congr (h2.trans h4))
theorem cut_zero (s : Bool) (m j : Nat) : Ieee.Toward.zero.cut s (m <<< (LP64 + j).toNat) (-(LP64 + j)).toNat = m * 2 ^ j / UN := by
  unfold Ieee.Toward.cut
  rw [lp64]
  simp only
  obtain ⟨h1, h2⟩ := cut_parts (m <<< (-(UE : Int) + j).toNat) (-(-(UE : Int) + j)).toNat
  obtain ⟨h3, h4⟩ := place_div m j
  rw [h1, h3]
  rfl
theorem int_eq {x : Nat} (h : rung x < 9218868437227405312) : (Ieee.double.read x).toInt .zero = some (sg (sgn x) (mag (rung x) / UN)) := by
  obtain ⟨m, k, e1, e2⟩ := read_num h
  rw [e1]
  show some (Ieee.signed (sgn x) (Ieee.Toward.zero.cut (sgn x) (m <<< (LP64 + k).toNat) (-(LP64 + k)).toNat) 0) = _
  rw [cut_zero, signed_eq, e2, Nat.pow_zero, Nat.mul_one]
theorem floor_eq {x : Nat} (h : rung x < 9218868437227405312) : integ .down x = some (Ieee.double.nearest (sgn x) (flo (sgn x) (mag (rung x))) 0) := by
  obtain ⟨m, k, e1, e2⟩ := read_num h
  unfold integ
  have e3 : FloatKind.f64.decode x = .number (sgn x) m (LP64 + k) := e1
  rw [e3]
  show some (Ieee.double.nearest (sgn x) (Ieee.Toward.down.cut (sgn x) (m <<< (LP64 + k).toNat) (-(LP64 + k)).toNat) 0) = _
  rw [cut_down, e2]
theorem near_word (s : Bool) (kept t : Nat) (h1 : 4503599627370496 ≤ kept) (h2 : kept < 9007199254740992) (h3 : t ≤ 1200) :
    rung (Ieee.double.word s (min (t * 4503599627370496 + kept) 9218868437227405312)) = t * 4503599627370496 + kept ∧ sgn (Ieee.double.word s (min (t * 4503599627370496 + kept) 9218868437227405312)) = s ∧ mag (t * 4503599627370496 + kept) = kept * 2 ^ t ∧ t * 4503599627370496 + kept < 9218868437227405312 ∧ Ieee.double.word s (min (t * 4503599627370496 + kept) 9218868437227405312) < 18446744073709551616 := by
  have hw : Ieee.double.signWeight = 9223372036854775808 := by decide
  unfold Ieee.Format.word rung sgn mag
  rw [hw, Nat.min_eq_left (by omega)]
  refine ⟨?_, ?_, ?_, by omega, ?_⟩
  · cases s <;> simp <;> omega
  · cases s <;> simp <;> omega
  · rw [if_neg (by omega), show (t * 4503599627370496 + kept) / 4503599627370496 - 1 = t by omega, show 4503599627370496 + (t * 4503599627370496 + kept) % 4503599627370496 = kept by omega]
  · cases s <;> simp <;> omega
theorem ue1 {a : Nat} (h : a ≤ 52) : 52 - a + (a + 1022) = UE := by unfold UE; omega
theorem ue2 (t : Nat) : t + 52 + 1022 = t + UE := by unfold UE; omega
theorem near_whole (s : Bool) (c d : Nat) (hc : c < 9007199254740992) (hk : c * 2 ^ d < 18446744073709551616) :
    rung (Ieee.double.nearest s (c * 2 ^ d) 0) < 9218868437227405312 ∧ sgn (Ieee.double.nearest s (c * 2 ^ d) 0) = s ∧ mag (rung (Ieee.double.nearest s (c * 2 ^ d) 0)) = c * 2 ^ d * UN ∧ Ieee.double.nearest s (c * 2 ^ d) 0 < 18446744073709551616 := by
  have hw : Ieee.double.signWeight = 9223372036854775808 := by decide
  have hb : Ieee.double.binade = 4503599627370496 := by decide
  have hi : Ieee.double.infRung = 9218868437227405312 := by decide
  have hl : Ieee.double.leastPlace = -1074 := by decide
  have hf : Ieee.double.fractionBits = 52 := rfl
  by_cases h0 : c * 2 ^ d = 0
  · rw [h0]
    have : Ieee.double.nearest s 0 0 = if s then 9223372036854775808 else 0 := by
      unfold Ieee.Format.nearest Ieee.Format.word
      rw [if_pos rfl, hw, Nat.add_zero]
    rw [this]
    cases s <;> simp [rung, sgn, mag]
  · generalize hkk : c * 2 ^ d = k at h0 hk
    have hlo : 2 ^ k.log2 ≤ k := Nat.log2_self_le h0
    have hhi : k < 2 ^ (k.log2 + 1) := Nat.lt_log2_self
    have hlt : k.log2 < 64 := (Nat.log2_lt h0).2 hk
    unfold Ieee.Format.nearest
    rw [if_neg h0, hb, hi, hl, hf]
    simp only
    have el : max ((0 : Int) + (k.log2 : Int) - (52 : Nat)) (-1074) = (k.log2 : Int) - 52 := by omega
    rw [el]
    have et : ((k.log2 : Int) - 52 - -1074).toNat = k.log2 + 1022 := by omega
    rw [et]
    by_cases hA : k.log2 ≤ 52
    · have e1 : ((0 : Int) - ((k.log2 : Int) - 52)).toNat = 52 - k.log2 := by omega
      have e2 : ((k.log2 : Int) - 52 - 0).toNat = 0 := by omega
      have e3 : Ieee.Toward.even.cut s (k <<< (52 - k.log2)) 0 = k * 2 ^ (52 - k.log2) := by
        unfold Ieee.Toward.cut
        simp [Nat.mod_one, Nat.shiftLeft_eq]
      rw [e1, e2, e3]
      have p52 : (2 : Nat) ^ 52 = 4503599627370496 := by decide
      have p53 : (2 : Nat) ^ 53 = 9007199254740992 := by decide
      have q1 : 2 ^ k.log2 * 2 ^ (52 - k.log2) = 4503599627370496 := by rw [← Nat.pow_add, ← p52]; congr 1; omega
      have q2 : 2 ^ (k.log2 + 1) * 2 ^ (52 - k.log2) = 9007199254740992 := by rw [← Nat.pow_add, ← p53]; congr 1; omega
      have r1 : 2 ^ k.log2 * 2 ^ (52 - k.log2) ≤ k * 2 ^ (52 - k.log2) := Nat.mul_le_mul_right _ hlo
      have r2 : k * 2 ^ (52 - k.log2) < 2 ^ (k.log2 + 1) * 2 ^ (52 - k.log2) := Nat.mul_lt_mul_of_pos_right hhi (Nat.two_pow_pos _)
      obtain ⟨n1, n2, n3, n4, n5⟩ := near_word s (k * 2 ^ (52 - k.log2)) (k.log2 + 1022) (by omega) (by omega) (by omega)
      rw [n1]
      refine ⟨n4, n2, ?_, n5⟩
      rw [n3]
      unfold UN
      rw [Nat.mul_assoc, ← Nat.pow_add, ue1 hA]
    · have e1 : ((0 : Int) - ((k.log2 : Int) - 52)).toNat = 0 := by omega
      have e2 : ((k.log2 : Int) - 52 - 0).toNat = k.log2 - 52 := by omega
      obtain ⟨t, ht⟩ : ∃ t, k.log2 = t + 52 := ⟨k.log2 - 52, by omega⟩
      have hd : t ≤ d := by
        rcases Nat.lt_or_ge d t with hlt2 | hge
        · exfalso
          have a1 : c * 2 ^ d < 9007199254740992 * 2 ^ d := Nat.mul_lt_mul_of_pos_right hc (Nat.two_pow_pos _)
          have a2 : 9007199254740992 * 2 ^ d ≤ 9007199254740992 * 2 ^ (t - 1) := Nat.mul_le_mul_left _ (Nat.pow_le_pow_right (by omega) (by omega))
          have p53 : (2 : Nat) ^ 53 = 9007199254740992 := by decide
          have a3 : 9007199254740992 * 2 ^ (t - 1) = 2 ^ k.log2 := by rw [← p53, ← Nat.pow_add]; congr 1; omega
          omega
        · exact hge
      have ek : k = c * 2 ^ (d - t) * 2 ^ t := by rw [← hkk, Nat.mul_assoc, ← Nat.pow_add, Nat.sub_add_cancel hd]
      have e3 : Ieee.Toward.even.cut s (k <<< 0) t = c * 2 ^ (d - t) := by
        unfold Ieee.Toward.cut
        rw [Nat.shiftLeft_zero]
        obtain ⟨c1, c2⟩ := cut_parts k t
        have z : k % 2 ^ t = 0 := by rw [ek]; exact Nat.mul_mod_left _ _
        simp only [c1, c2.2 z]
        rw [show k / 2 ^ t = c * 2 ^ (d - t) by rw [ek]; exact Nat.mul_div_cancel _ (Nat.two_pow_pos _)]
        have g : 0 < 1 <<< min t (k.log2 + 2) := by rw [Nat.shiftLeft_eq, Nat.one_mul]; exact Nat.two_pow_pos _
        have g1 : ((1 <<< min t (k.log2 + 2)) == 2 * 0) = false := by rw [Nat.mul_zero]; exact beq_false_of_ne (by omega)
        simp
      rw [e1, e2, ht, Nat.add_sub_cancel, e3]
      have p52 : (2 : Nat) ^ 52 = 4503599627370496 := by decide
      have p53 : (2 : Nat) ^ 53 = 9007199254740992 := by decide
      rw [ht] at hlo hhi
      have b1 : 4503599627370496 * 2 ^ t ≤ c * 2 ^ (d - t) * 2 ^ t := by rw [← ek, ← p52, ← Nat.pow_add, Nat.add_comm]; exact hlo
      have b2 : c * 2 ^ (d - t) * 2 ^ t < 9007199254740992 * 2 ^ t := by rw [← ek, ← p53, ← Nat.pow_add, show 53 + t = t + 52 + 1 by omega]; exact hhi
      have b3 := Nat.le_of_mul_le_mul_right b1 (Nat.two_pow_pos _)
      have b4 := Nat.lt_of_mul_lt_mul_right b2
      obtain ⟨n1, n2, n3, n4, n5⟩ := near_word s (c * 2 ^ (d - t)) (t + 52 + 1022) b3 b4 (by omega)
      rw [n1]
      refine ⟨n4, n2, ?_, n5⟩
      rw [n3]
      unfold UN
      rw [ek, Nat.mul_assoc (c * 2 ^ (d - t)), ← Nat.pow_add, ue2 t]
theorem div_lo {m j : Nat} (h : j < UE) : m * 2 ^ j / UN = m / 2 ^ (UE - j) ∧ (m * 2 ^ j % UN = 0 ↔ m % 2 ^ (UE - j) = 0) := by
  obtain ⟨h1, h2⟩ := place_div m j
  have e1 : (-(UE : Int) + j).toNat = 0 := by omega
  have e2 : (-(-(UE : Int) + j)).toNat = UE - j := by omega
  rw [e1, e2, Nat.shiftLeft_zero] at h1 h2
  exact ⟨h1.symm, h2.symm⟩
theorem div_hi {m j : Nat} (h : UE ≤ j) : m * 2 ^ j / UN = m * 2 ^ (j - UE) ∧ m * 2 ^ j % UN = 0 := by
  obtain ⟨h1, h2⟩ := place_div m j
  have e1 : (-(UE : Int) + j).toNat = j - UE := by omega
  have e2 : (-(-(UE : Int) + j)).toNat = 0 := by omega
  rw [e1, e2, Nat.shiftLeft_eq, Nat.pow_zero, Nat.div_one] at h1
  rw [e1, e2, Nat.shiftLeft_eq, Nat.pow_zero, Nat.mod_one] at h2
  exact ⟨h1.symm, h2.1 rfl⟩
theorem mag_bits (r : Nat) : ∃ m j, m < 9007199254740992 ∧ mag r = m * 2 ^ j ∧ ((r < 4503599627370496 ∧ m = r ∧ j = 0) ∨ (4503599627370496 ≤ r ∧ m = 4503599627370496 + r % 4503599627370496 ∧ j = r / 4503599627370496 - 1)) := by
  unfold mag
  by_cases h : r < 4503599627370496
  · exact ⟨r, 0, by omega, by rw [if_pos h, Nat.pow_zero, Nat.mul_one], .inl ⟨h, rfl, rfl⟩⟩
  · exact ⟨4503599627370496 + r % 4503599627370496, r / 4503599627370496 - 1, by omega, by rw [if_neg h], .inr ⟨by omega, rfl, rfl⟩⟩
theorem flo_bits (s : Bool) (r : Nat) : ∃ c d, c < 9007199254740992 ∧ flo s (mag r) = c * 2 ^ d := by
  obtain ⟨m, j, h1, h2, -⟩ := mag_bits r
  rw [h2]
  unfold flo
  by_cases h : UE ≤ j
  · obtain ⟨e1, e2⟩ := div_hi (m := m) h
    refine ⟨m, j - UE, h1, ?_⟩
    rw [e1, e2]
    simp
  · obtain ⟨e1, e2⟩ := div_lo (m := m) (j := j) (by omega)
    refine ⟨_, 0, ?_, (Nat.mul_one _).symm⟩
    have p : m / 2 ^ (UE - j) ≤ m / 2 ^ 1 := Nat.div_le_div_left (Nat.pow_le_pow_right (by omega) (by omega)) (by decide)
    have q : ∀ b : Bool, b.toNat ≤ 1 := fun b => by cases b <;> decide
    have := q (s && decide (m * 2 ^ j % UN ≠ 0))
    rw [e1]
    rw [Nat.pow_one] at p
    omega
theorem flo_le {s : Bool} {V B : Nat} (h : V ≤ B * UN) : flo s V ≤ B := by
  unfold flo
  have h1 := Nat.div_add_mod V UN
  have hp := UN_pos
  rw [Nat.mul_comm] at h1
  generalize V / UN = q at h1 ⊢
  generalize V % UN = r at h1 ⊢
  by_cases hr : r = 0
  · subst hr
    have : q * UN ≤ B * UN := by omega
    have := Nat.le_of_mul_le_mul_right this hp
    cases s <;> simp <;> omega
  · have : q * UN < B * UN := by omega
    have := Nat.lt_of_mul_lt_mul_right this
    cases s <;> simp [hr] <;> omega
theorem flo_gt {V B : Nat} (h : B * UN < V) : B < flo true V := by
  unfold flo
  have h1 := Nat.div_add_mod V UN
  have hp := UN_pos
  have h2 := Nat.mod_lt V hp
  rw [Nat.mul_comm] at h1
  generalize V / UN = q at h1 ⊢
  generalize V % UN = r at h1 h2 ⊢
  by_cases hr : r = 0
  · subst hr
    have : B * UN < q * UN := by omega
    have := Nat.lt_of_mul_lt_mul_right this
    simp; omega
  · have : B * UN < (q + 1) * UN := by rw [Nat.add_mul, Nat.one_mul]; omega
    have := Nat.lt_of_mul_lt_mul_right this
    simp [hr]; omega
theorem flo_cmp (s : Bool) (V : Nat) : sg s (flo s V * UN) < sg s V ↔ V % UN ≠ 0 := by
  unfold flo sg
  have h1 := Nat.div_add_mod V UN
  have hp := UN_pos
  have h2 := Nat.mod_lt V hp
  rw [Nat.mul_comm] at h1
  generalize V / UN = q at h1 ⊢
  generalize V % UN = r at h1 h2 ⊢
  cases s with
  | false =>
    simp only [Bool.false_eq_true, if_false, Bool.false_and, Bool.toNat_false, Nat.add_zero]
    omega
  | true =>
    simp only [if_true, Bool.true_and]
    by_cases hr : r = 0
    · subst hr
      simp
      omega
    · have : (decide (r ≠ 0)) = true := decide_eq_true hr
      rw [this, Bool.toNat_true, Nat.add_mul, Nat.one_mul]
      omega
def B63 : Nat := 9223372036854775808
theorem mag63 : mag 4890909195324358656 = B63 * UN := by
  obtain ⟨m, j, h1, h2, h3⟩ := mag_bits 4890909195324358656
  rcases h3 with ⟨h, -⟩ | ⟨-, hm, hj⟩
  · omega
  · rw [h2]
    have hm : m = 4503599627370496 := by omega
    have hj : j = 11 + UE := by unfold UE; omega
    rw [hm, hj, Nat.pow_add]
    unfold B63 UN
    rw [← Nat.mul_assoc]
theorem mag_le {r q : Nat} : mag r ≤ mag q ↔ r ≤ q := by
  constructor
  · intro h
    rcases Nat.lt_or_ge q r with hl | hg
    · have := mag_mono hl; omega
    · exact hg
  · intro h
    rcases Nat.lt_or_ge r q with hl | hg
    · have := mag_mono hl; omega
    · have : r = q := by omega
      subst this; exact Nat.le_refl _
theorem mag_lt {r q : Nat} : mag r < mag q ↔ r < q := by
  have := @mag_le q r
  omega
theorem sk_mag (x y : Nat) : sk x < sk y ↔ sg (sgn x) (mag (rung x)) < sg (sgn y) (mag (rung y)) := by
  have h := mag_cmp (sgn x) (sgn y) (rung x) (rung y)
  rw [ord_cases, ord_cases] at h
  unfold sk
  by_cases h1 : sg (sgn x) (mag (rung x)) < sg (sgn y) (mag (rung y))
  · rw [if_pos h1] at h
    by_cases h2 : sg (sgn x) (rung x) < sg (sgn y) (rung y)
    · exact ⟨fun _ => h1, fun _ => h2⟩
    · rw [if_neg h2] at h
      split at h <;> cases h
  · rw [if_neg h1] at h
    by_cases h2 : sg (sgn x) (rung x) < sg (sgn y) (rung y)
    · rw [if_pos h2] at h
      split at h <;> cases h
    · exact ⟨fun h => absurd h h2, fun h => absurd h h1⟩
def ag (n : Int) (x : Nat) : Int × Bool :=
  if isNan x then (0, false) else
  if sgn x = false ∧ 4890909195324358656 ≤ rung x then (-1, true) else
  if sgn x = true ∧ 4890909195324358656 < rung x then (1, true) else
  if n < sg (sgn x) (flo (sgn x) (mag (rung x))) then (-1, true) else
  if sg (sgn x) (flo (sgn x) (mag (rung x))) < n then (1, true) else
  if mag (rung x) % UN ≠ 0 then (-1, true) else (0, true)
theorem cmpI_eq (fu : Nat) (a b : Int) : cmpCompare fu a b = some (ord3 a b, ()) := by
  unfold cmpCompare cmpIsNaN ord3
  simp only [bne_self_eq_false, Option.bind_some, cond_false]
  by_cases h1 : a < b
  · simp [h1]
  · by_cases h2 : b < a
    · simp [h1, h2]
    · simp [h1, h2]
theorem floor_val {x : Nat} (hn : ¬ isNan x) (hp : sgn x = false → rung x < 4890909195324358656) (hm : sgn x = true → rung x ≤ 4890909195324358656) :
    ∃ y, integ .down x = some y ∧ floatToIntVal .f64 y .i64 = some (sg (sgn x) (flo (sgn x) (mag (rung x)))) ∧ (fGtr x y = decide (mag (rung x) % UN ≠ 0)) := by
  have hr : rung x ≤ 4890909195324358656 := by
    cases hs : sgn x with
    | false => have := hp hs; omega
    | true => exact hm hs
  have hfin : rung x < 9218868437227405312 := by omega
  have hV : mag (rung x) ≤ B63 * UN := by rw [← mag63]; exact mag_le.2 hr
  have hk := flo_le (s := sgn x) hV
  have hk2 : sgn x = false → flo (sgn x) (mag (rung x)) < B63 := fun hs => by
    have hlt : mag (rung x) < B63 * UN := by rw [← mag63]; exact mag_lt.2 (hp hs)
    rw [hs]
    unfold flo
    rw [Bool.false_and, Bool.toNat_false, Nat.add_zero]
    exact (Nat.div_lt_iff_lt_mul UN_pos).2 hlt
  obtain ⟨c, d, hc, hcd⟩ := flo_bits (sgn x) (rung x)
  have h64 : c * 2 ^ d < 18446744073709551616 := by rw [← hcd]; unfold B63 at hk; omega
  obtain ⟨n1, n2, n3, n4⟩ := near_whole (sgn x) c d hc h64
  rw [← hcd] at n1 n2 n3 n4
  refine ⟨_, floor_eq hfin, ?_, ?_⟩
  · have hi := int_eq n1
    rw [n2, n3, Nat.mul_div_cancel _ UN_pos] at hi
    unfold floatToIntVal
    have hi' : (FloatKind.f64.decode (Ieee.double.nearest (sgn x) (flo (sgn x) (mag (rung x))) 0)).toInt .zero = some (sg (sgn x) (flo (sgn x) (mag (rung x)))) := hi
    rw [hi']
    simp only
    rw [if_pos]
    have e1 : IntKind.i64.min = -9223372036854775808 := by decide
    have e2 : IntKind.i64.max = 9223372036854775807 := by decide
    rw [e1, e2]
    unfold B63 at hk hk2
    cases hs : sgn x with
    | false =>
      have := hk2 hs
      rw [hs] at this
      simp only [sg, Bool.false_eq_true, if_false]
      omega
    | true =>
      rw [hs] at hk
      simp only [sg, if_true]
      omega
  · rw [fGtr_eq]
    have hny : ¬ isNan (Ieee.double.nearest (sgn x) (flo (sgn x) (mag (rung x))) 0) := by unfold isNan; omega
    refine decide_eq_decide.2 ?_
    rw [sk_mag, n2, n3, flo_cmp]
    exact ⟨fun h => h.2.2, fun h => ⟨hn, hny, h⟩⟩
theorem against_eq (fu : Nat) (n : Int) (x : Nat) : realAgainst fu n x = some ((ag n x).1, (ag n x).2, ()) := by
  unfold realAgainst ag
  rw [fNeq_self, fGeq_eq, fLss_eq]
  have y1 : ¬ isNan 4890909195324358656 := by decide
  have y2 : ¬ isNan 14114281232179134464 := by decide
  have y3 : sk 4890909195324358656 = 4890909195324358656 := by decide
  have y4 : sk 14114281232179134464 = -4890909195324358656 := by decide
  by_cases hn : isNan x
  · rw [decide_eq_true hn, if_pos hn]; rfl
  · rw [decide_eq_false hn, if_neg hn, cond_false, y3, y4]
    by_cases h1 : sgn x = false ∧ 4890909195324358656 ≤ rung x
    · have : (4890909195324358656 : Int) ≤ sk x := by unfold sk sg; rw [h1.1]; simp only [Bool.false_eq_true, if_false]; omega
      rw [if_pos h1, decide_eq_true ⟨hn, y1, this⟩]; rfl
    · have q1 : ¬ (¬ isNan x ∧ ¬ isNan 4890909195324358656 ∧ (4890909195324358656 : Int) ≤ sk x) := by
        rintro ⟨-, -, h⟩
        unfold sk sg at h
        cases hs : sgn x with
        | false => rw [hs] at h; simp only [Bool.false_eq_true, if_false] at h; exact h1 ⟨hs, by omega⟩
        | true => rw [hs] at h; simp only [if_true] at h; omega
      rw [if_neg h1, decide_eq_false q1]
      simp only [cond_false]
      by_cases h2 : sgn x = true ∧ 4890909195324358656 < rung x
      · have : sk x < -4890909195324358656 := by unfold sk sg; rw [h2.1]; simp only [if_true]; omega
        rw [if_pos h2, decide_eq_true ⟨hn, y2, this⟩]; rfl
      · have q2 : ¬ (¬ isNan x ∧ ¬ isNan 14114281232179134464 ∧ sk x < -4890909195324358656) := by
          rintro ⟨-, -, h⟩
          unfold sk sg at h
          cases hs : sgn x with
          | false => rw [hs] at h; simp only [Bool.false_eq_true, if_false] at h; omega
          | true => rw [hs] at h; simp only [if_true] at h; exact h2 ⟨hs, by omega⟩
        rw [if_neg h2, decide_eq_false q2]
        obtain ⟨y, f1, f2, f3⟩ := floor_val hn (fun hs => by by_cases hh : 4890909195324358656 ≤ rung x; exact absurd ⟨hs, hh⟩ h1; omega) (fun hs => by by_cases hh : 4890909195324358656 < rung x; exact absurd ⟨hs, hh⟩ h2; omega)
        have f4 : mathFloor fu x = some (y, ()) := by
          unfold mathFloor
          have : extFloor.f fu (x, ()) = some (y, ()) := by
            show (integ .down x).map (fun y => (y, ())) = _
            rw [f1]; rfl
          rw [this]; rfl
        have f5 : fIntOk .i64 y = true := by unfold fIntOk; rw [f2]; rfl
        have f6 : fInt .i64 y = sg (sgn x) (flo (sgn x) (mag (rung x))) := by unfold fInt; rw [f2]; rfl
        rw [f4]
        simp only [cond_false, Option.bind_some, f5, chk, cond_true, f6, cmpI_eq, f3]
        generalize sg (sgn x) (flo (sgn x) (mag (rung x))) = D
        unfold ord3
        by_cases a1 : n < D
        · simp only [if_pos a1]; rfl
        · by_cases a2 : D < n
          · simp only [if_neg a1, if_pos a2]; rfl
          · simp only [if_neg a1, if_neg a2]
            by_cases a3 : mag (rung x) % UN ≠ 0
            · rw [decide_eq_true a3, if_pos a3]; rfl
            · rw [decide_eq_false a3, if_neg a3]; rfl
theorem u64Of {x : Int} (h : inR .u64 x) : 0 ≤ x ∧ x < 18446744073709551616 := by
  simp [inR, IntKind.min, IntKind.max, IntKind.signed, IntKind.bits] at h
  omega
theorem i64Of {x : Int} (h : inR .i64 x) : -9223372036854775808 ≤ x ∧ x < 9223372036854775808 := by
  simp [inR, IntKind.min, IntKind.max, IntKind.signed, IntKind.bits] at h
  omega
abbrev Va : Type := Int × Int × Nat × List Int × Unit
theorem ne_beq {x y : Int} (h : ¬ x = y) : (x == y) = false := beq_false_of_ne h
def F64 (x : Nat) : Prop := x < 18446744073709551616
theorem extBits_eq (fu : Nat) {x : Nat} (h : F64 x) : extBits.f fu (x, ()) = some ((x : Int), ()) := by
  show (match decide (x < 18446744073709551616) with | true => some ((x : Int), ()) | false => none) = _
  have : decide (x < 18446744073709551616) = true := decide_eq_true (show x < 18446744073709551616 from h)
  rw [this]
theorem bits_bind {β : Type} (fu : Nat) {x : Nat} (h : F64 x) (K : (Kd.struct extBits.rs).T → Option β) : (extBits.f fu (x, ())).bind K = K ((x : Int), ()) := by rw [extBits_eq fu h]; rfl
def mayV (v : Va) : Bool := decide (v.1 ≤ 3) && (decide (v.2.1 = 0) || decide (v.1 = 1)) && (decide (v.2.2.1 = 0) || decide (v.1 = 2)) && (decide (v.2.2.2.1 = []) || decide (v.1 = 3)) && decide (v.2.2.2.1.length ≤ 255)
theorem valueMay_eq (fu : Nat) (v : Va) (h : F64 v.2.2.1) : valueMay fu v = some (mayV v, ()) := by
  obtain ⟨k, i, x, s, u⟩ := v
  have h0 : F64 0 := by unfold F64; omega
  have q1 : ∀ y : Nat, (((0 : Nat) : Int) == (y : Int)) = decide (y = 0) := fun y => by
    by_cases hy : y = 0
    · subst hy; rfl
    · rw [decide_eq_false hy]; exact ne_beq (by omega)
  have q2 : ∀ y : Int, ((0 : Int) == y) = decide (y = 0) := fun y => by
    by_cases hy : y = 0
    · subst hy; rfl
    · rw [decide_eq_false hy]; exact ne_beq (by omega)
  have q3 : ∀ y : List Int, (([] : List Int) == y) = decide (y = []) := fun y => by cases y <;> rfl
  have q4 : decide ((s.length : Int) ≤ 255) = decide (s.length ≤ 255) := by
    by_cases hs : s.length ≤ 255
    · rw [decide_eq_true hs, decide_eq_true (by omega)]
    · rw [decide_eq_false hs, decide_eq_false (by omega)]
  have h' : F64 x := h
  unfold valueMay valueHeld mayV
  by_cases k1 : k = 1
  · subst k1
    simp only [beq_self_eq_true, cond_true, Option.bind_some, bits_bind fu h', bits_bind fu h0, q1, q3, q4]
    cases decide (s.length ≤ 255) <;> cases decide (s = []) <;> cases decide (x = 0) <;> simp
  · by_cases k2 : k = 2
    · subst k2
      simp only [ne_beq (show ¬ (2 : Int) = 1 by decide), beq_self_eq_true, cond_true, cond_false, Option.bind_some, bits_bind fu h', q2, q3, q4]
      cases decide (s.length ≤ 255) <;> cases decide (s = []) <;> cases decide (i = 0) <;> simp
    · by_cases k3 : k = 3
      · subst k3
        simp only [ne_beq (show ¬ (3 : Int) = 1 by decide), ne_beq (show ¬ (3 : Int) = 2 by decide), beq_self_eq_true, cond_true, cond_false, Option.bind_some, bits_bind fu h', bits_bind fu h0, q1, q2, q4]
        cases decide (s.length ≤ 255) <;> cases decide (i = 0) <;> cases decide (x = 0) <;> simp
      · simp only [ne_beq k1, ne_beq k2, ne_beq k3, cond_false, Option.bind_some, bits_bind fu h', bits_bind fu h0, q1, q2, q3, q4, k1, k2, k3, decide_false, Bool.or_false]
        cases decide (k ≤ 3) <;> cases decide (s.length ≤ 255) <;> cases decide (i = 0) <;> cases decide (x = 0) <;> cases decide (s = []) <;> simp
theorem ixOkN {α : Type} {l : List α} {i : Nat} (h : i < l.length) : ixOk l (i : Int) = true := by unfold ixOk; simp; omega
abbrev Rw : Type := Int × Int × Int × List Int × Unit
def rawV (x : Rw) : Va := (x.1, x.2.1, x.2.2.1.toNat, x.2.2.2.1, ())
theorem raw_eq (fu : Nat) (x : Rw) : law04RawValue fu x = some (rawV x, ()) := rfl
theorem sg_flo (s : Bool) (V : Nat) : sg s (flo s V) * UN ≤ sg s V ∧ sg s V < (sg s (flo s V) + 1) * UN := by
  have h1 := Nat.div_add_mod V UN
  have h2 := Nat.mod_lt V UN_pos
  rw [Nat.mul_comm] at h1
  unfold flo sg
  generalize V / UN = q at h1 ⊢
  generalize V % UN = r at h1 h2 ⊢
  have hv : (V : Int) = (q : Int) * UN + r := by rw [← h1]; simp
  cases s with
  | false =>
    simp only [Bool.false_eq_true, if_false, Bool.false_and, Bool.toNat_false, Nat.add_zero]
    rw [Int.add_mul, Int.one_mul, hv]
    omega
  | true =>
    simp only [if_true, Bool.true_and]
    by_cases hr : r = 0
    · subst hr
      have hp := UN_pos
      rw [hv]
      simp only [ne_eq, not_true_eq_false, decide_false, Bool.toNat_false, Nat.add_zero, Int.neg_mul, Int.add_mul, Int.one_mul]
      omega
    · have : (decide (r ≠ 0)) = true := decide_eq_true hr
      rw [this, hv, Bool.toNat_true]
      simp only [Int.natCast_add, Int.natCast_one, Int.neg_add, Int.add_mul, Int.neg_mul, Int.one_mul]
      omega
theorem mul_lt_UN {a b : Int} : a * UN < b * UN ↔ a < b := by
  have hp : (0 : Int) < UN := by have := UN_pos; omega
  exact ⟨fun h => Int.lt_of_mul_lt_mul_right h (Int.le_of_lt hp), fun h => Int.mul_lt_mul_of_pos_right h hp⟩
theorem ord3_of {a b c d : Int} (h1 : a < b ↔ c < d) (h2 : b < a ↔ d < c) : ord3 a b = ord3 c d := by
  unfold ord3
  by_cases x1 : a < b
  · rw [if_pos x1, if_pos (h1.1 x1)]
  · rw [if_neg x1, if_neg (fun h => x1 (h1.2 h))]
    by_cases x2 : b < a
    · rw [if_pos x2, if_pos (h2.1 x2)]
    · rw [if_neg x2, if_neg (fun h => x2 (h2.2 h))]
def nv (x : Nat) : Int := sg (sgn x) (mag (rung x))
theorem ag_ord (n : Int) (hn : -9223372036854775808 ≤ n ∧ n ≤ 9223372036854775807) (x : Nat) (h : ¬ isNan x) : ag n x = (ord3 (n * UN) (nv x), true) := by
  have hB : (B63 : Int) = 9223372036854775808 := rfl
  unfold ag nv
  rw [if_neg h]
  by_cases h1 : sgn x = false ∧ 4890909195324358656 ≤ rung x
  · have hV : B63 * UN ≤ mag (rung x) := by rw [← mag63]; exact mag_le.2 h1.2
    have : n * UN < (B63 : Int) * UN := mul_lt_UN.2 (by omega)
    have hV' : (B63 : Int) * UN ≤ mag (rung x) := by exact_mod_cast hV
    rw [if_pos h1, h1.1]
    unfold ord3 sg
    rw [if_pos (by simp only [Bool.false_eq_true, if_false]; omega)]
  · rw [if_neg h1]
    by_cases h2 : sgn x = true ∧ 4890909195324358656 < rung x
    · have hV : B63 * UN < mag (rung x) := by rw [← mag63]; exact mag_lt.2 h2.2
      have : (-(B63 : Int)) * UN ≤ n * UN := Int.mul_le_mul_of_nonneg_right (by omega) (by omega)
      have hV' : (B63 : Int) * UN < mag (rung x) := by exact_mod_cast hV
      rw [Int.neg_mul] at this
      rw [if_pos h2, h2.1]
      unfold ord3 sg
      rw [if_neg (by simp only [if_true]; omega), if_pos (by simp only [if_true]; omega)]
    · rw [if_neg h2]
      obtain ⟨f1, f2⟩ := sg_flo (sgn x) (mag (rung x))
      have fe := flo_cmp (sgn x) (mag (rung x))
      have fm : sg (sgn x) (flo (sgn x) (mag (rung x)) * UN) = sg (sgn x) (flo (sgn x) (mag (rung x))) * UN := by unfold sg; cases sgn x <;> simp [Int.neg_mul]
      rw [fm] at fe
      generalize sg (sgn x) (mag (rung x)) = W at f1 f2 fe ⊢
      generalize sg (sgn x) (flo (sgn x) (mag (rung x))) = D at f1 f2 fe ⊢
      unfold ord3
      by_cases a1 : n < D
      · have := mul_lt_UN.2 a1
        rw [if_pos a1, if_pos (by omega)]
      · by_cases a2 : D < n
        · have : (D + 1) * UN ≤ n * UN := Int.mul_le_mul_of_nonneg_right (by omega) (by omega)
          rw [if_neg a1, if_pos a2, if_neg (by omega), if_pos (by omega)]
        · have hnD : n = D := by omega
          subst hnD
          rw [if_neg a1, if_neg a1]
          by_cases a3 : mag (rung x) % UN ≠ 0
          · have := fe.2 a3
            rw [if_pos a3, if_pos (by omega)]
          · have := mt fe.1 a3
            rw [if_neg a3, if_neg (by omega), if_neg (by omega)]
theorem realCompare_eq (fu : Nat) (x y : Nat) : realCompare fu x y = some (if isNan x ∨ isNan y then (0, false, ()) else (ord3 (nv x) (nv y), true, ())) := by
  unfold realCompare
  rw [fLss_eq, fGtr_eq, fEql_eq]
  by_cases h : isNan x ∨ isNan y
  · rw [if_pos h, decide_eq_false (fun q => h.elim q.1 q.2.1), decide_eq_false (fun q => h.elim q.1 q.2.1), decide_eq_false (fun q => h.elim q.1 q.2.1)]; rfl
  · have hx : ¬ isNan x := fun q => h (.inl q)
    have hy : ¬ isNan y := fun q => h (.inr q)
    rw [if_neg h]
    unfold nv ord3
    simp only [← sk_mag, hx, hy, not_false_eq_true, true_and]
    by_cases a1 : sk x < sk y
    · rw [decide_eq_true a1, if_pos a1]; rfl
    · rw [decide_eq_false a1, if_neg a1]
      by_cases a2 : sk y < sk x
      · rw [decide_eq_true a2, if_pos a2]; rfl
      · rw [decide_eq_false a2, if_neg a2, decide_eq_true (by omega)]; rfl
def numb (v : Va) : Bool := decide (v.1 = 1) || (decide (v.1 = 2) && !decide (isNan v.2.2.1))
def plc (v : Va) : Int := if v.1 = 1 then v.2.1 * UN else nv v.2.2.1
def cmpV (a b : Va) : Int × Bool :=
  if mayV a = true ∧ mayV b = true then
    if a.1 = 3 ∧ b.1 = 3 then (cmpL a.2.2.2.1 b.2.2.2.1, true) else
    if numb a = true ∧ numb b = true then (ord3 (plc a) (plc b), true) else (0, false)
  else (0, false)
theorem ord3_neg (a b : Int) : ord3 a b = -ord3 b a := by
  unfold ord3
  by_cases x1 : a < b
  · rw [if_pos x1, if_neg (by omega), if_pos x1]
  · rw [if_neg x1]
    by_cases x2 : b < a
    · rw [if_pos x2, if_pos x2]; rfl
    · rw [if_neg x2, if_neg x2, if_neg x1]; rfl
theorem ord3_in (a b : Int) : ord3 a b = -1 ∨ ord3 a b = 0 ∨ ord3 a b = 1 := by
  unfold ord3
  split
  · exact .inl rfl
  · split
    · exact .inr (.inr rfl)
    · exact .inr (.inl rfl)
def vaFit (v : Va) : Prop := (-9223372036854775808 ≤ v.2.1 ∧ v.2.1 ≤ 9223372036854775807) ∧ F64 v.2.2.1
theorem compareV_eq (fu : Nat) (a b : Va) (ha : vaFit a) (hb : vaFit b) : valueCompare fu a b = some ((cmpV a b).1, (cmpV a b).2, ()) := by
  have pair : ∀ p q : Int, (([List.getD ([a.1, b.1]) 0 (0 : Int), List.getD ([a.1, b.1]) 1 (0 : Int)] : List Int) == [p, q]) = (decide (a.1 = p) && decide (b.1 = q)) := fun p q => by
    show ((a.1 == p) && ((b.1 == q) && true)) = _
    rw [Bool.and_true]; rfl
  unfold valueCompare cmpV
  rw [valueMay_eq fu a ha.2]
  simp only [Option.bind_some]
  by_cases ma : mayV a = true
  · rw [valueMay_eq fu b hb.2]
    simp only [ma, Bool.not_true, cond_false, Option.bind_some, true_and]
    by_cases mb : mayV b = true
    · simp only [mb, Bool.not_true, cond_false, if_true, pair]
      unfold numb plc
      by_cases a3 : a.1 = 3
      · by_cases b3 : b.1 = 3
        · simp only [a3, b3, decide_true, Bool.and_true, cond_true, and_self, if_true]
          rfl
        · have : ¬ (a.1 = 3 ∧ b.1 = 3) := fun h => b3 h.2
          simp only [a3, b3, decide_true, decide_false, Bool.and_false, cond_false, show ¬ (3 : Int) = 2 by decide, show ¬ (3 : Int) = 1 by decide, Bool.false_and, and_false, false_and, if_false, Bool.or_false, Bool.false_eq_true]
      · have h33 : ¬ (a.1 = 3 ∧ b.1 = 3) := fun h => a3 h.1
        rw [if_neg h33]
        simp only [a3, decide_false, Bool.false_and, cond_false]
        by_cases a1 : a.1 = 1
        · simp only [a1, show ¬ (1 : Int) = 2 by decide, decide_true, decide_false, Bool.false_and, Bool.true_and, cond_false, Bool.true_or, true_and, if_true]
          by_cases b1 : b.1 = 1
          · simp only [b1, show ¬ (1 : Int) = 2 by decide, decide_true, decide_false, cond_false, cond_true, Bool.true_or, if_true]
            have ho : ord3 (a.2.1 * UN) (b.2.1 * UN) = ord3 a.2.1 b.2.1 := ord3_of mul_lt_UN mul_lt_UN
            rw [ho]
            unfold ord3
            by_cases x1 : a.2.1 < b.2.1
            · rw [decide_eq_true x1, if_pos x1]; rfl
            · rw [decide_eq_false x1, if_neg x1]
              by_cases x2 : b.2.1 < a.2.1
              · rw [decide_eq_true (show a.2.1 > b.2.1 from x2), if_pos x2]; rfl
              · rw [decide_eq_false (show ¬ a.2.1 > b.2.1 from x2), if_neg x2]; rfl
          · by_cases b2 : b.1 = 2
            · simp only [b2, show ¬ (2 : Int) = 1 by decide, decide_true, decide_false, cond_true, Bool.false_or, Bool.true_and, if_false]
              rw [against_eq]
              by_cases hn : isNan b.2.2.1
              · have : ag a.2.1 b.2.2.1 = (0, false) := by unfold ag; rw [if_pos hn]
                simp [this, hn]
              · rw [ag_ord _ ha.1 _ hn]
                simp [hn]
            · simp only [b1, b2, decide_false, cond_false, Bool.false_and, Bool.or_false, Bool.false_eq_true, if_false]
        · simp only [a1, decide_false, Bool.false_and, Bool.false_or, cond_false, if_false]
          by_cases a2 : a.1 = 2
          · simp only [a2, decide_true, Bool.true_and]
            by_cases b1 : b.1 = 1
            · simp only [b1, show ¬ (1 : Int) = 2 by decide, decide_true, decide_false, cond_true, cond_false, Bool.true_or, and_true, if_true]
              rw [against_eq]
              by_cases hn : isNan a.2.2.1
              · have : ag b.2.1 a.2.2.1 = (0, false) := by unfold ag; rw [if_pos hn]
                simp only [this, Option.bind_some, decide_eq_true hn, Bool.not_true, Bool.false_eq_true, if_false]
                rfl
              · rw [ag_ord _ hb.1 _ hn]
                simp only [Option.bind_some, decide_eq_false hn, Bool.not_false, if_true]
                have e : IntKind.i64.wrap (0 - ord3 (b.2.1 * UN) (nv a.2.2.1)) = ord3 (nv a.2.2.1) (b.2.1 * UN) := by
                  have := ord3_in (b.2.1 * UN) (nv a.2.2.1)
                  rw [ord3_neg (nv a.2.2.1), wrap_i64 (by omega) (by omega)]
                  omega
                rw [e]
            · by_cases b2 : b.1 = 2
              · simp only [b2, show ¬ (2 : Int) = 1 by decide, decide_true, decide_false, cond_true, Bool.false_or, Bool.true_and, if_false]
                rw [realCompare_eq]
                by_cases hn : isNan a.2.2.1
                · simp [hn]
                · by_cases hm : isNan b.2.2.1
                  · simp [hn, hm]
                  · simp [hn, hm]
              · simp only [b1, b2, decide_false, cond_false, Bool.false_and, Bool.or_false, Bool.false_eq_true, and_false, if_false]
          · simp only [a2, decide_false, Bool.false_and, cond_false, Bool.false_eq_true, false_and, if_false]
    · have mb' : mayV b = false := by simpa using mb
      simp [mb']
  · have ma' : mayV a = false := by simpa using ma
    simp [ma']
theorem cmpV_in (a b : Va) : (cmpV a b).1 = -1 ∨ (cmpV a b).1 = 0 ∨ (cmpV a b).1 = 1 := by
  unfold cmpV
  split
  · split
    · exact cmpL_in _ _
    · split
      · exact ord3_in _ _
      · exact .inr (.inl rfl)
  · exact .inr (.inl rfl)
theorem raw_fit {x : Rw} (h : (Kd.struct [(.int .u8), (.int .i64), (.int .u64), .str]).ok x) : vaFit (rawV x) := by
  obtain ⟨-, k2, k3, -⟩ := h
  have k2 := i64Of k2
  have k3 : 0 ≤ x.2.2.1 ∧ x.2.2.1 < 18446744073709551616 := u64Of k3
  have k2 : -9223372036854775808 ≤ x.2.1 ∧ x.2.1 < 9223372036854775808 := k2
  exact ⟨⟨k2.1, by show x.2.1 ≤ _; omega⟩, by show x.2.2.1.toNat < _; omega⟩
def key (x : Nat) : Int := if isNan x then 18444492273895866368 else if sgn x = true then 9223372036854775807 - (rung x : Int) else 9223372036854775808 + (rung x : Int)
def parts (x : Nat) : Sp0 := (sgn x, (x : Int) / 4503599627370496 % 2048, (x : Int) % 4503599627370496, ())
theorem sgn_iff {x : Nat} (h : F64 x) : sgn x = decide (x ≥ 9223372036854775808) := by
  unfold F64 at h
  unfold sgn
  by_cases h1 : x ≥ 9223372036854775808
  · have : x / 9223372036854775808 % 2 = 1 := by omega
    rw [this, decide_eq_true h1]; rfl
  · have : x / 9223372036854775808 % 2 = 0 := by omega
    rw [this, decide_eq_false h1]; rfl
theorem ofBits_eq (fu : Nat) {x : Nat} (h : F64 x) : ref02OfBits fu (x : Int) = some (parts x, ()) := by
  unfold ref02OfBits parts
  have hs := sgn_iff h
  unfold F64 at h
  have e1 : Int.tdiv (x : Int) 4503599627370496 = (x : Int) / 4503599627370496 := Int.tdiv_eq_ediv_of_nonneg (by omega)
  have e2 : IntKind.u64.wrap ((x : Int) / 4503599627370496) = (x : Int) / 4503599627370496 := wrap_u64 (by omega) (by omega)
  have e3 : Int.tmod ((x : Int) / 4503599627370496) 2048 = (x : Int) / 4503599627370496 % 2048 := Int.tmod_eq_emod_of_nonneg (by omega)
  have e4 : IntKind.i64.wrap ((x : Int) / 4503599627370496 % 2048) = (x : Int) / 4503599627370496 % 2048 := wrap_i64 (by omega) (by omega)
  have e5 : Int.tmod (x : Int) 4503599627370496 = (x : Int) % 4503599627370496 := Int.tmod_eq_emod_of_nonneg (by omega)
  simp only [e1, e2, e3, e4, e5, Option.some.injEq, Prod.mk.injEq, and_true]
  rw [hs]
  exact decide_eq_decide.2 (by omega)
theorem parts_rung (x : Nat) : (x : Int) / 4503599627370496 % 2048 * 4503599627370496 + (x : Int) % 4503599627370496 = rung x := by unfold rung; omega
theorem nan_parts (x : Nat) : isNan x ↔ ((x : Int) / 4503599627370496 % 2048 = 2047 ∧ (x : Int) % 4503599627370496 ≠ 0) := by unfold isNan rung; omega
theorem refNaN_eq (fu : Nat) (x : Nat) : ref02PartsNaN fu (parts x) = some (decide (isNan x), ()) := by
  unfold ref02PartsNaN parts
  have hn := nan_parts x
  by_cases h1 : (x : Int) / 4503599627370496 % 2048 = 2047
  · simp only [h1, beq_self_eq_true, cond_true]
    by_cases h2 : (x : Int) % 4503599627370496 = 0
    · rw [decide_eq_false (fun h => (hn.1 h).2 h2), h2]; rfl
    · rw [decide_eq_true (hn.2 ⟨h1, h2⟩), bne_iff_ne.2 h2]
  · have : ((x : Int) / 4503599627370496 % 2048 == 2047) = false := beq_false_of_ne h1
    simp only [this, cond_false]
    rw [decide_eq_false (fun h => h1 (hn.1 h).1)]
theorem refSize_eq (fu : Nat) (x : Nat) : ref02PartsSize fu (parts x) = some ((rung x : Int), ()) := by
  unfold ref02PartsSize parts
  have hr := parts_rung x
  have hl : rung x < 9223372036854775808 := by unfold rung; omega
  simp only
  rw [wrap_u64 (x := (x : Int) / 4503599627370496 % 2048) (by omega) (by omega), wrap_u64 (x := (x : Int) / 4503599627370496 % 2048 * 4503599627370496) (by omega) (by omega), hr, wrap_u64 (by omega) (by omega)]
theorem refClass0 (fu : Nat) (x : Nat) (hn : ¬ isNan x) : ∃ c, ref02PartsClass fu (parts x) = some (c, ()) ∧ (c == 0) = decide (rung x = 0) := by
  unfold ref02PartsClass parts
  have hp := nan_parts x
  have hr := parts_rung x
  by_cases h1 : (x : Int) / 4503599627370496 % 2048 = 2047
  · by_cases h2 : (x : Int) % 4503599627370496 = 0
    · refine ⟨3, by simp only [h1, h2, beq_self_eq_true, bne_self_eq_false, cond_true, cond_false], ?_⟩
      rw [decide_eq_false (by omega)]; rfl
    · exact absurd (hp.2 ⟨h1, h2⟩) hn
  · have e1 : ((x : Int) / 4503599627370496 % 2048 == 2047) = false := beq_false_of_ne h1
    by_cases h3 : (x : Int) / 4503599627370496 % 2048 = 0
    · by_cases h2 : (x : Int) % 4503599627370496 = 0
      · refine ⟨0, by simp only [h3, h2, beq_self_eq_true, bne_self_eq_false, cond_true, cond_false]; rfl, ?_⟩
        rw [decide_eq_true (by omega)]; rfl
      · have e2 : ((x : Int) % 4503599627370496 != 0) = true := bne_iff_ne.2 h2
        refine ⟨1, by simp only [h3, e2, beq_self_eq_true, cond_true]; rfl, ?_⟩
        rw [decide_eq_false (by omega)]; rfl
    · have e3 : ((x : Int) / 4503599627370496 % 2048 == 0) = false := beq_false_of_ne h3
      refine ⟨2, by simp only [e1, e3, cond_false], ?_⟩
      rw [decide_eq_false (by omega)]; rfl
theorem key_nan {x : Nat} (h : isNan x) : key x = 18444492273895866368 := by unfold key; rw [if_pos h]
theorem key_neg {x : Nat} (h : ¬ isNan x) (hs : sgn x = true) : key x = 9223372036854775807 - (rung x : Int) := by unfold key; rw [if_neg h, if_pos hs]
theorem key_pos {x : Nat} (h : ¬ isNan x) (hs : sgn x = false) : key x = 9223372036854775808 + (rung x : Int) := by unfold key; rw [if_neg h, hs]; rfl
theorem key_lt {x : Nat} (h : ¬ isNan x) : key x < 18444492273895866368 := by
  have : rung x ≤ 9218868437227405312 := by unfold isNan at h; omega
  cases hs : sgn x with
  | true => rw [key_neg h hs]; omega
  | false => rw [key_pos h hs]; omega
theorem ord3_lt {a b : Int} (h : a < b) : ord3 a b = -1 := by unfold ord3; rw [if_pos h]
theorem ord3_gt {a b : Int} (h : b < a) : ord3 a b = 1 := by unfold ord3; rw [if_neg (by omega), if_pos h]
theorem ord3_eq {a b : Int} (h : a = b) : ord3 a b = 0 := by unfold ord3; rw [if_neg (by omega), if_neg (by omega)]
theorem ref_j16 (fu : Nat) (k1 : Int → Option (Int × Unit)) (a b : Int) : ref02Order.j16 fu k1 a b = k1 (ord3 a b) := by
  unfold ref02Order.j16
  by_cases q1 : a < b
  · simp only [q1, decide_true, cond_true]; rw [ord3_lt q1]
  · by_cases q2 : a > b
    · simp only [q1, q2, decide_true, decide_false, cond_true, cond_false]; rw [ord3_gt q2]
    · simp only [q1, q2, decide_false, cond_false]; rw [ord3_eq (by omega)]
theorem ord3_congr {a b c d : Int} (h1 : a < b ↔ c < d) (h2 : b < a ↔ d < c) : ord3 a b = ord3 c d := by
  unfold ord3
  by_cases q1 : a < b
  · rw [if_pos q1, if_pos (h1.1 q1)]
  · rw [if_neg q1, if_neg (fun h => q1 (h1.2 h))]
    by_cases q2 : b < a
    · rw [if_pos q2, if_pos (h2.1 q2)]
    · rw [if_neg q2, if_neg (fun h => q2 (h2.2 h))]
theorem order_pp (r q : Nat) : ord3 (9223372036854775808 + (r : Int)) (9223372036854775808 + (q : Int)) = ord3 (r : Int) (q : Int) := ord3_congr (by omega) (by omega)
theorem order_nn (r q : Nat) : ord3 (9223372036854775807 - (r : Int)) (9223372036854775807 - (q : Int)) = ord3 (q : Int) (r : Int) := ord3_congr (by omega) (by omega)
theorem order_pn (r q : Nat) : ord3 (9223372036854775808 + (r : Int)) (9223372036854775807 - (q : Int)) = 1 := ord3_gt (by omega)
theorem order_np (r q : Nat) : ord3 (9223372036854775807 - (r : Int)) (9223372036854775808 + (q : Int)) = -1 := ord3_lt (by omega)
theorem ref_j7 (fu : Nat) (k1 : Int → Option (Int × Unit)) (x y : Nat) (h1 : ¬ isNan x) (h2 : ¬ isNan y) : ref02Order.j7 fu k1 (parts x) (parts y) = k1 (ord3 (key x) (key y)) := by
  unfold ref02Order.j7
  simp only [refSize_eq, Option.bind_some, ref_j16]
  have hp : ∀ z, (parts z).1 = sgn z := fun _ => rfl
  rw [hp, hp]
  cases s1 : sgn x with
  | false =>
    rw [key_pos h1 s1]
    cases s2 : sgn y with
    | false =>
      rw [key_pos h2 s2, order_pp]
      simp only [beq_self_eq_true, Bool.not_true, cond_false]
    | true =>
      rw [key_neg h2 s2, order_pn]
      simp only [show (false == true) = false from rfl, Bool.not_false, cond_true, cond_false]
  | true =>
    rw [key_neg h1 s1]
    cases s2 : sgn y with
    | false =>
      rw [key_pos h2 s2, order_np]
      simp only [show (true == false) = false from rfl, Bool.not_false, cond_true]
    | true =>
      rw [key_neg h2 s2, order_nn]
      simp only [beq_self_eq_true, Bool.not_true, cond_false, cond_true]
theorem nan_nan {x y : Nat} (h1 : isNan x) (h2 : isNan y) : ord3 (key x) (key y) = 0 := ord3_eq (by rw [key_nan h1, key_nan h2])
theorem nan_num {x y : Nat} (h1 : isNan x) (h2 : ¬ isNan y) : ord3 (key x) (key y) = 1 := ord3_gt (by have := key_lt h2; rw [key_nan h1]; exact this)
theorem num_nan {x y : Nat} (h1 : ¬ isNan x) (h2 : isNan y) : ord3 (key x) (key y) = -1 := ord3_lt (by have := key_lt h1; rw [key_nan h2]; exact this)
theorem order_t1 (fu : Nat) (x y : Nat) (h1 : isNan x) (h2 : isNan y) : ref02Order fu (parts x) (parts y) = some (0, ()) := by
  unfold ref02Order ref02Order.j13002
  simp only [refNaN_eq, Option.bind_some, cond_true, h1, h2, decide_true]
theorem order_t2 (fu : Nat) (x y : Nat) (h1 : isNan x) (h2 : ¬ isNan y) : ref02Order fu (parts x) (parts y) = some (1, ()) := by
  unfold ref02Order ref02Order.j13002
  simp only [refNaN_eq, Option.bind_some, cond_true, cond_false, h1, h2, decide_true, decide_false]
theorem order_t3 (fu : Nat) (x y : Nat) (h1 : ¬ isNan x) (h2 : isNan y) : ref02Order fu (parts x) (parts y) = some (-1, ()) := by
  unfold ref02Order ref02Order.j13002
  simp only [refNaN_eq, Option.bind_some, cond_true, cond_false, h1, h2, decide_true, decide_false]
theorem order_t4 (fu : Nat) (x y : Nat) (h1 : ¬ isNan x) (h2 : ¬ isNan y) : ref02Order fu (parts x) (parts y) = some (ord3 (key x) (key y), ()) := by
  unfold ref02Order ref02Order.j13002
  simp only [refNaN_eq, Option.bind_some, cond_false, h1, h2, decide_false, ref_j7 fu _ x y h1 h2]
theorem refOrder_eq (fu : Nat) (x y : Nat) : ref02Order fu (parts x) (parts y) = some (ord3 (key x) (key y), ()) := by
  by_cases h1 : isNan x
  · by_cases h2 : isNan y
    · exact (order_t1 fu x y h1 h2).trans (congrArg (fun q => some (q, ())) (nan_nan h1 h2).symm)
    · exact (order_t2 fu x y h1 h2).trans (congrArg (fun q => some (q, ())) (nan_num h1 h2).symm)
  · by_cases h2 : isNan y
    · exact (order_t3 fu x y h1 h2).trans (congrArg (fun q => some (q, ())) (num_nan h1 h2).symm)
    · exact order_t4 fu x y h1 h2
def comp (x y : Nat) : Int × Bool := if isNan x ∨ isNan y then (0, false) else (ord3 (sk x) (sk y), true)
theorem compare_eq (fu : Nat) (x y : Nat) : realCompare fu x y = some ((comp x y).1, (comp x y).2, ()) := by
  unfold realCompare comp
  rw [fLss_eq, fGtr_eq, fEql_eq]
  by_cases h1 : isNan x
  · simp [h1]
  · by_cases h2 : isNan y
    · simp [h2]
    · have h3 : ¬ (isNan x ∨ isNan y) := fun h => h.elim h1 h2
      unfold ord3
      by_cases q1 : sk x < sk y
      · simp [h1, h2, q1]
      · by_cases q2 : sk y < sk x
        · simp [h1, h2, q1, q2]
        · have q3 : sk x = sk y := by omega
          simp [h1, h2, q3]
theorem key_sk {x y : Nat} (hx : ¬ isNan x) (hy : ¬ isNan y) (hz : ¬ (rung x = 0 ∧ rung y = 0)) : ord3 (key x) (key y) = ord3 (sk x) (sk y) := by
  cases s1 : sgn x <;> cases s2 : sgn y
  · rw [key_pos hx s1, key_pos hy s2]; unfold sk sg; rw [s1, s2]; simp only [Bool.false_eq_true, if_false]; exact ord3_congr (by omega) (by omega)
  · rw [key_pos hx s1, key_neg hy s2]; unfold sk sg; rw [s1, s2]; simp only [Bool.false_eq_true, if_false, if_true]; exact ord3_congr (by omega) (by omega)
  · rw [key_neg hx s1, key_pos hy s2]; unfold sk sg; rw [s1, s2]; simp only [Bool.false_eq_true, if_false, if_true]; exact ord3_congr (by omega) (by omega)
  · rw [key_neg hx s1, key_neg hy s2]; unfold sk sg; rw [s1, s2]; simp only [if_true]; exact ord3_congr (by omega) (by omega)
theorem sk_zero {x : Nat} (h : rung x = 0) : sk x = 0 := by unfold sk sg; rw [h]; cases sgn x <;> rfl
theorem refCompare_eq (fu : Nat) (x y : Nat) : ref02Compare fu (parts x) (parts y) = some ((comp x y).1, (comp x y).2, ()) := by
  unfold ref02Compare comp
  simp only [refNaN_eq, Option.bind_some]
  by_cases h1 : isNan x
  · simp only [h1, decide_true, cond_true, true_or, if_true]
  · by_cases h2 : isNan y
    · simp only [h1, h2, decide_true, decide_false, cond_true, cond_false, or_true, if_true]
    · have h3 : ¬ (isNan x ∨ isNan y) := fun h => h.elim h1 h2
      obtain ⟨c, e1, e2⟩ := refClass0 fu x h1
      obtain ⟨d, e3, e4⟩ := refClass0 fu y h2
      rw [if_neg h3]
      simp only [h1, h2, decide_false, cond_false, e1, e3, Option.bind_some, e2, e4, refOrder_eq]
      by_cases z1 : rung x = 0
      · by_cases z2 : rung y = 0
        · simp only [z1, z2, decide_true, cond_true, sk_zero z1, sk_zero z2, ord3, Int.lt_irrefl, if_false]
        · rw [key_sk h1 h2 (fun h => z2 h.2)]
          simp only [z1, z2, decide_true, decide_false, cond_true, cond_false]
      · rw [key_sk h1 h2 (fun h => z1 h.1)]
        simp only [z1, decide_false, cond_false]
theorem wrap_u8 {x : Int} (h0 : 0 ≤ x) (h1 : x < 256) : IntKind.u8.wrap x = x := by
  simp only [IntKind.wrap, IntKind.signed, IntKind.bits]
  simp
  omega
theorem u8Of {x : Int} (h : inR .u8 x) : 0 ≤ x ∧ x < 256 := by
  simp [inR, IntKind.min, IntKind.max, IntKind.signed, IntKind.bits] at h
  omega
theorem half_rounds (fu : Nat) (k2 : Int → Int → Int → Bool → Sp0 → Option (Int × Bool × Int × Unit)) (side : Int) (b0 : Sp0) : ∀ (d f m : Nat) (ex : Bool), d < f → d ≤ 5000 → m < 18446744073709551616 →
    ref02PartsFloor.l10 fu k2 f side m (-(d : Int)) ex b0 = k2 side ((m / 2 ^ d : Nat) : Int) 0 (ex && decide (m % 2 ^ d = 0)) b0 := by
  intro d
  induction d with
  | zero =>
    intro f m ex h1 h2 h3
    obtain ⟨f, rfl⟩ : ∃ j, f = j + 1 := ⟨f - 1, by omega⟩
    unfold ref02PartsFloor.l10 ref02PartsFloor.b10
    rw [decide_eq_false (by omega), cond_false, Nat.pow_zero, Nat.div_one, Nat.mod_one, decide_eq_true rfl, Bool.and_true]
    rfl
  | succ d ih =>
    intro f m ex h1 h2 h3
    obtain ⟨f, rfl⟩ : ∃ j, f = j + 1 := ⟨f - 1, by omega⟩
    have t1 : Int.tmod (m : Int) 2 = (m : Int) % 2 := Int.tmod_eq_emod_of_nonneg (by omega)
    have t2 : Int.tdiv (m : Int) 2 = ((m / 2 : Nat) : Int) := by rw [Int.tdiv_eq_ediv_of_nonneg (by omega)]; omega
    have e1 : IntKind.u64.wrap ((m / 2 : Nat) : Int) = ((m / 2 : Nat) : Int) := wrap_u64 (by omega) (by omega)
    have e2 : IntKind.i64.wrap (-((d + 1 : Nat) : Int) + 1) = -(d : Int) := by rw [wrap_i64 (by omega) (by omega)]; omega
    have e3 : m / 2 / 2 ^ d = m / 2 ^ (d + 1) := by rw [Nat.div_div_eq_div_mul, Nat.pow_succ, Nat.mul_comm]
    have e4 : m % 2 ^ (d + 1) = m % 2 + 2 * (m / 2 % 2 ^ d) := by rw [Nat.pow_succ, Nat.mul_comm, Nat.mod_mul]
    conv => lhs; unfold ref02PartsFloor.l10 ref02PartsFloor.b10
    rw [decide_eq_true (by omega), cond_true]
    simp only [t1, t2, e1, e2]
    by_cases hb : m % 2 = 1
    · have hb' : ((m : Int) % 2 == 1) = true := by rw [show (m : Int) % 2 = 1 by omega]; rfl
      rw [hb', cond_true, ih f (m / 2) false (by omega) (by omega) (by omega), e3, Bool.false_and, decide_eq_false (by omega), Bool.and_false]
    · have hb' : ((m : Int) % 2 == 1) = false := by rw [show (m : Int) % 2 = 0 by omega]; rfl
      rw [hb', cond_false, ih f (m / 2) ex (by omega) (by omega) (by omega), e3]
      congr 2
      exact decide_eq_decide.2 (by omega)
theorem twice_rounds (fu : Nat) (k1 : Int → Bool → Int → Option (Int × Bool × Int × Unit)) (k4 : Int → Bool → Sp0 → Option (Int × Bool × Int × Unit)) (side : Int) (b0 : Sp0) (ex : Bool) : ∀ (d f m : Nat), d < f → d ≤ 5000 → m < 18446744073709551616 →
    ref02PartsFloor.l15 fu k1 k4 f side m d ex b0 = if d = 0 ∨ m * 2 ^ (d - 1) < 9223372036854775808 then k4 ((m * 2 ^ d : Nat) : Int) ex b0 else k1 0 false side := by
  intro d
  induction d with
  | zero =>
    intro f m h1 h2 h3
    obtain ⟨f, rfl⟩ : ∃ j, f = j + 1 := ⟨f - 1, by omega⟩
    unfold ref02PartsFloor.l15 ref02PartsFloor.b15
    rw [decide_eq_false (by omega), cond_false, if_pos (Or.inl rfl), Nat.pow_zero, Nat.mul_one]
  | succ d ih =>
    intro f m h1 h2 h3
    obtain ⟨f, rfl⟩ : ∃ j, f = j + 1 := ⟨f - 1, by omega⟩
    have e2 : IntKind.i64.wrap (((d + 1 : Nat) : Int) - 1) = (d : Int) := by rw [wrap_i64 (by omega) (by omega)]; omega
    conv => lhs; unfold ref02PartsFloor.l15 ref02PartsFloor.b15
    rw [decide_eq_true (by omega), cond_true]
    simp only [e2, Nat.add_sub_cancel]
    by_cases hb : 9223372036854775808 ≤ m
    · have : m * 1 ≤ m * 2 ^ d := Nat.mul_le_mul_left _ (Nat.two_pow_pos d)
      rw [decide_eq_true (show (m : Int) ≥ 9223372036854775808 by omega), cond_true, if_neg (by omega)]
    · have e1 : IntKind.u64.wrap ((m : Int) * 2) = ((2 * m : Nat) : Int) := by rw [wrap_u64 (by omega) (by omega)]; omega
      rw [decide_eq_false (show ¬ (m : Int) ≥ 9223372036854775808 by omega), cond_false, e1, ih f (2 * m) (by omega) (by omega) (by omega)]
      have e3 : 2 * m * 2 ^ d = m * 2 ^ (d + 1) := by rw [Nat.pow_succ, Nat.mul_comm 2 m, Nat.mul_assoc, Nat.mul_comm 2]
      rw [e3]
      cases d with
      | zero => rw [if_pos (Or.inl rfl), if_pos (Or.inr (by simp; omega))]
      | succ d =>
        have e4 : 2 * m * 2 ^ (d + 1 - 1) = m * 2 ^ (d + 1) := by rw [Nat.add_sub_cancel, Nat.pow_succ, Nat.mul_comm 2 m, Nat.mul_assoc, Nat.mul_comm 2]
        rw [e4]
        by_cases hc : m * 2 ^ (d + 1) < 9223372036854775808
        · rw [if_pos (Or.inr hc), if_pos (Or.inr hc)]
        · rw [if_neg (by omega), if_neg (by omega)]
def fl3 (x : Nat) : Int × Bool × Int :=
  if 9218868437227405312 ≤ rung x then (0, false, if sgn x = true then -1 else 1) else
  if sgn x = false then (if 9223372036854775808 ≤ mag (rung x) / UN then (0, false, 1) else (((mag (rung x) / UN : Nat) : Int), decide (mag (rung x) % UN = 0), 0)) else
  if 9223372036854775808 < flo true (mag (rung x)) then (0, false, -1) else (-((flo true (mag (rung x)) : Nat) : Int), decide (mag (rung x) % UN = 0), 0)
theorem tail_eq (fu : Nat) (s : Bool) (M : Nat) (ex : Bool) (hM : M < 18446744073709551615) (hx : M ≥ 18446744073709551615 - 1 → ex = true) :
    (cond (!s) (let t2 := decide ((M : Int) ≥ (9223372036854775808 : Int)); cond t2 (some ((0 : Int), false, (1 : Int), ())) (some (IntKind.i64.wrap (M : Int), ex, (0 : Int), ()))) (cond (!ex) (let t3 := IntKind.u64.wrap ((M : Int) + (1 : Int)); ref02PartsFloor.j26 fu (fun a b c => some (a, b, c, ())) t3 ex) (ref02PartsFloor.j26 fu (fun a b c => some (a, b, c, ())) (M : Int) ex)) : Option (Int × Bool × Int × Unit)) =
    if s = false then (if 9223372036854775808 ≤ M then some (0, false, 1, ()) else some ((M : Int), ex, 0, ())) else if 9223372036854775808 < M + (!ex).toNat then some (0, false, -1, ()) else some (-((M + (!ex).toNat : Nat) : Int), ex, 0, ()) := by
  have j : ∀ K : Nat, K < 18446744073709551616 → ref02PartsFloor.j26 fu (fun a b c => some (a, b, c, ())) (K : Int) ex = if 9223372036854775808 < K then some (0, false, -1, ()) else some (-(K : Int), ex, 0, ()) := fun K hK => by
    unfold ref02PartsFloor.j26
    by_cases hk : 9223372036854775808 < K
    · rw [decide_eq_true (show (K : Int) > 9223372036854775808 by omega), if_pos hk]; rfl
    · have e1 : IntKind.i64.wrap (IntKind.u64.wrap (0 - (K : Int))) = -(K : Int) := by
        simp only [IntKind.wrap, IntKind.signed, IntKind.bits]
        simp
        omega
      rw [decide_eq_false (show ¬ (K : Int) > 9223372036854775808 by omega), if_neg hk]
      simp only [cond_false, e1]
  cases s with
  | false =>
    simp only [Bool.not_false, cond_true, if_true]
    by_cases h : 9223372036854775808 ≤ M
    · rw [decide_eq_true (show (M : Int) ≥ 9223372036854775808 by omega), if_pos h]; rfl
    · rw [decide_eq_false (show ¬ (M : Int) ≥ 9223372036854775808 by omega), if_neg h, wrap_i64 (by omega) (by omega)]; rfl
  | true =>
    cases ex with
    | true =>
      simp only [Bool.not_true, cond_false, Bool.toNat_false, Nat.add_zero]
      rw [j M (by omega)]
      rfl
    | false =>
      have e1 : IntKind.u64.wrap ((M : Int) + 1) = ((M + 1 : Nat) : Int) := by rw [wrap_u64 (by omega) (by omega)]; omega
      simp only [Bool.not_true, cond_false, Bool.not_false, cond_true, Bool.toNat_true, e1]
      rw [j (M + 1) (by omega)]
      rfl
theorem pow_pred (m : Nat) {d : Nat} (h : 0 < d) : m * 2 ^ d = m * 2 ^ (d - 1) * 2 := by
  obtain ⟨e, rfl⟩ : ∃ e, d = e + 1 := ⟨d - 1, by omega⟩
  rw [Nat.add_sub_cancel, Nat.pow_succ, Nat.mul_assoc]
theorem half_exit (fu : Nat) (k2 : Int → Int → Int → Bool → Sp0 → Option (Int × Bool × Int × Unit)) (f : Nat) (side m e : Int) (ex : Bool) (b0 : Sp0) (h : ¬ e < 0) :
    ref02PartsFloor.l10 fu k2 (f + 1) side m e ex b0 = k2 side m e ex b0 := by
  unfold ref02PartsFloor.l10 ref02PartsFloor.b10
  rw [decide_eq_false h, cond_false]
theorem value_eq (fu x : Nat) (hfin : rung x < 9218868437227405312) : ∃ m j : Nat, m < 9007199254740992 ∧ mag (rung x) = m * 2 ^ j ∧ j ≤ 2046 ∧ ref02PartsValue fu (parts x) = some ((m : Int), (j : Int) - (UE : Int), ()) := by
  obtain ⟨m, j, h1, h2, h3⟩ := mag_bits (rung x)
  have hr := parts_rung x
  have hu : (UE : Int) = 1074 := rfl
  refine ⟨m, j, h1, h2, ?_, ?_⟩
  · rcases h3 with ⟨a, b, c⟩ | ⟨a, b, c⟩ <;> omega
  · unfold ref02PartsValue parts
    simp only
    rw [hu]
    rcases h3 with ⟨a, b, c⟩ | ⟨a, b, c⟩
    · have e0 : (x : Int) / 4503599627370496 % 2048 = 0 := by omega
      have e1 : (x : Int) % 4503599627370496 = (m : Int) := by omega
      rw [e0, e1, c]
      rfl
    · have e0 : ((x : Int) / 4503599627370496 % 2048 == 0) = false := beq_false_of_ne (by omega)
      have e1 : IntKind.u64.wrap ((x : Int) % 4503599627370496 + 4503599627370496) = (m : Int) := by rw [wrap_u64 (by omega) (by omega)]; omega
      have e2 : IntKind.i64.wrap ((x : Int) / 4503599627370496 % 2048 - 1075) = (j : Int) - 1074 := by rw [wrap_i64 (by omega) (by omega)]; omega
      rw [e0, cond_false, e1, e2]
theorem fl3_of (x : Nat) (hfin : rung x < 9218868437227405312) (M : Nat) (ex : Bool) (hM : M = mag (rung x) / UN) (hex : ex = decide (mag (rung x) % UN = 0)) :
    (if sgn x = false then (if 9223372036854775808 ≤ M then some (0, false, 1, ()) else some ((M : Int), ex, 0, ())) else if 9223372036854775808 < M + (!ex).toNat then some (0, false, -1, ()) else some (-((M + (!ex).toNat : Nat) : Int), ex, 0, ()) : Option (Int × Bool × Int × Unit)) = some ((fl3 x).1, (fl3 x).2.1, (fl3 x).2.2, ()) := by
  have hf : flo true (mag (rung x)) = M + (!ex).toNat := by
    unfold flo
    rw [hM, hex, Bool.true_and]
    by_cases h : mag (rung x) % UN = 0 <;> simp [h]
  unfold fl3
  rw [if_neg (show ¬ 9218868437227405312 ≤ rung x by omega), hf, ← hM, ← hex]
  cases sgn x with
  | false =>
    simp only [if_true]
    by_cases h : 9223372036854775808 ≤ M
    · simp only [if_pos h]
    · simp only [if_neg h]
  | true =>
    simp only [Bool.true_eq_false, if_false]
    by_cases h : 9223372036854775808 < M + (!ex).toNat
    · simp only [if_pos h]
    · simp only [if_neg h]
theorem refFloor_eq (fu : Nat) (hfu : 3000 ≤ fu) (x : Nat) (hx : F64 x) (hn : ¬ isNan x) : ref02PartsFloor fu (parts x) = some ((fl3 x).1, (fl3 x).2.1, (fl3 x).2.2, ()) := by
  have key : ref02PartsFloor.j4 fu (fun a b c => some (a, b, c, ())) (if sgn x = true then -1 else 1) (parts x) = some ((fl3 x).1, (fl3 x).2.1, (fl3 x).2.2, ()) := by
    unfold ref02PartsFloor.j4
    have hE : ((parts x).2.1 == (2047 : Int)) = decide (9218868437227405312 ≤ rung x) := by
      have hr := parts_rung x
      show decide ((x : Int) / 4503599627370496 % 2048 = 2047) = _
      exact decide_eq_decide.2 (by omega)
    rw [hE]
    by_cases hfin : rung x < 9218868437227405312
    · rw [decide_eq_false (by omega), cond_false]
      obtain ⟨m, j, h1, h2, h3, h4⟩ := value_eq fu x hfin
      rw [h4]
      simp only [Option.bind_some]
      by_cases hm : m = 0
      · subst hm
        rw [show (((0 : Nat) : Int) == 0) = true from rfl, cond_true]
        refine Eq.trans ?_ (fl3_of x hfin 0 true (by rw [h2, Nat.zero_mul, Nat.zero_div]) (by rw [h2, Nat.zero_mul, Nat.zero_mod]; rfl))
        cases sgn x <;> rfl
      · rw [show ((m : Int) == 0) = false from beq_false_of_ne (by omega), cond_false]
        have hu : UE = 1074 := rfl
        by_cases hj : j < UE
        · obtain ⟨d1, d2⟩ := div_lo (m := m) hj
          rw [show (j : Int) - (UE : Int) = -((UE - j : Nat) : Int) by omega, half_rounds fu _ _ _ (UE - j) fu m true (by omega) (by omega) (by omega)]
          have hq : m / 2 ^ (UE - j) ≤ m := Nat.div_le_self _ _
          have := twice_rounds fu (fun vq7 vq7x2 vq7x3 => some (vq7, vq7x2, vq7x3, ())) (fun mvq8 exactq8 b0q8 => 
              cond (!b0q8.1) (
                let t2 := decide (mvq8 ≥ (9223372036854775808 : Int))
                cond t2 (
                  some ((0 : Int), false, (1 : Int), ())) (
                  some (IntKind.i64.wrap mvq8, exactq8, (0 : Int), ()))) (
                cond (!exactq8) (
                  let t3 := IntKind.u64.wrap (mvq8 + (1 : Int))
                  ref02PartsFloor.j26 fu (fun a b c => some (a, b, c, ())) t3 exactq8) (
                  ref02PartsFloor.j26 fu (fun a b c => some (a, b, c, ())) mvq8 exactq8))) (if sgn x = true then -1 else 1) (parts x) (true && decide (m % 2 ^ (UE - j) = 0)) 0 fu (m / 2 ^ (UE - j)) (by omega) (by omega) (by omega)
          rw [if_pos (Or.inl rfl), Nat.pow_zero, Nat.mul_one] at this
          refine Eq.trans this ?_
          refine (tail_eq fu (sgn x) (m / 2 ^ (UE - j)) (true && decide (m % 2 ^ (UE - j) = 0)) (by omega) (by omega)).trans ?_
          exact fl3_of x hfin _ _ (by rw [h2, d1]) (by rw [h2, Bool.true_and]; exact decide_eq_decide.2 d2.symm)
        · obtain ⟨d1, d2⟩ := div_hi (m := m) (j := j) (by omega)
          obtain ⟨f, rfl⟩ : ∃ f, fu = f + 1 := ⟨fu - 1, by omega⟩
          rw [show (j : Int) - (UE : Int) = ((j - UE : Nat) : Int) by omega, half_exit _ _ _ _ _ _ _ _ (by omega)]
          have := twice_rounds (f + 1) (fun vq7 vq7x2 vq7x3 => some (vq7, vq7x2, vq7x3, ())) (fun mvq8 exactq8 b0q8 => 
              cond (!b0q8.1) (
                let t2 := decide (mvq8 ≥ (9223372036854775808 : Int))
                cond t2 (
                  some ((0 : Int), false, (1 : Int), ())) (
                  some (IntKind.i64.wrap mvq8, exactq8, (0 : Int), ()))) (
                cond (!exactq8) (
                  let t3 := IntKind.u64.wrap (mvq8 + (1 : Int))
                  ref02PartsFloor.j26 (f + 1) (fun a b c => some (a, b, c, ())) t3 exactq8) (
                  ref02PartsFloor.j26 (f + 1) (fun a b c => some (a, b, c, ())) mvq8 exactq8))) (if sgn x = true then -1 else 1) (parts x) true (j - UE) (f + 1) m (by omega) (by omega) (by omega)
          refine Eq.trans this ?_
          have hexM : true = decide (mag (rung x) % UN = 0) := by rw [h2]; exact (decide_eq_true d2).symm
          by_cases hc : j - UE = 0 ∨ m * 2 ^ (j - UE - 1) < 9223372036854775808
          · rw [if_pos hc]
            have hM : m * 2 ^ (j - UE) < 18446744073709551615 := by
              rcases hc with hc | hc
              · rw [hc, Nat.pow_zero]; omega
              · rcases Nat.eq_zero_or_pos (j - UE) with hz | hp
                · rw [hz, Nat.pow_zero]; omega
                · have := pow_pred m hp
                  omega
            refine (tail_eq (f + 1) (sgn x) (m * 2 ^ (j - UE)) true hM (fun _ => rfl)).trans ?_
            exact fl3_of x hfin _ _ (by rw [h2, d1]) hexM
          · rw [if_neg hc]
            have hp : 0 < j - UE := by omega
            have hbig : 18446744073709551616 ≤ m * 2 ^ (j - UE) := by
              have := pow_pred m hp
              omega
            refine Eq.trans ?_ (fl3_of x hfin (m * 2 ^ (j - UE)) true (by rw [h2, d1]) hexM)
            have g1 : 9223372036854775808 ≤ m * 2 ^ (j - UE) := by omega
            have g2 : 9223372036854775808 < m * 2 ^ (j - UE) + (!true).toNat := by simp only [Bool.not_true, Bool.toNat_false]; omega
            generalize m * 2 ^ (j - UE) = M at g1 g2
            rw [if_pos g1, if_pos g2]
            cases sgn x <;> rfl
    · rw [decide_eq_true (by omega), cond_true]
      unfold fl3
      rw [if_pos (show 9218868437227405312 ≤ rung x by omega)]
  unfold ref02PartsFloor
  have hs : (parts x).1 = sgn x := rfl
  rw [hs]
  cases h : sgn x with
  | false => rw [h] at key; exact key
  | true => rw [h] at key; exact key
theorem refAgainst_eq (fu : Nat) (hfu : 3000 ≤ fu) (n : Int) (x : Nat) (hx : F64 x) : ref02Against fu n (parts x) = some ((ag n x).1, (ag n x).2, ()) := by
  unfold ref02Against ag
  rw [refNaN_eq]
  simp only [Option.bind_some]
  by_cases hn : isNan x
  · rw [decide_eq_true hn, if_pos hn]; rfl
  · rw [decide_eq_false hn, if_neg hn, cond_false, refFloor_eq fu hfu x hx hn]
    simp only [Option.bind_some]
    have i1 : IntKind.i64.wrap (0 - 1) = -1 := by decide
    have i2 : IntKind.i64.wrap (0 - -1) = 1 := by decide
    have b1 : ((1 : Int) != 0) = true := rfl
    have b2 : ((-1 : Int) != 0) = true := rfl
    have b3 : ((0 : Int) != 0) = false := rfl
    have hr : rung x ≤ 9218868437227405312 := by unfold isNan at hn; omega
    have hB : B63 = 9223372036854775808 := rfl
    have hfl : ∀ (D : Int) (ex : Bool), (cond (decide (n < D)) (some ((-1 : Int), true, ())) (cond (decide (n > D)) (some ((1 : Int), true, ())) (cond (!ex) (some ((-1 : Int), true, ())) (some ((0 : Int), true, ())))) : Option (Int × Bool × Unit)) = if n < D then some (-1, true, ()) else if D < n then some (1, true, ()) else if ex = false then some (-1, true, ()) else some (0, true, ()) := fun D ex => by
      by_cases a1 : n < D
      · rw [decide_eq_true a1, if_pos a1]; rfl
      · rw [decide_eq_false a1, if_neg a1]
        by_cases a2 : D < n
        · rw [decide_eq_true (show n > D from a2), if_pos a2]; rfl
        · rw [decide_eq_false (show ¬ n > D from a2), if_neg a2]
          cases ex <;> rfl
    have fin : ∀ (D : Int), (if n < D then some (-1, true, ()) else if D < n then some (1, true, ()) else if decide (mag (rung x) % UN = 0) = false then some (-1, true, ()) else some (0, true, ()) : Option (Int × Bool × Unit)) = some ((if n < D then ((-1 : Int), true) else if D < n then (1, true) else if mag (rung x) % UN ≠ 0 then (-1, true) else (0, true)).1, (if n < D then ((-1 : Int), true) else if D < n then (1, true) else if mag (rung x) % UN ≠ 0 then (-1, true) else (0, true)).2, ()) := fun D => by
      by_cases a1 : n < D
      · simp only [if_pos a1]
      · by_cases a2 : D < n
        · simp only [if_neg a1, if_pos a2]
        · simp only [if_neg a1, if_neg a2]
          by_cases a3 : mag (rung x) % UN = 0
          · simp [a3]
          · simp [a3]
    cases hs : sgn x with
    | false =>
      unfold fl3
      rw [hs]
      simp only [Bool.false_eq_true, false_and, if_false, true_and, if_true]
      have hiff : 4890909195324358656 ≤ rung x ↔ 9223372036854775808 ≤ mag (rung x) / UN := by
        rw [← mag_le, mag63, hB]
        exact (Nat.le_div_iff_mul_le UN_pos).symm
      by_cases hinf : 9218868437227405312 ≤ rung x
      · simp only [if_pos hinf, b1, cond_true, i1, if_pos (show 4890909195324358656 ≤ rung x by omega)]
      · simp only [if_neg hinf]
        by_cases hb : 9223372036854775808 ≤ mag (rung x) / UN
        · simp only [if_pos hb, b1, cond_true, i1, if_pos (hiff.2 hb)]
        · simp only [if_neg hb, b3, cond_false, if_neg (fun h => hb (hiff.1 h))]
          have hD : sg false (flo false (mag (rung x))) = ((mag (rung x) / UN : Nat) : Int) := by unfold sg flo; simp
          rw [hD]
          exact (hfl _ _).trans (fin _)
    | true =>
      unfold fl3
      rw [hs]
      simp only [Bool.true_eq_false, false_and, if_false, true_and, if_true]
      have hiff : 4890909195324358656 < rung x ↔ 9223372036854775808 < flo true (mag (rung x)) := by
        rw [← mag_lt, mag63]
        constructor
        · intro h; rw [← hB]; exact flo_gt h
        · intro h
          rcases Nat.lt_or_ge (B63 * UN) (mag (rung x)) with hl | hg
          · exact hl
          · have := flo_le (s := true) hg; omega
      by_cases hinf : 9218868437227405312 ≤ rung x
      · simp only [if_pos hinf, b2, cond_true, i2, if_pos (show 4890909195324358656 < rung x by omega)]
      · simp only [if_neg hinf]
        by_cases hb : 9223372036854775808 < flo true (mag (rung x))
        · simp only [if_pos hb, b2, cond_true, i2, if_pos (hiff.2 hb)]
        · simp only [if_neg hb, b3, cond_false, if_neg (fun h => hb (hiff.1 h))]
          have hD : sg true (flo true (mag (rung x))) = -((flo true (mag (rung x)) : Nat) : Int) := rfl
          rw [hD]
          exact (hfl _ _).trans (fin _)
instance : DecidablePred isNan := fun x => inferInstanceAs (Decidable (_ > _))
theorem drop_one {α : Type} {l : List α} {i : Nat} (h : i < l.length) : l.drop i = l[i] :: l.drop (i + 1) := List.drop_eq_getElem_cons h
abbrev Te : Type := Int × Int × Va × Unit
abbrev Pd : Type := Bool × Int × List Te × Unit
theorem ixT {l : List Te} {i : Nat} (h : i < l.length) : ixL ((0 : Int), (0 : Int), ((0 : Int), (0 : Int), (0 : Nat), ([] : List Int), ()), ()) l i = l[i] := by
  unfold ixL
  simp [List.getElem?_eq_getElem h]
theorem fixed10 (m : Nat) : law10Fixed (m + 100) = some (true, ()) := by kernel_rfl
def By (l : List Int) : Prop := ∀ b ∈ l, (0 : Int) ≤ b ∧ b ≤ 255
def vaOk (v : Va) : Prop := (0 ≤ v.1 ∧ v.1 ≤ 255) ∧ (-9223372036854775808 ≤ v.2.1 ∧ v.2.1 < 9223372036854775808) ∧ F64 v.2.2.1 ∧ By v.2.2.2.1
theorem refMay_eq (fu : Nat) (v : Va) (h : F64 v.2.2.1) : ref04May fu v = some (mayV v, ()) := by
  obtain ⟨k, i, x, s, u⟩ := v
  have h' : F64 x := h
  have q1 : ((x : Int) == 0) = decide (x = 0) := by
    by_cases hy : x = 0
    · subst hy; rfl
    · rw [decide_eq_false hy]; exact ne_beq (by omega)
  have q2 : ∀ a b : Int, (a == b) = decide (a = b) := fun _ _ => rfl
  have q3 : (s == ([] : List Int)) = decide (s = []) := by cases s <;> rfl
  have q4 : decide ((s.length : Int) ≤ 255) = decide (s.length ≤ 255) := by
    by_cases hs : s.length ≤ 255
    · rw [decide_eq_true hs, decide_eq_true (by omega)]
    · rw [decide_eq_false hs, decide_eq_false (by omega)]
  have q5 : decide (k < 4) = decide (k ≤ 3) := by
    by_cases hs : k ≤ 3
    · rw [decide_eq_true hs, decide_eq_true (by omega)]
    · rw [decide_eq_false hs, decide_eq_false (by omega)]
  unfold ref04May mayV
  unfold ref04May.j2
  rw [bits_bind fu h', bits_bind fu h']
  simp only [ref04May.j3, ref04May.j4, q1, q2, q3, q4, q5]
  cases decide (k ≤ 3) <;> cases decide (s.length ≤ 255) <;> cases decide (i = 0) <;> cases decide (x = 0) <;> cases decide (s = []) <;> cases decide (k = 1) <;> cases decide (k = 2) <;> cases decide (k = 3) <;> rfl
abbrev Ev : Type := Int × List Va × Unit
def mayE (e : Ev) : Bool := decide (e.2.1.length ≤ 8) && e.2.1.all mayV
def evOk (e : Ev) : Prop := (0 ≤ e.1 ∧ e.1 ≤ 255) ∧ ∀ v ∈ e.2.1, vaOk v
theorem ixV {l : List Va} {i : Nat} (h : i < l.length) : ixL ((0 : Int), (0 : Int), (0 : Nat), ([] : List Int), ()) l i = l[i] := by
  unfold ixL
  simp [List.getElem?_eq_getElem h]
theorem index_rounds (fu : Nat) (k1 : Int → Option ((Int × Unit) × (Unit))) (k2 : Unit → Option ((Int × Unit) × (Unit))) (l : List Va) (hv : ∀ v ∈ l, vaOk v) (hl : l.length ≤ 1000) : ∀ (k m i : Nat), i + k = l.length → k < m →
    ((l.drop i).all mayV = true → slicesIndexFuncF70.l2 fu k1 k2 m l l.length i = k2 ()) ∧ ((l.drop i).all mayV = false → ∃ j : Nat, slicesIndexFuncF70.l2 fu k1 k2 m l l.length i = k1 j) := by
  intro k
  induction k with
  | zero =>
    intro m i h1 h2
    obtain ⟨m, rfl⟩ : ∃ j, m = j + 1 := ⟨m - 1, by omega⟩
    rw [List.drop_eq_nil_of_le (by omega)]
    refine ⟨fun _ => ?_, fun h => absurd h (by decide)⟩
    unfold slicesIndexFuncF70.l2 slicesIndexFuncF70.b2
    rw [decide_eq_false (by omega), cond_false]
  | succ k ih =>
    intro m i h1 h2
    obtain ⟨m, rfl⟩ : ∃ j, m = j + 1 := ⟨m - 1, by omega⟩
    have hi : i < l.length := by omega
    have e1 : IntKind.i64.wrap ((i : Int) + 1) = ((i + 1 : Nat) : Int) := wrap_i64 (by omega) (by omega)
    have := ih m (i + 1) (by omega) (by omega)
    rw [drop_one hi]
    unfold slicesIndexFuncF70.l2 slicesIndexFuncF70.b2 eventMay1
    rw [decide_eq_true (by omega), cond_true, ixOkN hi, ixV hi]
    simp only [valueMay_eq fu _ (hv _ (List.getElem_mem hi)).2.2.1, chk, cond_true, Option.bind_some, e1, List.all_cons]
    cases hm : mayV l[i] with
    | true => simpa using this
    | false => simp only [Bool.false_and, Bool.not_false, cond_true]; exact ⟨fun h => (nomatch h), fun _ => ⟨i, rfl⟩⟩
theorem mayE_eq (fu : Nat) (hfu : 10 ≤ fu) (e : Ev) (he : evOk e) : eventMay fu e = some (mayE e, ()) := by
  unfold eventMay mayE
  by_cases hl : e.2.1.length ≤ 8
  · have := index_rounds fu (fun vq3 => some ((vq3, ()), (()))) (fun _ => some (((-1 : Int), ()), (()))) e.2.1 he.2 (by omega) e.2.1.length fu 0 (by omega) (by omega)
    rw [List.drop_zero] at this
    unfold slicesContainsFuncF48 slicesIndexFuncF70
    simp only [decide_eq_true (show (e.2.1.length : Int) ≤ 8 by omega), decide_eq_true hl, cond_true, Bool.true_and]
    cases hm : e.2.1.all mayV with
    | true =>
      rw [show ((0 : Int)) = ((0 : Nat) : Int) from rfl]
      rw [this.1 hm]; rfl
    | false =>
      obtain ⟨j, hj⟩ := this.2 hm
      rw [show ((0 : Int)) = ((0 : Nat) : Int) from rfl]
      rw [hj]
      simp only [Option.bind_some, decide_eq_true (show (j : Int) ≥ ((0 : Nat) : Int) by omega), Bool.not_true]
  · simp only [decide_eq_false (show ¬ (e.2.1.length : Int) ≤ 8 by omega), decide_eq_false hl, cond_false, Bool.false_and]
theorem ixI {l : List Int} {i : Nat} (h : i < l.length) : ixL (0 : Int) l (i : Int) = l[i] := by
  unfold ixL
  simp [List.getD, h]
theorem texts_rounds (fu : Nat) (a b : List Int) (ha : a.length ≤ 300) : ∀ (m i : Nat), a.length < m + i → i ≤ a.length → i ≤ b.length → ref04Texts.l2 fu (fun vq3 => some (vq3, ())) (fun aq4 bq4 =>
      let t1 := decide ((aq4.length : Int) < (bq4.length : Int))
      cond t1 (some ((-1 : Int), ())) (
        let t2 := decide ((aq4.length : Int) > (bq4.length : Int))
        cond t2 (some ((1 : Int), ())) (some ((0 : Int), ())))) m a b (i : Int) = some (cmpL (a.drop i) (b.drop i), ())
  | 0, i, h, h1, _ => by omega
  | m + 1, i, h, h1, h2 => by
    unfold ref04Texts.l2 ref04Texts.b2
    by_cases ha' : i < a.length
    · rw [decide_eq_true (show (i : Int) < (a.length : Int) by omega), cond_true]
      by_cases hb : i < b.length
      · simp only [decide_eq_true (show (i : Int) < (b.length : Int) by omega), cond_true, ixOkN ha', ixOkN hb, chk, ixI ha', ixI hb]
        rw [List.drop_eq_getElem_cons ha', List.drop_eq_getElem_cons hb]
        unfold cmpL
        by_cases x1 : a[i] < b[i]
        · rw [decide_eq_true x1, if_pos x1]; rfl
        · rw [decide_eq_false x1, if_neg x1, cond_false]
          by_cases x2 : b[i] < a[i]
          · rw [decide_eq_true (show a[i] > b[i] from x2), if_pos x2]; rfl
          · rw [decide_eq_false (show ¬ a[i] > b[i] from x2), if_neg x2, cond_false]
            have e1 : IntKind.i64.wrap ((i : Int) + 1) = ((i + 1 : Nat) : Int) := wrap_i64 (by omega) (by omega)
            rw [e1]
            exact texts_rounds fu a b ha m (i + 1) (by omega) (by omega) (by omega)
      · rw [decide_eq_false (show ¬ (i : Int) < (b.length : Int) by omega), cond_false]
        have e2 : b.drop i = [] := List.drop_eq_nil_of_le (by omega)
        rw [e2, List.drop_eq_getElem_cons ha']
        simp only [decide_eq_false (show ¬ (a.length : Int) < (b.length : Int) by omega), cond_false, decide_eq_true (show (a.length : Int) > (b.length : Int) by omega), cond_true]
        rfl
    · rw [decide_eq_false (show ¬ (i : Int) < (a.length : Int) by omega), cond_false]
      have e2 : a.drop i = [] := List.drop_eq_nil_of_le (by omega)
      rw [e2]
      by_cases hb : i < b.length
      · rw [List.drop_eq_getElem_cons hb]
        simp only [decide_eq_true (show (a.length : Int) < (b.length : Int) by omega), cond_true]
        rfl
      · have e3 : b.drop i = [] := List.drop_eq_nil_of_le (by omega)
        rw [e3]
        simp only [decide_eq_false (show ¬ (a.length : Int) < (b.length : Int) by omega), cond_false, decide_eq_false (show ¬ (a.length : Int) > (b.length : Int) by omega)]
        rfl
theorem refTexts_eq (fu : Nat) (hfu : 3000 ≤ fu) (a b : List Int) (ha : a.length ≤ 255) : ref04Texts fu a b = some (cmpL a b, ()) := by
  unfold ref04Texts
  exact texts_rounds fu a b (by omega) fu 0 (by omega) (by omega) (by omega)
theorem may_kind {v : Va} (h : mayV v = true) : v.1 ≤ 3 ∧ v.2.2.2.1.length ≤ 255 := by
  unfold mayV at h
  simp only [Bool.and_eq_true, decide_eq_true_eq] at h
  exact ⟨h.1.1.1.1, h.2⟩
theorem refOf_bind {β : Type} (fu : Nat) {x : Nat} (h : F64 x) (K : Sp0 × Unit → Option β) : (ref02Of fu x).bind K = K (parts x, ()) := by
  have : ref02Of fu x = some (parts x, ()) := by
    unfold ref02Of
    rw [bits_bind fu h]
    show ((ref02OfBits fu (x : Int)).bind fun r2 => some (r2.1, ())) = _
    rw [ofBits_eq fu h]; rfl
  rw [this]; rfl
theorem comp_nv (x y : Nat) : ((comp x y).1, (comp x y).2, ()) = if isNan x ∨ isNan y then ((0 : Int), false, ()) else (ord3 (nv x) (nv y), true, ()) := by
  have h1 := compare_eq 0 x y
  rw [realCompare_eq] at h1
  exact (Option.some.inj h1).symm
theorem refCompareV_eq (fu : Nat) (hfu : 3000 ≤ fu) (a b : Va) (ha : vaFit a) (hb : vaFit b) (h0 : 0 ≤ a.1 ∧ 0 ≤ b.1) : ref04Compare fu a b = some ((cmpV a b).1, (cmpV a b).2, ()) := by
  unfold ref04Compare cmpV
  rw [refMay_eq fu a ha.2]
  simp only [Option.bind_some]
  by_cases ma : mayV a = true
  · rw [refMay_eq fu b hb.2]
    simp only [ma, Bool.not_true, cond_false, Option.bind_some, true_and]
    by_cases mb : mayV b = true
    · obtain ⟨ka, la⟩ := may_kind ma
      obtain ⟨kb, lb⟩ := may_kind mb
      obtain ⟨p0, q0⟩ := h0
      simp only [mb, Bool.not_true, cond_false, if_true]
      unfold numb plc
      have hka : a.1 = 0 ∨ a.1 = 1 ∨ a.1 = 2 ∨ a.1 = 3 := by omega
      have hkb : b.1 = 0 ∨ b.1 = 1 ∨ b.1 = 2 ∨ b.1 = 3 := by omega
      have ord : ∀ x y : Int, (cond (decide (x < y)) (some ((-1 : Int), true, ())) (cond (decide (x > y)) (some ((1 : Int), true, ())) (some ((0 : Int), true, ())))) = some (ord3 (x * UN) (y * UN), true, ()) := fun x y => by
        have ho : ord3 (x * UN) (y * UN) = ord3 x y := ord3_of mul_lt_UN mul_lt_UN
        rw [ho]
        unfold ord3
        by_cases x1 : x < y
        · rw [decide_eq_true x1, if_pos x1]; rfl
        · rw [decide_eq_false x1, if_neg x1]
          by_cases x2 : y < x
          · rw [decide_eq_true (show x > y from x2), if_pos x2]; rfl
          · rw [decide_eq_false (show ¬ x > y from x2), if_neg x2]; rfl
      rcases hka with e | e | e | e <;> rcases hkb with f | f | f | f <;> simp only [e, f, ref04Compare.j51006, ref04Compare.j7]
      all_goals first
        | rfl
        | exact ord _ _
        | (simp; done)
        | skip
      · -- a whole number, a real one
        show ((ref02Of fu b.2.2.1).bind fun r1 => (ref02Against fu a.2.1 r1.1).bind fun r2 => some (r2.1, r2.2.1, ())) = _
        rw [refOf_bind fu hb.2]
        show ((ref02Against fu a.2.1 (parts b.2.2.1)).bind fun r2 => some (r2.1, r2.2.1, ())) = _
        rw [refAgainst_eq fu hfu _ _ hb.2]
        by_cases hn : isNan b.2.2.1
        · have : ag a.2.1 b.2.2.1 = (0, false) := by unfold ag; rw [if_pos hn]
          simp [this, hn]
        · rw [ag_ord _ ha.1 _ hn]
          simp [hn]
      · -- a real number, a whole one
        show ((ref02Of fu a.2.2.1).bind fun r1 => (ref02Against fu b.2.1 r1.1).bind fun r2 => some (IntKind.i64.wrap (0 - r2.1), r2.2.1, ())) = _
        rw [refOf_bind fu ha.2]
        show ((ref02Against fu b.2.1 (parts a.2.2.1)).bind fun r2 => some (IntKind.i64.wrap (0 - r2.1), r2.2.1, ())) = _
        rw [refAgainst_eq fu hfu _ _ ha.2]
        by_cases hn : isNan a.2.2.1
        · have : ag b.2.1 a.2.2.1 = (0, false) := by unfold ag; rw [if_pos hn]
          simp [this, hn]
          rfl
        · rw [ag_ord _ hb.1 _ hn]
          have e : IntKind.i64.wrap (0 - ord3 (b.2.1 * UN) (nv a.2.2.1)) = ord3 (nv a.2.2.1) (b.2.1 * UN) := by
            have := ord3_in (b.2.1 * UN) (nv a.2.2.1)
            rw [ord3_neg (nv a.2.2.1), wrap_i64 (by omega) (by omega)]
            omega
          rw [Int.zero_sub] at e
          simp [e, hn]
      · -- two real ones
        show ((ref02Of fu a.2.2.1).bind fun r1 => (ref02Of fu b.2.2.1).bind fun r2 => (ref02Compare fu r1.1 r2.1).bind fun r3 => some (r3.1, r3.2.1, ())) = _
        rw [refOf_bind fu ha.2]
        show ((ref02Of fu b.2.2.1).bind fun r2 => (ref02Compare fu (parts a.2.2.1) r2.1).bind fun r3 => some (r3.1, r3.2.1, ())) = _
        rw [refOf_bind fu hb.2]
        show ((ref02Compare fu (parts a.2.2.1) (parts b.2.2.1)).bind fun r3 => some (r3.1, r3.2.1, ())) = _
        rw [refCompare_eq]
        show some ((comp a.2.2.1 b.2.2.1).1, (comp a.2.2.1 b.2.2.1).2, ()) = _
        rw [comp_nv]
        by_cases hn : isNan a.2.2.1
        · simp [hn]
        · by_cases hm : isNan b.2.2.1
          · simp [hn, hm]
          · simp [hn, hm]
      · -- two texts
        show ((ref04Texts fu a.2.2.2.1 b.2.2.2.1).bind fun r4 => some (r4.1, true, ())) = _
        rw [refTexts_eq fu hfu _ _ la]; rfl
    · have mb' : mayV b = false := by simpa using mb
      simp [mb']
  · have ma' : mayV a = false := by simpa using ma
    simp [ma']
def teFit (t : Te) : Prop := (0 ≤ t.1 ∧ t.1 ≤ 255) ∧ (0 ≤ t.2.1 ∧ t.2.1 ≤ 255) ∧ vaFit t.2.2.1 ∧ 0 ≤ t.2.2.1.1
def rightT (t : Te) : Bool := mayV t.2.2.1 && (if t.2.1 = 7 then decide (t.2.2.1.1 = 0) else if t.2.1 = 8 then decide (t.2.2.1.1 = 3) else decide (1 ≤ t.2.1) && (decide (t.2.1 ≤ 6) && !decide (t.2.2.1.1 = 0)))
theorem beq_dec (x y : Int) : (x == y) = decide (x = y) := rfl
theorem bne_dec' (x y : Int) : (x != y) = !decide (x = y) := rfl
theorem predRight_eq (fu : Nat) (t : Te) (h : teFit t) : predRight fu t = some (rightT t, ()) := by
  unfold predRight rightT
  rw [valueMay_eq fu _ h.2.2.1.2]
  simp only [Option.bind_some, beq_dec, bne_dec']
  cases mayV t.2.2.1 with
  | false => rfl
  | true =>
    simp only [Bool.not_true, cond_false, Bool.true_and]
    by_cases h7 : t.2.1 = 7
    · simp [h7]
    · by_cases h8 : t.2.1 = 8
      · simp [h8]
      · simp only [decide_eq_false h7, decide_eq_false h8, if_neg h7, if_neg h8, cond_false]
        by_cases h1 : 1 ≤ t.2.1
        · rw [decide_eq_true (show t.2.1 ≥ 1 from h1)]
          by_cases h6 : t.2.1 ≤ 6
          · rw [decide_eq_true h6]; rfl
          · rw [decide_eq_false h6]; rfl
        · rw [decide_eq_false (show ¬ t.2.1 ≥ 1 from h1)]; rfl
theorem index10_rounds (fu : Nat) (k1 : Int → Option ((Int × Unit) × (Unit))) (k2 : Unit → Option ((Int × Unit) × (Unit))) (l : List Te) (hv : ∀ v ∈ l, teFit v) (hl : l.length ≤ 1000) : ∀ (k m i : Nat), i + k = l.length → k < m →
    ((l.drop i).all rightT = true → slicesIndexFunc.l2 fu k1 k2 m l l.length i = k2 ()) ∧ ((l.drop i).all rightT = false → ∃ j : Nat, slicesIndexFunc.l2 fu k1 k2 m l l.length i = k1 j) := by
  intro k
  induction k with
  | zero =>
    intro m i h1 h2
    obtain ⟨m, rfl⟩ : ∃ j, m = j + 1 := ⟨m - 1, by omega⟩
    rw [List.drop_eq_nil_of_le (by omega)]
    refine ⟨fun _ => ?_, fun h => absurd h (by decide)⟩
    unfold slicesIndexFunc.l2 slicesIndexFunc.b2
    rw [decide_eq_false (by omega), cond_false]
  | succ k ih =>
    intro m i h1 h2
    obtain ⟨m, rfl⟩ : ∃ j, m = j + 1 := ⟨m - 1, by omega⟩
    have hi : i < l.length := by omega
    have e1 : IntKind.i64.wrap ((i : Int) + 1) = ((i + 1 : Nat) : Int) := wrap_i64 (by omega) (by omega)
    have := ih m (i + 1) (by omega) (by omega)
    rw [drop_one hi]
    unfold slicesIndexFunc.l2 slicesIndexFunc.b2 predMay1
    rw [decide_eq_true (by omega), cond_true, ixOkN hi, ixT hi]
    simp only [predRight_eq fu _ (hv _ (List.getElem_mem hi)), chk, cond_true, Option.bind_some, e1, List.all_cons]
    cases hm : rightT l[i] with
    | true => simpa using this
    | false => simp only [Bool.false_and, Bool.not_false, cond_true]; exact ⟨fun h => (nomatch h), fun _ => ⟨i, rfl⟩⟩
def pdFit (p : Pd) : Prop := ∀ t ∈ p.2.2.1, teFit t
def mayP (p : Pd) : Bool := !(p.1 && !decide (p.2.1 = 0)) && (decide (p.2.2.1.length ≤ 4) && p.2.2.1.all rightT)
theorem contains10_eq (fu : Nat) (l : List Te) (hv : ∀ v ∈ l, teFit v) (hl : l.length ≤ 1000) (hfu : l.length < fu) : slicesContainsFunc fu l = some ((!(l.all rightT), ()), ()) := by
  have := index10_rounds fu (fun vq3 => some ((vq3, ()), (()))) (fun _ => some (((-1 : Int), ()), (()))) l hv hl l.length fu 0 (by omega) (by omega)
  rw [List.drop_zero] at this
  unfold slicesContainsFunc slicesIndexFunc
  rw [show ((0 : Int)) = ((0 : Nat) : Int) from rfl]
  cases hm : l.all rightT with
  | true => rw [this.1 hm]; rfl
  | false =>
    obtain ⟨j, hj⟩ := this.2 hm
    rw [hj]
    simp only [Option.bind_some, decide_eq_true (show (j : Int) ≥ ((0 : Nat) : Int) by omega), Bool.not_false]
theorem predMay_eq (fu : Nat) (hfu : 10 ≤ fu) (p : Pd) (hp : pdFit p) : predMay fu p = some (mayP p, ()) := by
  unfold predMay mayP
  have tail : (cond (decide ((p.2.2.1.length : Int) > 4)) (some (false, ())) ((slicesContainsFunc fu p.2.2.1).bind fun r2 => some (!r2.1.1, ()))) = some (decide (p.2.2.1.length ≤ 4) && p.2.2.1.all rightT, ()) := by
    by_cases h : p.2.2.1.length ≤ 4
    · rw [decide_eq_false (show ¬ (p.2.2.1.length : Int) > 4 by omega), decide_eq_true h, contains10_eq fu _ hp (by omega) (by omega)]
      simp
    · rw [decide_eq_true (show (p.2.2.1.length : Int) > 4 by omega), decide_eq_false h]; rfl
  simp only [bne_dec', tail]
  cases p.1 with
  | false => rfl
  | true =>
    by_cases h : p.2.1 = 0
    · simp [h]
    · simp [h]
def opHolds (op c : Int) : Bool := if op = 1 then decide (c = 0) else if op = 2 then !decide (c = 0) else if op = 3 then decide (c < 0) else if op = 4 then decide (c ≤ 0) else if op = 5 then decide (c > 0) else decide (c ≥ 0)
def begins (s t : List Int) : Bool := decide (t.length ≤ s.length) && (s.take t.length == t)
def at0 (l : List Va) (i : Int) : Va := ixL ((0 : Int), (0 : Int), (0 : Nat), ([] : List Int), ()) l i
def holdsT (t : Te) (l : List Va) : Bool :=
  decide (t.1 < l.length) && (if t.2.1 = 7 then !decide ((at0 l t.1).1 = 0) else if t.2.1 = 8 then decide ((at0 l t.1).1 = 3) && begins (at0 l t.1).2.2.2.1 t.2.2.1.2.2.2.1 else (cmpV (at0 l t.1) t.2.2.1).2 && opHolds t.2.1 (cmpV (at0 l t.1) t.2.2.1).1)
theorem at0_mem {l : List Va} {i : Int} (h0 : 0 ≤ i) (h1 : i < l.length) : at0 l i ∈ l := by
  obtain ⟨n, rfl⟩ : ∃ n : Nat, i = n := ⟨i.toNat, by omega⟩
  have hn : n < l.length := by omega
  unfold at0
  rw [ixV hn]
  exact List.getElem_mem hn
theorem cutTake (s : List Int) (n : Nat) : cutL s 0 (n : Int) = s.take n := by
  unfold cutL
  simp
theorem hasPrefix_eq (fu : Nat) (s t : List Int) : stringsHasPrefix fu s t = some (begins s t, ()) := by
  unfold stringsHasPrefix stringsliteHasPrefix begins
  by_cases h : t.length ≤ s.length
  · have hc : cutOk s 0 (t.length : Int) = true := by unfold cutOk; simp; omega
    simp only [decide_eq_true (show (s.length : Int) ≥ (t.length : Int) by omega), decide_eq_true h, cond_true, hc, chk, Option.bind_some, cutTake, Bool.true_and]
  · simp only [decide_eq_false (show ¬ (s.length : Int) ≥ (t.length : Int) by omega), decide_eq_false h, cond_false, Option.bind_some, Bool.false_and]
theorem says_eq (op c : Int) (h1 : 1 ≤ op) (h2 : op ≤ 6) (hc : c = -1 ∨ c = 0 ∨ c = 1) : (chk (ixArr 7 op) <| chk (ixArr 3 (IntKind.i64.wrap (c + 1))) <| some (ixL false (ixL (List.replicate 3 false) tabPredSays op) (IntKind.i64.wrap (c + 1)), ())) = some (opHolds op c, ()) := by
  have : op = 1 ∨ op = 2 ∨ op = 3 ∨ op = 4 ∨ op = 5 ∨ op = 6 := by omega
  rcases this with rfl | rfl | rfl | rfl | rfl | rfl <;> rcases hc with rfl | rfl | rfl <;> rfl
theorem holds1_eq (fu : Nat) (t : Te) (l : List Va) (ht : teFit t) (hr : rightT t = true) (hl : ∀ v ∈ l, vaFit v ∧ 0 ≤ v.1) (hn : l.length ≤ 1000) : predHoldsF28 fu t l = some (holdsT t l, ()) := by
  unfold predHoldsF28 holdsT
  have hw : IntKind.i64.wrap t.1 = t.1 := wrap_i64 (by have := ht.1; omega) (by have := ht.1; omega)
  by_cases h : t.1 < l.length
  · have hx : ixOk l t.1 = true := by unfold ixOk; rw [decide_eq_true ht.1.1, decide_eq_true h]; rfl
    have hm := hl _ (at0_mem ht.1.1 h)
    simp only [hw, decide_eq_false (show ¬ t.1 ≥ (l.length : Int) by omega), decide_eq_true h, cond_false, hx, chk, cond_true, Bool.true_and, beq_dec, bne_dec']
    show (cond (decide (t.2.1 = 7)) (some (!decide ((at0 l t.1).1 = 0), ())) (cond (decide (t.2.1 = 8)) (cond (decide ((at0 l t.1).1 = 3)) ((stringsHasPrefix fu (at0 l t.1).2.2.2.1 t.2.2.1.2.2.2.1).bind fun r3 => some (r3.1, ())) (some (false, ()))) ((valueCompare fu (at0 l t.1) t.2.2.1).bind fun r4 => cond r4.2.1 (chk (ixArr 7 t.2.1) <| chk (ixArr 3 (IntKind.i64.wrap (r4.1 + 1))) <| some (ixL false (ixL (List.replicate 3 false) tabPredSays t.2.1) (IntKind.i64.wrap (r4.1 + 1)), ())) (some (false, ()))))) = _
    by_cases h7 : t.2.1 = 7
    · simp [h7]
    · by_cases h8 : t.2.1 = 8
      · simp only [decide_eq_false h7, decide_eq_true h8, if_neg h7, if_pos h8, cond_false, cond_true, hasPrefix_eq, Option.bind_some]
        cases decide ((at0 l t.1).1 = 3) <;> rfl
      · have hop : 1 ≤ t.2.1 ∧ t.2.1 ≤ 6 := by
          unfold rightT at hr
          rw [if_neg h7, if_neg h8] at hr
          simp only [Bool.and_eq_true, decide_eq_true_eq] at hr
          exact ⟨hr.2.1, hr.2.2.1⟩
        simp only [decide_eq_false h7, decide_eq_false h8, if_neg h7, if_neg h8, cond_false, compareV_eq fu _ _ hm.1 ht.2.2.1, Option.bind_some, says_eq _ _ hop.1 hop.2 (cmpV_in (at0 l t.1) t.2.2.1)]
        cases (cmpV (at0 l t.1) t.2.2.1).2 <;> rfl
  · simp only [hw, decide_eq_true (show t.1 ≥ (l.length : Int) by omega), decide_eq_false h, cond_true, Bool.false_and]
def evFit (e : Ev) : Prop := ∀ v ∈ e.2.1, vaFit v ∧ 0 ≤ v.1
theorem holds_rounds (fu : Nat) (k1 : Bool → Option (Bool × Unit)) (k2 : Unit → Option (Bool × Unit)) (l : List Te) (e : Ev) (hv : ∀ t ∈ l, teFit t ∧ rightT t = true) (he : evFit e) (hn : e.2.1.length ≤ 1000) (hl : l.length ≤ 1000) : ∀ (k m i : Nat), i + k = l.length → k < m →
    predHolds.l4 fu k1 k2 m l l.length i e = if (l.drop i).all (fun t => holdsT t e.2.1) = true then k2 () else k1 false := by
  intro k
  induction k with
  | zero =>
    intro m i h1 h2
    obtain ⟨m, rfl⟩ : ∃ j, m = j + 1 := ⟨m - 1, by omega⟩
    rw [List.drop_eq_nil_of_le (by omega)]
    unfold predHolds.l4 predHolds.b4
    rw [decide_eq_false (by omega), cond_false]
    rfl
  | succ k ih =>
    intro m i h1 h2
    obtain ⟨m, rfl⟩ : ∃ j, m = j + 1 := ⟨m - 1, by omega⟩
    have hi : i < l.length := by omega
    have e1 : IntKind.i64.wrap ((i : Int) + 1) = ((i + 1 : Nat) : Int) := wrap_i64 (by omega) (by omega)
    have := ih m (i + 1) (by omega) (by omega)
    obtain ⟨q1, q2⟩ := hv _ (List.getElem_mem hi)
    rw [drop_one hi]
    unfold predHolds.l4 predHolds.b4
    rw [decide_eq_true (by omega), cond_true, ixOkN hi, ixT hi]
    simp only [holds1_eq fu _ _ q1 q2 he hn, chk, cond_true, Option.bind_some, e1, List.all_cons]
    by_cases hm : holdsT l[i] e.2.1 = true
    · simp only [hm, Bool.not_true, cond_false, Bool.true_and]; exact this
    · have hm' : holdsT l[i] e.2.1 = false := by simpa using hm
      simp [hm']
def holdsP (p : Pd) (e : Ev) : Bool := mayP p && (mayE e && ((p.1 || decide (p.2.1 = e.1)) && p.2.2.1.all fun t => holdsT t e.2.1))
theorem mayP_all {p : Pd} (h : mayP p = true) : p.2.2.1.length ≤ 4 ∧ ∀ t ∈ p.2.2.1, rightT t = true := by
  unfold mayP at h
  simp only [Bool.and_eq_true, decide_eq_true_eq] at h
  exact ⟨h.2.1, List.all_eq_true.1 h.2.2⟩
theorem predHolds_eq (fu : Nat) (hfu : 50 ≤ fu) (p : Pd) (e : Ev) (hp : pdFit p) (he : evOk e) (hn : e.2.1.length ≤ 30) : predHolds fu p e = some (holdsP p e, ()) := by
  have hef : evFit e := fun v hv => by
    have := he.2 v hv
    exact ⟨⟨⟨this.2.1.1, by have := this.2.1.2; omega⟩, this.2.2.1⟩, this.1.1⟩
  unfold predHolds holdsP
  rw [predMay_eq fu (by omega) p hp]
  simp only [Option.bind_some]
  cases hm : mayP p with
  | false => rfl
  | true =>
    obtain ⟨m1, m2⟩ := mayP_all hm
    rw [mayE_eq fu (by omega) e he]
    simp only [Bool.not_true, cond_false, Option.bind_some, Bool.true_and]
    cases hq : mayE e with
    | false => rfl
    | true =>
      have key := holds_rounds fu (fun vq5 => some (vq5, ())) (fun _ => some (true, ())) p.2.2.1 e (fun t ht => ⟨hp t ht, m2 t ht⟩) hef (by omega) (by omega) p.2.2.1.length fu 0 (by omega) (by omega)
      rw [List.drop_zero] at key
      have key : predHolds.j3 fu (fun vq1 => some (vq1, ())) p e = some (p.2.2.1.all (fun t => holdsT t e.2.1), ()) := by
        refine Eq.trans key ?_
        cases p.2.2.1.all (fun t => holdsT t e.2.1) <;> rfl
      simp only [Bool.not_true, cond_false, Bool.true_and, key, bne_dec']
      cases p.1 with
      | true => rfl
      | false => cases decide (p.2.1 = e.1) <;> rfl
/-! ### Seven questions of one field -/
def qP (op : Int) (w : Va) : Pd := (true, 0, [(0, op, w, ())], ())
def qE (v : Va) : Ev := (0, [v], ())
def H3 (v w : Va) (op : Int) : Bool := holdsP (qP op w) (qE v)
theorem H3_eq (v w : Va) {op : Int} (h0 : 0 ≤ op) (h6 : op ≤ 6) : H3 v w op = (mayV w && (decide (1 ≤ op) && !decide (w.1 = 0)) && (mayV v && ((cmpV v w).2 && opHolds op (cmpV v w).1))) := by
  unfold H3 holdsP mayP mayE
  have r1 : rightT (0, op, w, ()) = (mayV w && (decide (1 ≤ op) && !decide (w.1 = 0))) := by
    unfold rightT
    show (mayV w && (if op = 7 then _ else if op = 8 then _ else decide (1 ≤ op) && (decide (op ≤ 6) && !decide (w.1 = 0)))) = _
    rw [if_neg (by omega), if_neg (by omega), decide_eq_true h6, Bool.true_and]
  have r2 : holdsT (0, op, w, ()) [v] = ((cmpV v w).2 && opHolds op (cmpV v w).1) := by
    unfold holdsT
    show (decide ((0 : Int) < (([v] : List Va).length : Int)) && (if op = 7 then _ else if op = 8 then _ else (cmpV v w).2 && opHolds op (cmpV v w).1)) = _
    rw [if_neg (by omega), if_neg (by omega), decide_eq_true (by simp), Bool.true_and]
  unfold qP qE
  simp only [List.all_cons, List.all_nil, Bool.and_true, r1, r2, List.length_cons, List.length_nil]
  simp
theorem cmp_may {v w : Va} (h : (cmpV v w).2 = true) : mayV v = true ∧ mayV w = true ∧ w.1 ≠ 0 := by
  unfold cmpV at h
  split at h
  · rename_i hm
    refine ⟨hm.1, hm.2, ?_⟩
    split at h
    · rename_i h3; omega
    · split at h
      · rename_i hn
        have := hn.2
        unfold numb at this
        intro h0
        rw [h0] at this
        simp at this
      · cases h
  · cases h
theorem three_step (fu : Nat) k2 (v w : Va) (hp : ∀ op : Int, 0 ≤ op → op ≤ 6 → predHolds fu (qP op w) (qE v) = some (H3 v w op, ())) (m : Nat) (n : Int) (i : Nat) (hi : i < 7) (l : List Bool) (hl : l.length = 7) :
    law10PredThree.l7 fu k2 (m + 1) n i v w l = law10PredThree.l7 fu k2 m (cond (H3 v w i) (IntKind.i64.wrap (n + 1)) n) ((i + 1 : Nat) : Int) v w (l.set i (H3 v w i)) := by
  have e1 : ixArr 7 (i : Int) = true := by unfold ixArr; simp; omega
  have e2 : nOk l 7 = true := by unfold nOk; rw [hl]; rfl
  have e3 : nOk (l.set i (H3 v w i)) 7 = true := by unfold nOk; rw [List.length_set, hl]; rfl
  have e4 : IntKind.u8.wrap ((i : Int) + 1) = ((i + 1 : Nat) : Int) := by rw [wrap_u8 (by omega) (by omega)]; omega
  have e5 : ixL false (l.set i (H3 v w i)) (i : Int) = H3 v w i := by
    unfold ixL
    rw [Int.toNat_natCast]
    simp [hl, hi]
  have e6 : stL l (i : Int) (H3 v w i) = l.set i (H3 v w i) := by unfold stL; rw [Int.toNat_natCast]
  have hq := hp i (by omega) (by omega)
  unfold qP qE at hq
  conv => lhs; unfold law10PredThree.l7 law10PredThree.b7
  rw [decide_eq_true (show (i : Int) < 7 by omega), cond_true, hq]
  simp only [Option.bind_some, e1, e2, e3, e4, e5, chk, cond_true, e6]
  cases H3 v w i <;> rfl
theorem raw4_ok {x : Rw} (h : (Kd.struct [(.int .u8), (.int .i64), (.int .u64), .str]).ok x) : vaOk (rawV x) ∧ 0 ≤ x.1 := by
  obtain ⟨v1, v2, v3, v4, -⟩ := h
  have v1 : 0 ≤ x.1 ∧ x.1 < 256 := u8Of v1
  have v2 := i64Of v2
  have v3 : 0 ≤ x.2.2.1 ∧ x.2.2.1 < 18446744073709551616 := u64Of v3
  exact ⟨⟨⟨v1.1, by show x.1 ≤ 255; omega⟩, v2, by show x.2.2.1.toNat < _; omega, fun c hc => v4.2 c hc⟩, v1.1⟩
/-- THE LAW. -/
theorem lawPredThree (x y : Rw) (h : okAll law10PredThree.con.ps (x, y, ())) : law10PredThree 5100 x y = some (true, ()) := by
  have hf : law10Fixed 5100 = some (true, ()) := fixed10 5000
  obtain ⟨hv, hv0⟩ := raw4_ok h.1
  obtain ⟨hw, hw0⟩ := raw4_ok h.2.1
  have fv := raw_fit h.1
  have fw := raw_fit h.2.1
  unfold law10PredThree
  rw [twice_eq]
  simp only [raw_eq, hf, Option.bind_some]
  have key : law10PredThree.j4 5100 (fun vq1 => some (vq1, ())) (rawV x) (rawV y) = some (true, ()) := by
    have hv0 : 0 ≤ (rawV x).1 := hv0
    have hw0 : 0 ≤ (rawV y).1 := hw0
    generalize rawV x = v at *
    generalize rawV y = w at *
    have hp : ∀ op : Int, 0 ≤ op → op ≤ 6 → predHolds 5100 (qP op w) (qE v) = some (H3 v w op, ()) := fun op h0 h6 =>
      predHolds_eq 5100 (by omega) (qP op w) (qE v) (fun t ht => by
        obtain rfl := List.mem_singleton.1 (show t ∈ [((0 : Int), op, w, ())] from ht)
        exact ⟨⟨by show (0 : Int) ≤ 0; omega, by show (0 : Int) ≤ 255; omega⟩, ⟨h0, by show op ≤ 255; omega⟩, fw, hw0⟩) ⟨⟨by show (0 : Int) ≤ 0; omega, by show (0 : Int) ≤ 255; omega⟩, fun u hu => by
        obtain rfl := List.mem_singleton.1 (show u ∈ [v] from hu)
        exact hv⟩ (by show 1 ≤ 30; omega)
    unfold law10PredThree.j4
    refine (three_step 5100 _ v w hp 5099 0 0 (by omega) _ rfl).trans ?_
    refine (three_step 5100 _ v w hp 5098 _ 1 (by omega) _ rfl).trans ?_
    refine (three_step 5100 _ v w hp 5097 _ 2 (by omega) _ rfl).trans ?_
    refine (three_step 5100 _ v w hp 5096 _ 3 (by omega) _ rfl).trans ?_
    refine (three_step 5100 _ v w hp 5095 _ 4 (by omega) _ rfl).trans ?_
    refine (three_step 5100 _ v w hp 5094 _ 5 (by omega) _ rfl).trans ?_
    refine (three_step 5100 _ v w hp 5093 _ 6 (by omega) _ rfl).trans ?_
    have hH : ∀ i : Nat, i ≤ 6 → H3 v w i = _ := fun i hi => H3_eq v w (op := i) (by omega) (by omega)
    have endl : ∀ k2 (n : Int) (l : List Bool), law10PredThree.l7 5100 k2 5093 n 7 v w l = k2 n v w l := fun k2 n l => rfl
    refine (endl _ _ _).trans ?_
    rw [refCompareV_eq 5100 (by omega) v w fv fw ⟨hv0, hw0⟩, hf]
    simp only [Option.bind_some, cond_true]
    rw [hH 0 (by omega), hH 1 (by omega), hH 2 (by omega), hH 3 (by omega), hH 4 (by omega), hH 5 (by omega), hH 6 (by omega)]
    cases hc : (cmpV v w).2 with
    | false =>
      simp only [Bool.false_and, Bool.and_false, cond_false, Bool.not_false, cond_true]
      rfl
    | true =>
      obtain ⟨m1, m2, m3⟩ := cmp_may hc
      rw [m1, m2, decide_eq_false m3]
      unfold law10PredThree.j18
      rw [hf]
      rcases cmpV_in v w with q | q | q <;> rw [q] <;> rfl
  rw [key]
  cases decide ((x.2.2.2.1.length : Int) > 2000) <;> cases decide ((y.2.2.2.1.length : Int) > 2000) <;> rfl

end Go.Shal.Pr
