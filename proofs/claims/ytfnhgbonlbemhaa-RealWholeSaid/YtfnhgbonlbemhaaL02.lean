/- The plain laws of the real numbers' order, row, steps, and how whole numbers stand to them. By an AI agent. -/
import Derived.Test.YtfnhgbonlbemhaaGen02
set_option linter.unusedVariables false
namespace Go.Shal.Pr
open Go Go.Shal Go.Proofs
theorem wrap_u64 {x : Int} (h0 : 0 ≤ x) (h1 : x < 18446744073709551616) : IntKind.u64.wrap x = x := by
  simp only [IntKind.wrap, IntKind.signed, IntKind.bits]
  simp
  omega
theorem wrap_i64 {x : Int} (h0 : -9223372036854775808 ≤ x) (h1 : x < 9223372036854775808) : IntKind.i64.wrap x = x := by
  simp only [IntKind.wrap, IntKind.signed, IntKind.bits]
  simp
  omega
/-! ### The order of floats, by their words -/
def rung (x : Nat) : Nat := x % 9223372036854775808
def sgn (x : Nat) : Bool := x / 9223372036854775808 % 2 == 1
def isNan (x : Nat) : Prop := rung x > 9218868437227405312
instance (x : Nat) : Decidable (isNan x) := inferInstanceAs (Decidable (_ > _))
/-- A number's size, as a whole number of the least one. -/
def mag (r : Nat) : Nat := if r < 4503599627370496 then r else (4503599627370496 + r % 4503599627370496) * 2 ^ (r / 4503599627370496 - 1)
def sg (s : Bool) (a : Nat) : Int := if s then -(a : Int) else (a : Int)
/-- A word's place in the row of all numbers; the two zeros have one. -/
def sk (x : Nat) : Int := sg (sgn x) (rung x)
theorem mag_mono {r q : Nat} (h : r < q) : mag r < mag q := by
  unfold mag
  by_cases h1 : q < 4503599627370496
  · rw [if_pos (by omega), if_pos h1]; exact h
  · rw [if_neg h1]
    have hq1 : 1 ≤ q / 4503599627370496 := by omega
    by_cases h2 : r < 4503599627370496
    · rw [if_pos h2]
      have : 1 ≤ 2 ^ (q / 4503599627370496 - 1) := Nat.one_le_two_pow
      have : (4503599627370496 + q % 4503599627370496) * 1 ≤ (4503599627370496 + q % 4503599627370496) * 2 ^ (q / 4503599627370496 - 1) := Nat.mul_le_mul_left _ this
      omega
    · rw [if_neg h2]
      rcases Nat.lt_or_ge (r / 4503599627370496) (q / 4503599627370496) with hd | hd
      · have e1 : (4503599627370496 + r % 4503599627370496) * 2 ^ (r / 4503599627370496 - 1) < 9007199254740992 * 2 ^ (r / 4503599627370496 - 1) := Nat.mul_lt_mul_of_pos_right (by omega) (Nat.two_pow_pos _)
        have e2 : 9007199254740992 * 2 ^ (r / 4503599627370496 - 1) = 4503599627370496 * 2 ^ (r / 4503599627370496) := by
          obtain ⟨e, he⟩ : ∃ e, r / 4503599627370496 = e + 1 := ⟨r / 4503599627370496 - 1, by omega⟩
          rw [he, Nat.add_sub_cancel, Nat.pow_succ]; omega
        have e3 : 4503599627370496 * 2 ^ (r / 4503599627370496) ≤ 4503599627370496 * 2 ^ (q / 4503599627370496 - 1) := Nat.mul_le_mul_left _ (Nat.pow_le_pow_right (by omega) (by omega))
        have e4 : 4503599627370496 * 2 ^ (q / 4503599627370496 - 1) ≤ (4503599627370496 + q % 4503599627370496) * 2 ^ (q / 4503599627370496 - 1) := Nat.mul_le_mul_right _ (by omega)
        omega
      · have hd2 : r / 4503599627370496 = q / 4503599627370496 := by omega
        rw [hd2]
        exact Nat.mul_lt_mul_of_pos_right (by omega) (Nat.two_pow_pos _)
theorem mag_zero : mag 0 = 0 := rfl
theorem cmp_of {a b c d : Int} (h1 : a < b ↔ c < d) (h2 : a = b ↔ c = d) : compare a b = compare c d := by
  show compareOfLessAndEq a b = compareOfLessAndEq c d
  unfold compareOfLessAndEq
  by_cases x1 : a < b
  · rw [if_pos x1, if_pos (h1.1 x1)]
  · rw [if_neg x1, if_neg (fun h => x1 (h1.2 h))]
    by_cases x2 : a = b
    · rw [if_pos x2, if_pos (h2.1 x2)]
    · rw [if_neg x2, if_neg (fun h => x2 (h2.2 h))]
theorem mag_cmp (s t : Bool) (r q : Nat) : compare (sg s (mag r)) (sg t (mag q)) = compare (sg s r) (sg t q) := by
  have pos : ∀ {r : Nat}, 0 < r → 0 < mag r := fun h => by have := mag_mono h; rw [mag_zero] at this; exact this
  have z : ∀ {r : Nat}, r = 0 → mag r = 0 := fun h => by rw [h]; rfl
  have pr := pos (r := r)
  have pq := pos (r := q)
  have zr := z (r := r)
  have zq := z (r := q)
  have lt1 : r < q → mag r < mag q := mag_mono
  have lt2 : q < r → mag q < mag r := mag_mono
  have eq : r = q → mag r = mag q := fun h => by rw [h]
  cases s <;> cases t <;> simp only [sg, Bool.false_eq_true, if_false, if_true] <;> refine cmp_of ?_ ?_ <;> omega
theorem cmp_scale (k : Nat) (a b : Int) : compare (a * 2 ^ k) (b * 2 ^ k) = compare a b := by
  have hp : (0 : Int) < 2 ^ k := Int.pow_pos (by decide)
  refine cmp_of ⟨fun h => ?_, fun h => Int.mul_lt_mul_of_pos_right h hp⟩ ⟨fun h => ?_, fun h => by rw [h]⟩
  · exact Int.lt_of_mul_lt_mul_right h (Int.le_of_lt hp)
  · exact Int.eq_of_mul_eq_mul_right (by omega) h
theorem signed_eq (s : Bool) (m u : Nat) : Ieee.signed s m u = sg s (m * 2 ^ u) := by
  unfold Ieee.signed sg
  rw [Nat.shiftLeft_eq]
theorem sg_mul (s : Bool) (a k : Nat) : sg s (a * 2 ^ k) = sg s a * 2 ^ k := by
  unfold sg
  cases s <;> simp [Int.neg_mul]
theorem num_order (s t : Bool) (m n k l : Nat) (L : Int) : (Ieee.Datum.number s m (L + k)).order (.number t n (L + l)) = some (compare (sg s (m * 2 ^ k)) (sg t (n * 2 ^ l))) := by
  show some (compare (Ieee.signed s m (L + k - min (L + k) (L + l)).toNat) (Ieee.signed t n (L + l - min (L + k) (L + l)).toNat)) = _
  congr 1
  rw [signed_eq, signed_eq]
  have e1 : (L + (k : Int) - min (L + k) (L + l)).toNat = k - min k l := by omega
  have e2 : (L + (l : Int) - min (L + k) (L + l)).toNat = l - min k l := by omega
  rw [e1, e2, ← cmp_scale (min k l), ← sg_mul, ← sg_mul, Nat.mul_assoc, Nat.mul_assoc, ← Nat.pow_add, ← Nat.pow_add, Nat.sub_add_cancel (Nat.min_le_left _ _), Nat.sub_add_cancel (Nat.min_le_right _ _)]
def LP64 : Int := Ieee.double.leastPlace
theorem read_num {x : Nat} (h : rung x < 9218868437227405312) : ∃ m k : Nat, Ieee.double.read x = .number (sgn x) m (LP64 + k) ∧ m * 2 ^ k = mag (rung x) := by
  have hw : Ieee.double.signWeight = 9223372036854775808 := by decide
  have hb : Ieee.double.binade = 4503599627370496 := by decide
  have hi : Ieee.double.infRung = 9218868437227405312 := by decide
  unfold rung at h ⊢
  unfold Ieee.Format.read mag
  rw [hw, hb, hi]
  simp only
  by_cases h1 : x % 9223372036854775808 < 4503599627370496
  · rw [if_pos h1, if_pos h1]
    exact ⟨_, 0, by rw [show ((0 : Nat) : Int) = 0 from rfl, Int.add_zero]; rfl, by simp⟩
  · rw [if_neg h1, if_neg h1, if_pos h]
    exact ⟨_, _, rfl, rfl⟩
theorem read_inf {x : Nat} (h : rung x = 9218868437227405312) : Ieee.double.read x = .infinity (sgn x) := by
  have hw : Ieee.double.signWeight = 9223372036854775808 := by decide
  have hb : Ieee.double.binade = 4503599627370496 := by decide
  have hi : Ieee.double.infRung = 9218868437227405312 := by decide
  unfold rung at h
  unfold Ieee.Format.read
  rw [hw, hb, hi]
  simp only
  rw [h, if_neg (by decide), if_neg (by decide), if_pos rfl]
  rfl
theorem read_nan {x : Nat} (h : isNan x) : ∃ t, Ieee.double.read x = .nan (sgn x) t := by
  have hw : Ieee.double.signWeight = 9223372036854775808 := by decide
  have hb : Ieee.double.binade = 4503599627370496 := by decide
  have hi : Ieee.double.infRung = 9218868437227405312 := by decide
  unfold isNan rung at h
  unfold Ieee.Format.read
  rw [hw, hb, hi]
  simp only
  rw [if_neg (by omega), if_neg (by omega), if_neg (by omega)]
  exact ⟨_, rfl⟩
theorem order_nan_l {x y : Nat} (h : isNan x) : FloatKind.f64.format.order x y = none := by
  obtain ⟨t, ht⟩ := read_nan h
  show (Ieee.double.read x).order (Ieee.double.read y) = none
  rw [ht]; rfl
theorem order_nan_r {x y : Nat} (h : isNan y) : FloatKind.f64.format.order x y = none := by
  obtain ⟨t, ht⟩ := read_nan h
  show (Ieee.double.read x).order (Ieee.double.read y) = none
  rw [ht]
  cases Ieee.double.read x <;> rfl
theorem order_sk {x y : Nat} (hx : ¬ isNan x) (hy : ¬ isNan y) : FloatKind.f64.format.order x y = some (compare (sk x) (sk y)) := by
  show (Ieee.double.read x).order (Ieee.double.read y) = _
  unfold isNan at hx hy
  unfold sk
  rcases Nat.lt_or_ge (rung x) 9218868437227405312 with h1 | h1 <;> rcases Nat.lt_or_ge (rung y) 9218868437227405312 with h2 | h2
  · obtain ⟨m, k, e1, e2⟩ := read_num h1
    obtain ⟨n, l, e3, e4⟩ := read_num h2
    rw [e1, e3, num_order, e2, e4, mag_cmp]
  · obtain ⟨m, k, e1, e2⟩ := read_num h1
    have h2 : rung y = 9218868437227405312 := by omega
    rw [e1, read_inf h2, h2]
    show some (if sgn y then Ordering.gt else Ordering.lt) = _
    congr 1
    cases sgn x <;> cases sgn y <;> simp only [sg, Bool.false_eq_true, if_false, if_true]
    · exact (Int.compare_eq_lt.2 (by omega)).symm
    · exact (Int.compare_eq_gt.2 (by omega)).symm
    · exact (Int.compare_eq_lt.2 (by omega)).symm
    · exact (Int.compare_eq_gt.2 (by omega)).symm
  · obtain ⟨n, l, e3, e4⟩ := read_num h2
    have h1 : rung x = 9218868437227405312 := by omega
    rw [e3, read_inf h1, h1]
    show some (if sgn x then Ordering.lt else Ordering.gt) = _
    congr 1
    cases sgn x <;> cases sgn y <;> simp only [sg, Bool.false_eq_true, if_false, if_true]
    · exact (Int.compare_eq_gt.2 (by omega)).symm
    · exact (Int.compare_eq_gt.2 (by omega)).symm
    · exact (Int.compare_eq_lt.2 (by omega)).symm
    · exact (Int.compare_eq_lt.2 (by omega)).symm
  · have h1 : rung x = 9218868437227405312 := by omega
    have h2 : rung y = 9218868437227405312 := by omega
    rw [read_inf h1, read_inf h2, h1, h2]
    cases sgn x <;> cases sgn y <;> rfl
theorem ord_cases (a b : Int) : compare a b = if a < b then Ordering.lt else if a = b then Ordering.eq else Ordering.gt := rfl
theorem fLss_eq (x y : Nat) : fLss x y = decide (¬ isNan x ∧ ¬ isNan y ∧ sk x < sk y) := by
  unfold fLss
  by_cases hx : isNan x
  · rw [order_nan_l hx, decide_eq_false (fun h => h.1 hx)]; rfl
  by_cases hy : isNan y
  · rw [order_nan_r hy, decide_eq_false (fun h => h.2.1 hy)]; rfl
  rw [order_sk hx hy, ord_cases]
  by_cases h : sk x < sk y
  · rw [if_pos h, decide_eq_true ⟨hx, hy, h⟩]; rfl
  · rw [if_neg h, decide_eq_false (fun h' => h h'.2.2)]
    split <;> rfl
theorem fGtr_eq (x y : Nat) : fGtr x y = decide (¬ isNan x ∧ ¬ isNan y ∧ sk y < sk x) := by
  unfold fGtr
  by_cases hx : isNan x
  · rw [order_nan_l hx, decide_eq_false (fun h => h.1 hx)]; rfl
  by_cases hy : isNan y
  · rw [order_nan_r hy, decide_eq_false (fun h => h.2.1 hy)]; rfl
  rw [order_sk hx hy, ord_cases]
  by_cases h : sk x < sk y
  · rw [if_pos h, decide_eq_false (fun h' => by omega)]; rfl
  · rw [if_neg h]
    by_cases h2 : sk x = sk y
    · rw [if_pos h2, decide_eq_false (fun h' => by omega)]; rfl
    · rw [if_neg h2, decide_eq_true ⟨hx, hy, by omega⟩]; rfl
theorem fEql_eq (x y : Nat) : fEql x y = decide (¬ isNan x ∧ ¬ isNan y ∧ sk x = sk y) := by
  unfold fEql
  by_cases hx : isNan x
  · rw [order_nan_l hx, decide_eq_false (fun h => h.1 hx)]; rfl
  by_cases hy : isNan y
  · rw [order_nan_r hy, decide_eq_false (fun h => h.2.1 hy)]; rfl
  rw [order_sk hx hy, ord_cases]
  by_cases h : sk x < sk y
  · rw [if_pos h, decide_eq_false (fun h' => by omega)]; rfl
  · rw [if_neg h]
    by_cases h2 : sk x = sk y
    · rw [if_pos h2, decide_eq_true ⟨hx, hy, h2⟩]; rfl
    · rw [if_neg h2, decide_eq_false (fun h' => h2 h'.2.2)]; rfl
theorem fNeq_eq (x y : Nat) : fNeq x y = !(fEql x y) := rfl
theorem fNeq_self (x : Nat) : fNeq x x = decide (isNan x) := by
  rw [fNeq_eq, fEql_eq]
  by_cases h : isNan x <;> simp [h]
theorem fGeq_eq (x y : Nat) : fGeq x y = decide (¬ isNan x ∧ ¬ isNan y ∧ sk y ≤ sk x) := by
  have : fGeq x y = (fGtr x y || fEql x y) := rfl
  rw [this, fGtr_eq, fEql_eq]
  by_cases hx : isNan x <;> by_cases hy : isNan y <;> simp only [hx, hy, not_true_eq_false, not_false_eq_true, false_and, true_and, decide_false, Bool.or_self, and_false]
  by_cases h1 : sk y < sk x <;> by_cases h2 : sk x = sk y <;> simp [h1, h2] <;> omega
theorem fixed02 : law02Fixed 3000 = some (true, ()) := by kernel_rfl

/-! ### Numbers by their bits -/
def canon (x : Nat) : Int := if isNan x then 9221120237041090560 else x
def key (x : Nat) : Int := if isNan x then 18444492273895866368 else if sgn x = true then 9223372036854775807 - (rung x : Int) else 9223372036854775808 + (rung x : Int)
def ord3 (a b : Int) : Int := if a < b then -1 else if b < a then 1 else 0
def parts (x : Nat) : S0 := (sgn x, (x : Int) / 4503599627370496 % 2048, (x : Int) % 4503599627370496, ())
def F64 (x : Nat) : Prop := x < 18446744073709551616
theorem sgn_iff {x : Nat} (h : F64 x) : sgn x = decide (x ≥ 9223372036854775808) := by
  unfold F64 at h
  unfold sgn
  by_cases h1 : x ≥ 9223372036854775808
  · have : x / 9223372036854775808 % 2 = 1 := by omega
    rw [this, decide_eq_true h1]; rfl
  · have : x / 9223372036854775808 % 2 = 0 := by omega
    rw [this, decide_eq_false h1]; rfl
theorem extFrom_eq (fu : Nat) (b : Int) : extFrom.f fu (b, ()) = some (b.toNat, ()) := rfl
theorem from_bind {β : Type} (fu x : Nat) (K : (Kd.struct extFrom.rs).T → Option β) : (extFrom.f fu ((x : Int), ())).bind K = K (x, ()) := rfl
theorem extBits_eq (fu : Nat) {x : Nat} (h : F64 x) : extBits.f fu (x, ()) = some ((x : Int), ()) := by
  show (match decide (x < 18446744073709551616) with | true => some ((x : Int), ()) | false => none) = _
  have : decide (x < 18446744073709551616) = true := decide_eq_true (show x < 18446744073709551616 from h)
  rw [this]
theorem bits_bind {β : Type} (fu : Nat) {x : Nat} (h : F64 x) (K : (Kd.struct extBits.rs).T → Option β) : (extBits.f fu (x, ())).bind K = K ((x : Int), ()) := by rw [extBits_eq fu h]; rfl
theorem canon_in {x : Nat} (h : F64 x) : 0 ≤ canon x ∧ canon x < 18446744073709551616 := by unfold canon; unfold F64 at h; split <;> omega
theorem bits_eq (fu : Nat) {x : Nat} (h : F64 x) : realBits fu x = some (canon x, ()) := by
  unfold realBits canon
  rw [fNeq_self, bits_bind fu h]
  by_cases hn : isNan x
  · rw [decide_eq_true hn, if_pos hn, cond_true]
  · rw [decide_eq_false hn, if_neg hn, cond_false]
theorem not64 {x : Int} (h0 : 0 ≤ x) (h1 : x < 18446744073709551616) : bNot .u64 x = 18446744073709551615 - x := by
  have key : ∀ b : BitVec 64, (18446744073709551615#64 ^^^ b).toNat = 18446744073709551615 - b.toNat := fun b => by
    have e : 18446744073709551615#64 ^^^ b = ~~~b := by
      rw [show (18446744073709551615#64) = BitVec.allOnes 64 from rfl, BitVec.allOnes_xor]
    rw [e, BitVec.toNat_not]
  obtain ⟨n, rfl⟩ := Int.eq_ofNat_of_zero_le h0
  show IntKind.u64.wrap (((BitVec.ofInt 64 18446744073709551615 ^^^ BitVec.ofInt 64 (n : Int)).toNat : Nat) : Int) = _
  rw [show BitVec.ofInt 64 18446744073709551615 = 18446744073709551615#64 from rfl, key, BitVec.ofInt_natCast, BitVec.toNat_ofNat, Nat.mod_eq_of_lt (by omega), wrap_u64 (by omega) (by omega)]
  omega
theorem key_eq (fu : Nat) {x : Nat} (h : F64 x) : realKey fu x = some (key x, ()) := by
  unfold realKey
  rw [bits_eq fu h]
  have hc := canon_in h
  simp only [Option.bind_some, not64 hc.1 hc.2]
  have hs := sgn_iff h
  unfold canon key
  unfold F64 at h
  by_cases hn : isNan x
  · rw [if_pos hn, if_pos hn]; rfl
  · rw [if_neg hn, if_neg hn, hs]
    by_cases h1 : x ≥ 9223372036854775808
    · have h2 : (x : Int) ≥ 9223372036854775808 := by omega
      have hr : rung x = x - 9223372036854775808 := by unfold rung; omega
      simp only [h1, h2, decide_true, cond_true, if_true, hr, Option.some.injEq, Prod.mk.injEq, and_true]
      omega
    · have h2 : ¬ (x : Int) ≥ 9223372036854775808 := by omega
      have hr : rung x = x := by unfold rung; omega
      simp only [h1, h2, decide_false, cond_false, if_false, Bool.false_eq_true, hr, Option.some.injEq, Prod.mk.injEq, and_true]
      rw [wrap_u64 (by omega) (by omega)]
      omega
theorem cmp_eq (fu : Nat) (a b : Int) : cmpCompareF51 fu a b = some (ord3 a b, ()) := by
  unfold cmpCompareF51 cmpIsNaNF76 ord3
  have e : ∀ x : Int, (x != x) = false := fun x => by simp
  simp only [e, Option.bind_some, cond_false]
  by_cases h1 : a < b
  · simp only [h1, decide_true, cond_true, if_true]
  · by_cases h2 : b < a
    · simp only [h1, h2, decide_true, decide_false, cond_true, cond_false, if_true, if_false]
    · simp only [h1, h2, decide_false, cond_false, if_false]
theorem order_eq (fu : Nat) {x y : Nat} (hx : F64 x) (hy : F64 y) : realOrder fu x y = some (ord3 (key x) (key y), ()) := by
  unfold realOrder
  simp only [key_eq fu hx, key_eq fu hy, cmp_eq, Option.bind_some]
theorem same_eq (fu : Nat) {x y : Nat} (hx : F64 x) (hy : F64 y) : realSame fu x y = some (canon x == canon y, ()) := by
  unfold realSame
  simp only [bits_eq fu hx, bits_eq fu hy, Option.bind_some]
theorem ofBits_eq (fu : Nat) {x : Nat} (h : F64 x) : ref02OfBits fu (x : Int) = some (parts x, ()) := by
  unfold ref02OfBits parts
  have hs := sgn_iff h
  unfold F64 at h
  have e1 : Int.tdiv (x : Int) 4503599627370496 = (x : Int) / 4503599627370496 := Int.tdiv_eq_ediv_of_nonneg (by omega)
  have e2 : IntKind.u64.wrap ((x : Int) / 4503599627370496) = (x : Int) / 4503599627370496 := wrap_u64 (by omega) (by omega)
  have e3 : Int.tmod ((x : Int) / 4503599627370496) 2048 = (x : Int) / 4503599627370496 % 2048 := Int.tmod_eq_emod_of_nonneg (by omega)
  have e4 : IntKind.i64.wrap ((x : Int) / 4503599627370496 % 2048) = (x : Int) / 4503599627370496 % 2048 := wrap_i64 (by omega) (by omega)
  have e5 : Int.tmod (x : Int) 4503599627370496 = (x : Int) % 4503599627370496 := Int.tmod_eq_emod_of_nonneg (by omega)
  simp only [e1, e2, e3, e4, e5, Option.some.injEq, Prod.mk.injEq, and_true]
  rw [hs]
  exact decide_eq_decide.2 (by omega)
theorem parts_rung (x : Nat) : (x : Int) / 4503599627370496 % 2048 * 4503599627370496 + (x : Int) % 4503599627370496 = rung x := by unfold rung; omega
theorem nan_parts (x : Nat) : isNan x ↔ ((x : Int) / 4503599627370496 % 2048 = 2047 ∧ (x : Int) % 4503599627370496 ≠ 0) := by unfold isNan rung; omega
theorem refNaN_eq (fu : Nat) (x : Nat) : ref02PartsNaN fu (parts x) = some (decide (isNan x), ()) := by
  unfold ref02PartsNaN parts
  have hn := nan_parts x
  by_cases h1 : (x : Int) / 4503599627370496 % 2048 = 2047
  · simp only [h1, beq_self_eq_true, cond_true]
    by_cases h2 : (x : Int) % 4503599627370496 = 0
    · rw [decide_eq_false (fun h => (hn.1 h).2 h2), h2]; rfl
    · rw [decide_eq_true (hn.2 ⟨h1, h2⟩), bne_iff_ne.2 h2]
  · have : ((x : Int) / 4503599627370496 % 2048 == 2047) = false := beq_false_of_ne h1
    simp only [this, cond_false]
    rw [decide_eq_false (fun h => h1 (hn.1 h).1)]
theorem refSize_eq (fu : Nat) (x : Nat) : ref02PartsSize fu (parts x) = some ((rung x : Int), ()) := by
  unfold ref02PartsSize parts
  have hr := parts_rung x
  have hl : rung x < 9223372036854775808 := by unfold rung; omega
  simp only
  rw [wrap_u64 (x := (x : Int) / 4503599627370496 % 2048) (by omega) (by omega), wrap_u64 (x := (x : Int) / 4503599627370496 % 2048 * 4503599627370496) (by omega) (by omega), hr, wrap_u64 (by omega) (by omega)]
theorem refBits_eq (fu : Nat) {x : Nat} (h : F64 x) : ref02PartsBits fu (parts x) = some (canon x, ()) := by
  unfold ref02PartsBits
  rw [refNaN_eq]
  have hs := sgn_iff h
  have hr := parts_rung x
  unfold F64 at h
  unfold canon
  by_cases hn : isNan x
  · simp only [hn, decide_true, Option.bind_some, cond_true, if_true]
  · simp only [hn, decide_false, Option.bind_some, cond_false, if_false]
    show (cond (sgn x) _ _ : Option _) = _
    have hp : (parts x).2.1 = (x : Int) / 4503599627370496 % 2048 := rfl
    have hq : (parts x).2.2.1 = (x : Int) % 4503599627370496 := rfl
    have hl : rung x < 9223372036854775808 := by unfold rung; omega
    rw [hp, hq, wrap_u64 (x := (x : Int) / 4503599627370496 % 2048) (by omega) (by omega), wrap_u64 (x := (x : Int) / 4503599627370496 % 2048 * 4503599627370496) (by omega) (by omega), hr, wrap_u64 (x := (rung x : Int)) (by omega) (by omega), hs]
    by_cases h1 : x ≥ 9223372036854775808
    · simp only [h1, decide_true, cond_true]
      have : rung x = x - 9223372036854775808 := by unfold rung; omega
      rw [wrap_u64 (by omega) (by omega)]
      simp only [Option.some.injEq, Prod.mk.injEq, and_true]
      omega
    · simp only [h1, decide_false, cond_false]
      have : rung x = x := by unfold rung; omega
      rw [this]
theorem refClass0 (fu : Nat) (x : Nat) (hn : ¬ isNan x) : ∃ c, ref02PartsClass fu (parts x) = some (c, ()) ∧ (c == 0) = decide (rung x = 0) := by
  unfold ref02PartsClass parts
  have hp := nan_parts x
  have hr := parts_rung x
  by_cases h1 : (x : Int) / 4503599627370496 % 2048 = 2047
  · by_cases h2 : (x : Int) % 4503599627370496 = 0
    · refine ⟨3, by simp only [h1, h2, beq_self_eq_true, bne_self_eq_false, cond_true, cond_false], ?_⟩
      rw [decide_eq_false (by omega)]; rfl
    · exact absurd (hp.2 ⟨h1, h2⟩) hn
  · have e1 : ((x : Int) / 4503599627370496 % 2048 == 2047) = false := beq_false_of_ne h1
    by_cases h3 : (x : Int) / 4503599627370496 % 2048 = 0
    · by_cases h2 : (x : Int) % 4503599627370496 = 0
      · refine ⟨0, by simp only [h3, h2, beq_self_eq_true, bne_self_eq_false, cond_true, cond_false]; rfl, ?_⟩
        rw [decide_eq_true (by omega)]; rfl
      · have e2 : ((x : Int) % 4503599627370496 != 0) = true := bne_iff_ne.2 h2
        refine ⟨1, by simp only [h3, e2, beq_self_eq_true, cond_true]; rfl, ?_⟩
        rw [decide_eq_false (by omega)]; rfl
    · have e3 : ((x : Int) / 4503599627370496 % 2048 == 0) = false := beq_false_of_ne h3
      refine ⟨2, by simp only [e1, e3, cond_false], ?_⟩
      rw [decide_eq_false (by omega)]; rfl
theorem key_nan {x : Nat} (h : isNan x) : key x = 18444492273895866368 := by unfold key; rw [if_pos h]
theorem key_neg {x : Nat} (h : ¬ isNan x) (hs : sgn x = true) : key x = 9223372036854775807 - (rung x : Int) := by unfold key; rw [if_neg h, if_pos hs]
theorem key_pos {x : Nat} (h : ¬ isNan x) (hs : sgn x = false) : key x = 9223372036854775808 + (rung x : Int) := by unfold key; rw [if_neg h, hs]; rfl
theorem key_lt {x : Nat} (h : ¬ isNan x) : key x < 18444492273895866368 := by
  have : rung x ≤ 9218868437227405312 := by unfold isNan at h; omega
  cases hs : sgn x with
  | true => rw [key_neg h hs]; omega
  | false => rw [key_pos h hs]; omega
theorem ord3_lt {a b : Int} (h : a < b) : ord3 a b = -1 := by unfold ord3; rw [if_pos h]
theorem ord3_gt {a b : Int} (h : b < a) : ord3 a b = 1 := by unfold ord3; rw [if_neg (by omega), if_pos h]
theorem ord3_eq {a b : Int} (h : a = b) : ord3 a b = 0 := by unfold ord3; rw [if_neg (by omega), if_neg (by omega)]
theorem ref_j16 (fu : Nat) (k1 : Int → Option (Int × Unit)) (a b : Int) : ref02Order.j16 fu k1 a b = k1 (ord3 a b) := by
  unfold ref02Order.j16
  by_cases q1 : a < b
  · simp only [q1, decide_true, cond_true]; rw [ord3_lt q1]
  · by_cases q2 : a > b
    · simp only [q1, q2, decide_true, decide_false, cond_true, cond_false]; rw [ord3_gt q2]
    · simp only [q1, q2, decide_false, cond_false]; rw [ord3_eq (by omega)]
theorem ord3_congr {a b c d : Int} (h1 : a < b ↔ c < d) (h2 : b < a ↔ d < c) : ord3 a b = ord3 c d := by
  unfold ord3
  by_cases q1 : a < b
  · rw [if_pos q1, if_pos (h1.1 q1)]
  · rw [if_neg q1, if_neg (fun h => q1 (h1.2 h))]
    by_cases q2 : b < a
    · rw [if_pos q2, if_pos (h2.1 q2)]
    · rw [if_neg q2, if_neg (fun h => q2 (h2.2 h))]
theorem order_pp (r q : Nat) : ord3 (9223372036854775808 + (r : Int)) (9223372036854775808 + (q : Int)) = ord3 (r : Int) (q : Int) := ord3_congr (by omega) (by omega)
theorem order_nn (r q : Nat) : ord3 (9223372036854775807 - (r : Int)) (9223372036854775807 - (q : Int)) = ord3 (q : Int) (r : Int) := ord3_congr (by omega) (by omega)
theorem order_pn (r q : Nat) : ord3 (9223372036854775808 + (r : Int)) (9223372036854775807 - (q : Int)) = 1 := ord3_gt (by omega)
theorem order_np (r q : Nat) : ord3 (9223372036854775807 - (r : Int)) (9223372036854775808 + (q : Int)) = -1 := ord3_lt (by omega)
theorem ref_j7 (fu : Nat) (k1 : Int → Option (Int × Unit)) (x y : Nat) (h1 : ¬ isNan x) (h2 : ¬ isNan y) : ref02Order.j7 fu k1 (parts x) (parts y) = k1 (ord3 (key x) (key y)) := by
  unfold ref02Order.j7
  simp only [refSize_eq, Option.bind_some, ref_j16]
  have hp : ∀ z, (parts z).1 = sgn z := fun _ => rfl
  rw [hp, hp]
  cases s1 : sgn x with
  | false =>
    rw [key_pos h1 s1]
    cases s2 : sgn y with
    | false =>
      rw [key_pos h2 s2, order_pp]
      simp only [beq_self_eq_true, Bool.not_true, cond_false]
    | true =>
      rw [key_neg h2 s2, order_pn]
      simp only [show (false == true) = false from rfl, Bool.not_false, cond_true, cond_false]
  | true =>
    rw [key_neg h1 s1]
    cases s2 : sgn y with
    | false =>
      rw [key_pos h2 s2, order_np]
      simp only [show (true == false) = false from rfl, Bool.not_false, cond_true]
    | true =>
      rw [key_neg h2 s2, order_nn]
      simp only [beq_self_eq_true, Bool.not_true, cond_false, cond_true]
theorem nan_nan {x y : Nat} (h1 : isNan x) (h2 : isNan y) : ord3 (key x) (key y) = 0 := ord3_eq (by rw [key_nan h1, key_nan h2])
theorem nan_num {x y : Nat} (h1 : isNan x) (h2 : ¬ isNan y) : ord3 (key x) (key y) = 1 := ord3_gt (by have := key_lt h2; rw [key_nan h1]; exact this)
theorem num_nan {x y : Nat} (h1 : ¬ isNan x) (h2 : isNan y) : ord3 (key x) (key y) = -1 := ord3_lt (by have := key_lt h1; rw [key_nan h2]; exact this)
theorem order_t1 (fu : Nat) (x y : Nat) (h1 : isNan x) (h2 : isNan y) : ref02Order fu (parts x) (parts y) = some (0, ()) := by
  unfold ref02Order ref02Order.j13002
  simp only [refNaN_eq, Option.bind_some, cond_true, h1, h2, decide_true]
theorem order_t2 (fu : Nat) (x y : Nat) (h1 : isNan x) (h2 : ¬ isNan y) : ref02Order fu (parts x) (parts y) = some (1, ()) := by
  unfold ref02Order ref02Order.j13002
  simp only [refNaN_eq, Option.bind_some, cond_true, cond_false, h1, h2, decide_true, decide_false]
theorem order_t3 (fu : Nat) (x y : Nat) (h1 : ¬ isNan x) (h2 : isNan y) : ref02Order fu (parts x) (parts y) = some (-1, ()) := by
  unfold ref02Order ref02Order.j13002
  simp only [refNaN_eq, Option.bind_some, cond_true, cond_false, h1, h2, decide_true, decide_false]
theorem order_t4 (fu : Nat) (x y : Nat) (h1 : ¬ isNan x) (h2 : ¬ isNan y) : ref02Order fu (parts x) (parts y) = some (ord3 (key x) (key y), ()) := by
  unfold ref02Order ref02Order.j13002
  simp only [refNaN_eq, Option.bind_some, cond_false, h1, h2, decide_false, ref_j7 fu _ x y h1 h2]
theorem refOrder_eq (fu : Nat) (x y : Nat) : ref02Order fu (parts x) (parts y) = some (ord3 (key x) (key y), ()) := by
  by_cases h1 : isNan x
  · by_cases h2 : isNan y
    · exact (order_t1 fu x y h1 h2).trans (congrArg (fun q => some (q, ())) (nan_nan h1 h2).symm)
    · exact (order_t2 fu x y h1 h2).trans (congrArg (fun q => some (q, ())) (nan_num h1 h2).symm)
  · by_cases h2 : isNan y
    · exact (order_t3 fu x y h1 h2).trans (congrArg (fun q => some (q, ())) (num_nan h1 h2).symm)
    · exact order_t4 fu x y h1 h2
/-- How two are compared as numbers. -/
def comp (x y : Nat) : Int × Bool := if isNan x ∨ isNan y then (0, false) else (ord3 (sk x) (sk y), true)
theorem compare_eq (fu : Nat) (x y : Nat) : realCompare fu x y = some ((comp x y).1, (comp x y).2, ()) := by
  unfold realCompare comp
  rw [fLss_eq, fGtr_eq, fEql_eq]
  by_cases h1 : isNan x
  · simp [h1]
  · by_cases h2 : isNan y
    · simp [h2]
    · have h3 : ¬ (isNan x ∨ isNan y) := fun h => h.elim h1 h2
      unfold ord3
      by_cases q1 : sk x < sk y
      · simp [h1, h2, q1]
      · by_cases q2 : sk y < sk x
        · simp [h1, h2, q1, q2]
        · have q3 : sk x = sk y := by omega
          simp [h1, h2, q3]
theorem key_sk {x y : Nat} (hx : ¬ isNan x) (hy : ¬ isNan y) (hz : ¬ (rung x = 0 ∧ rung y = 0)) : ord3 (key x) (key y) = ord3 (sk x) (sk y) := by
  cases s1 : sgn x <;> cases s2 : sgn y
  · rw [key_pos hx s1, key_pos hy s2]; unfold sk sg; rw [s1, s2]; simp only [Bool.false_eq_true, if_false]; exact ord3_congr (by omega) (by omega)
  · rw [key_pos hx s1, key_neg hy s2]; unfold sk sg; rw [s1, s2]; simp only [Bool.false_eq_true, if_false, if_true]; exact ord3_congr (by omega) (by omega)
  · rw [key_neg hx s1, key_pos hy s2]; unfold sk sg; rw [s1, s2]; simp only [Bool.false_eq_true, if_false, if_true]; exact ord3_congr (by omega) (by omega)
  · rw [key_neg hx s1, key_neg hy s2]; unfold sk sg; rw [s1, s2]; simp only [if_true]; exact ord3_congr (by omega) (by omega)
theorem sk_zero {x : Nat} (h : rung x = 0) : sk x = 0 := by unfold sk sg; rw [h]; cases sgn x <;> rfl
theorem refCompare_eq (fu : Nat) (x y : Nat) : ref02Compare fu (parts x) (parts y) = some ((comp x y).1, (comp x y).2, ()) := by
  unfold ref02Compare comp
  simp only [refNaN_eq, Option.bind_some]
  by_cases h1 : isNan x
  · simp only [h1, decide_true, cond_true, true_or, if_true]
  · by_cases h2 : isNan y
    · simp only [h1, h2, decide_true, decide_false, cond_true, cond_false, or_true, if_true]
    · have h3 : ¬ (isNan x ∨ isNan y) := fun h => h.elim h1 h2
      obtain ⟨c, e1, e2⟩ := refClass0 fu x h1
      obtain ⟨d, e3, e4⟩ := refClass0 fu y h2
      rw [if_neg h3]
      simp only [h1, h2, decide_false, cond_false, e1, e3, Option.bind_some, e2, e4, refOrder_eq]
      by_cases z1 : rung x = 0
      · by_cases z2 : rung y = 0
        · simp only [z1, z2, decide_true, cond_true, sk_zero z1, sk_zero z2, ord3, Int.lt_irrefl, if_false]
        · rw [key_sk h1 h2 (fun h => z2 h.2)]
          simp only [z1, z2, decide_true, decide_false, cond_true, cond_false]
      · rw [key_sk h1 h2 (fun h => z1 h.1)]
        simp only [z1, decide_false, cond_false]
theorem f64Of {b : Int} (h : inR .u64 b) : ∃ x : Nat, b = x ∧ F64 x := by
  simp [inR, IntKind.min, IntKind.max, IntKind.signed, IntKind.bits] at h
  exact ⟨b.toNat, by omega, by unfold F64; omega⟩
/-- THE LAW. -/
theorem lawRealTwo (a b : Int) (h : okAll law02RealTwo.con.ps (a, b, ())) : law02RealTwo 3000 a b = some (true, ()) := by
  obtain ⟨x, rfl, hx⟩ := f64Of (b := a) h.1
  obtain ⟨y, rfl, hy⟩ := f64Of (b := b) h.2.1
  unfold law02RealTwo
  rw [from_bind, from_bind]
  simp only [Option.bind_some, ofBits_eq 3000 hx, ofBits_eq 3000 hy, compare_eq, refCompare_eq, fixed02, cond_true, order_eq 3000 hx hy, refOrder_eq, beq_self_eq_true, same_eq 3000 hx hy, refBits_eq 3000 hx, refBits_eq 3000 hy]
theorem canon_fix {x : Nat} (h : F64 x) (hc : canon x = x) : F64 x ∧ canon x = x := ⟨h, hc⟩
theorem from_eq (fu : Nat) {x : Nat} (h : F64 x) : realFrom fu (x : Int) = some (if canon x = x then (x, true, ()) else (0, false, ())) := by
  unfold realFrom
  rw [from_bind]
  simp only [Option.bind_some, bits_eq fu h]
  by_cases hc : canon x = x
  · rw [if_pos hc, hc]
    simp only [bne_self_eq_false, cond_false]
  · have : (canon x != (x : Int)) = true := bne_iff_ne.2 hc
    rw [if_neg hc]
    simp only [this, cond_true]
/-- THE LAW. -/
theorem lawRealFrom (a : Int) (h : okAll law02RealFrom.con.ps (a, ())) : law02RealFrom 3000 a = some (true, ()) := by
  obtain ⟨x, rfl, hx⟩ := f64Of (b := a) h.1
  unfold law02RealFrom
  simp only [from_eq 3000 hx, ofBits_eq 3000 hx, refBits_eq 3000 hx, fixed02, Option.bind_some]
  by_cases hc : canon x = x
  · rw [if_pos hc]
    simp only [Bool.not_true, cond_false, cond_true, hc, beq_self_eq_true, bits_eq 3000 hx, Option.bind_some]
  · have hb : (canon x == (x : Int)) = false := beq_false_of_ne hc
    rw [if_neg hc]
    simp only [Bool.not_false, cond_true, hb]
    rw [bits_bind 3000 (show F64 0 by unfold F64; omega)]
    rfl

/-! ### The next one -/
def up (x : Nat) : Nat := if isNan x ∨ (sgn x = false ∧ rung x = 9218868437227405312) then 9221120237041090560 else if sgn x = true ∧ rung x = 0 then 0 else if sgn x = true then x - 1 else x + 1
theorem f64_lt {x : Nat} (h : F64 x) : x < 18446744073709551616 := h
theorem i64_big {x : Int} (h0 : 9223372036854775808 ≤ x) (h1 : x < 18446744073709551616) : IntKind.i64.wrap x = x - 18446744073709551616 := by
  simp only [IntKind.wrap, IntKind.signed, IntKind.bits]
  simp
  omega
theorem signbit_eq (fu : Nat) {x : Nat} (h : F64 x) : mathSignbit fu x = some (sgn x, ()) := by
  unfold mathSignbit
  rw [bits_bind fu h, sgn_iff h]
  have hx := f64_lt h
  by_cases h1 : x ≥ 9223372036854775808
  · rw [i64_big (by omega) (by omega), decide_eq_true h1, decide_eq_true (by omega)]
  · rw [wrap_i64 (by omega) (by omega), decide_eq_false h1, decide_eq_false (by omega)]
theorem isNan_lt {x : Nat} : isNan x ↔ rung x > 9218868437227405312 := Iff.rfl
theorem sk_pos {x : Nat} (h : sgn x = false) : sk x = rung x := by unfold sk sg; rw [h]; rfl
theorem sk_neg {x : Nat} (h : sgn x = true) : sk x = -(rung x : Int) := by unfold sk sg; rw [h]; rfl
theorem max_facts : ¬ isNan 9218868437227405311 ∧ sk 9218868437227405311 = 9218868437227405311 := by
  refine ⟨by unfold isNan rung; omega, ?_⟩
  rw [sk_pos (by decide)]
  unfold rung
  omega
theorem zero_facts : ¬ isNan 0 ∧ sk 0 = 0 := ⟨by unfold isNan rung; omega, rfl⟩
theorem gtr_max (x : Nat) : fGtr x 9218868437227405311 = decide (¬ isNan x ∧ sgn x = false ∧ rung x = 9218868437227405312) := by
  rw [fGtr_eq, max_facts.2]
  refine decide_eq_decide.2 ⟨fun ⟨h1, _, h3⟩ => ?_, fun ⟨h1, h2, h3⟩ => ⟨h1, max_facts.1, by rw [sk_pos h2]; omega⟩⟩
  rw [isNan_lt] at h1
  cases hs : sgn x with
  | true => rw [sk_neg hs] at h3; omega
  | false => rw [sk_pos hs] at h3; exact ⟨by rw [isNan_lt]; exact h1, rfl, by omega⟩
theorem eql_zero (x : Nat) : fEql x 0 = decide (¬ isNan x ∧ rung x = 0) := by
  rw [fEql_eq, zero_facts.2]
  refine decide_eq_decide.2 ⟨fun ⟨h1, _, h3⟩ => ⟨h1, ?_⟩, fun ⟨h1, h2⟩ => ⟨h1, zero_facts.1, sk_zero h2⟩⟩
  cases hs : sgn x with
  | true => rw [sk_neg hs] at h3; omega
  | false => rw [sk_pos hs] at h3; omega
theorem up13004 (fu : Nat) (k0 k1 : Nat → Option (Nat × Unit)) {x : Nat} (h : F64 x) (v : Bool) (hz : sgn x = true → v = false → rung x ≠ 0) : realUp.j13004 fu k0 k1 x v = if v = true then k1 0 else if sgn x = true then k1 (x - 1) else k0 x := by
  unfold realUp.j13004
  cases v with
  | true => rfl
  | false =>
    rw [signbit_eq fu h]
    simp only [cond_false, Option.bind_some, Bool.false_eq_true, if_false]
    cases hs : sgn x with
    | true =>
      have hx := f64_lt h
      have hsx := sgn_iff h
      rw [hs] at hsx
      have hge : x ≥ 9223372036854775808 := of_decide_eq_true hsx.symm
      rw [bits_bind fu h]
      have e : IntKind.u64.wrap ((x : Int) - 1) = ((x - 1 : Nat) : Int) := by rw [wrap_u64 (by omega) (by omega)]; omega
      simp only [cond_true, if_true, e]
      rw [from_bind]
    | false => simp only [cond_false, Bool.false_eq_true, if_false]
theorem up_eq (fu : Nat) {x : Nat} (h : F64 x) : realUp fu x = some (up x, ()) := by
  have hx := f64_lt h
  have hs := sgn_iff h
  unfold realUp up
  rw [fNeq_self, gtr_max]
  have hk : ∀ (k0 k1 : Nat → Option (Nat × Unit)), realUp.j4002 fu k0 k1 x true = k1 9221120237041090560 := fun k0 k1 => by
    unfold realUp.j4002
    rw [show ((9221120237041090560 : Int)) = ((9221120237041090560 : Nat) : Int) from rfl, from_bind]
    rfl
  by_cases h1 : isNan x
  · rw [decide_eq_true h1, cond_true, hk, if_pos (.inl h1)]
  · rw [decide_eq_false h1, cond_false]
    by_cases h2 : sgn x = false ∧ rung x = 9218868437227405312
    · have e : decide (¬ isNan x ∧ sgn x = false ∧ rung x = 9218868437227405312) = true := decide_eq_true ⟨h1, h2⟩
      rw [e]
      simp only []
      rw [hk, if_pos (.inr h2)]
    · have e : decide (¬ isNan x ∧ sgn x = false ∧ rung x = 9218868437227405312) = false := decide_eq_false (fun hh => h2 hh.2)
      rw [e, if_neg (fun hh => hh.elim h1 h2)]
      simp only []
      unfold realUp.j4002
      simp only [cond_false, eql_zero]
      have last : ∀ (k1 : Nat → Option (Nat × Unit)), sgn x = false → ((extBits.f fu (x, ())).bind fun r1 => (extFrom.f fu (IntKind.u64.wrap (r1.1 + (1 : Int)), ())).bind fun r3 => some (r3.1, ())) = some (x + 1, ()) := fun k1 hsf => by
        rw [bits_bind fu h]
        have hlt : ¬ x ≥ 9223372036854775808 := fun hge => by rw [hs, decide_eq_true hge] at hsf; cases hsf
        have e : IntKind.u64.wrap ((x : Int) + 1) = ((x + 1 : Nat) : Int) := by rw [wrap_u64 (by omega) (by omega)]; omega
        simp only [e]
        rw [from_bind]
      by_cases h3 : rung x = 0
      · rw [decide_eq_true ⟨h1, h3⟩, cond_true, signbit_eq fu h]
        simp only [Option.bind_some]
        cases hsx : sgn x with
        | true =>
          rw [up13004 fu _ _ h _ (fun _ hv => by cases hv), if_pos rfl, if_pos ⟨rfl, h3⟩]
        | false =>
          rw [up13004 fu _ _ h _ (fun hh => by rw [hsx] at hh; cases hh), hsx]
          simp only [Bool.false_eq_true, if_false, false_and]
          exact last (fun _ => none) hsx
      · rw [decide_eq_false (fun hh => h3 hh.2), cond_false, up13004 fu _ _ h _ (fun _ _ => h3)]
        simp only [Bool.false_eq_true, if_false, h3, and_false]
        cases hsx : sgn x with
        | true => simp only [if_true]
        | false =>
          simp only [Bool.false_eq_true, if_false]
          exact last (fun _ => none) hsx
theorem up_f64 {x : Nat} (h : F64 x) : F64 (up x) := by
  have hx := f64_lt h
  unfold up F64
  split
  · omega
  · rename_i h1
    split
    · omega
    · split
      · omega
      · rename_i h3
        have hs := sgn_iff h
        have hsf : sgn x = false := by cases hh : sgn x with
          | true => exact absurd hh h3
          | false => rfl
        have hlt : ¬ x ≥ 9223372036854775808 := fun hge => by rw [hs, decide_eq_true hge] at hsf; cases hsf
        omega
theorem up_key {x : Nat} (h : F64 x) (h1 : ¬ isNan x) (h2 : ¬ (sgn x = false ∧ rung x = 9218868437227405312)) : ¬ isNan (up x) ∧ key (up x) = key x + 1 := by
  have hx := f64_lt h
  have hs := sgn_iff h
  have hr : rung x ≤ 9218868437227405312 := by rw [isNan_lt] at h1; omega
  unfold up
  rw [if_neg (fun hh => hh.elim h1 h2)]
  cases hsx : sgn x with
  | true =>
    rw [hsx] at hs
    have hge : x ≥ 9223372036854775808 := of_decide_eq_true hs.symm
    have hrx : rung x = x - 9223372036854775808 := by unfold rung; omega
    by_cases h3 : rung x = 0
    · rw [if_pos ⟨rfl, h3⟩]
      refine ⟨zero_facts.1, ?_⟩
      rw [key_pos zero_facts.1 (by decide), key_neg h1 hsx, h3]
      decide
    · rw [if_neg (fun hh => h3 hh.2), if_pos rfl]
      have hr1 : rung (x - 1) = rung x - 1 := by unfold rung; omega
      have hn1 : ¬ isNan (x - 1) := by rw [isNan_lt]; omega
      have hs1 : sgn (x - 1) = true := by rw [sgn_iff (show F64 (x - 1) by unfold F64; omega)]; exact decide_eq_true (by omega)
      refine ⟨hn1, ?_⟩
      rw [key_neg hn1 hs1, key_neg h1 hsx, hr1]
      omega
  | false =>
    rw [hsx] at hs
    have hlt : ¬ x ≥ 9223372036854775808 := of_decide_eq_false hs.symm
    have hrx : rung x = x := by unfold rung; omega
    rw [if_neg (fun hh => by cases hh.1), if_neg (by simp)]
    have hne : rung x ≠ 9218868437227405312 := fun hh => h2 ⟨hsx, hh⟩
    have hr1 : rung (x + 1) = rung x + 1 := by unfold rung; omega
    have hn1 : ¬ isNan (x + 1) := by rw [isNan_lt]; omega
    have hs1 : sgn (x + 1) = false := by rw [sgn_iff (show F64 (x + 1) by unfold F64; omega)]; exact decide_eq_false (by omega)
    refine ⟨hn1, ?_⟩
    rw [key_pos hn1 hs1, key_pos h1 hsx, hr1]
    omega
theorem up_nan {x : Nat} (h : isNan x ∨ (sgn x = false ∧ rung x = 9218868437227405312)) : up x = 9221120237041090560 := by unfold up; rw [if_pos h]
theorem nan_canon : isNan 9221120237041090560 := by unfold isNan rung; omega
theorem key_inf {x : Nat} (h1 : ¬ isNan x) (h2 : sgn x = false ∧ rung x = 9218868437227405312) : key x = 18442240474082181120 := by rw [key_pos h1 h2.1, h2.2]; omega
theorem key_le_inf {x : Nat} (h1 : ¬ isNan x) : 0 ≤ key x ∧ key x ≤ 18442240474082181120 ∧ (key x = 18442240474082181120 → sgn x = false ∧ rung x = 9218868437227405312) := by
  have hr : rung x ≤ 9218868437227405312 := by rw [isNan_lt] at h1; omega
  cases hs : sgn x with
  | true => rw [key_neg h1 hs]; omega
  | false => rw [key_pos h1 hs]; exact ⟨by omega, by omega, fun _ => ⟨rfl, by omega⟩⟩
theorem key_canon {x y : Nat} (hx : F64 x) (hy : F64 y) : (key x = key y) ↔ (canon x = canon y) := by
  have hx' := f64_lt hx
  have hy' := f64_lt hy
  have sx := sgn_iff hx
  have sy := sgn_iff hy
  unfold canon
  by_cases h1 : isNan x <;> by_cases h2 : isNan y
  · rw [key_nan h1, key_nan h2, if_pos h1, if_pos h2]; exact ⟨fun _ => rfl, fun _ => rfl⟩
  · have := key_lt h2
    rw [key_nan h1, if_pos h1, if_neg h2]
    refine ⟨fun h => by omega, fun h => absurd ?_ h2⟩
    have : y = 9221120237041090560 := by omega
    rw [this]; exact nan_canon
  · have := key_lt h1
    rw [key_nan h2, if_neg h1, if_pos h2]
    refine ⟨fun h => by omega, fun h => absurd ?_ h1⟩
    have : x = 9221120237041090560 := by omega
    rw [this]; exact nan_canon
  · rw [if_neg h1, if_neg h2]
    have hrx : rung x < 9223372036854775808 := by unfold rung; omega
    have hry : rung y < 9223372036854775808 := by unfold rung; omega
    have ex : ∀ {z : Nat}, z < 18446744073709551616 → sgn z = decide (z ≥ 9223372036854775808) → (sgn z = true → z = rung z + 9223372036854775808) ∧ (sgn z = false → z = rung z) := fun {z} hz hs => by
      refine ⟨fun h => ?_, fun h => ?_⟩
      · rw [h] at hs
        have := of_decide_eq_true hs.symm
        unfold rung; omega
      · rw [h] at hs
        have := of_decide_eq_false hs.symm
        unfold rung; omega
    obtain ⟨x1, x2⟩ := ex hx' sx
    obtain ⟨y1, y2⟩ := ex hy' sy
    cases q1 : sgn x <;> cases q2 : sgn y
    · rw [key_pos h1 q1, key_pos h2 q2]; have := x2 q1; have := y2 q2; omega
    · rw [key_pos h1 q1, key_neg h2 q2]; have := x2 q1; have := y1 q2; omega
    · rw [key_neg h1 q1, key_pos h2 q2]; have := x1 q1; have := y2 q2; omega
    · rw [key_neg h1 q1, key_neg h2 q2]; have := x1 q1; have := y1 q2; omega
theorem abs_eq (fu : Nat) {x : Nat} (h : F64 x) : mathAbs fu x = some (rung x, ()) := by
  unfold mathAbs
  rw [bits_bind fu h]
  have hx := f64_lt h
  have e : bAndNot .u64 (x : Int) (9223372036854775808 : Int) = ((rung x : Nat) : Int) := by
    show IntKind.u64.wrap (((BitVec.ofInt 64 (x : Int) &&& ~~~BitVec.ofInt 64 9223372036854775808).toNat : Nat) : Int) = _
    rw [BitVec.ofInt_natCast, BitVec.toNat_and, BitVec.toNat_ofNat, Nat.mod_eq_of_lt (by omega), show (~~~BitVec.ofInt 64 9223372036854775808).toNat = 2 ^ 63 - 1 by decide, Nat.and_two_pow_sub_one_eq_mod]
    have : rung x = x % 2 ^ 63 := rfl
    rw [← this]
    have hr : rung x < 9223372036854775808 := by unfold rung; omega
    rw [wrap_u64 (by omega) (by omega)]
  simp only [e]
  rw [from_bind]
theorem class_eq (fu : Nat) {x : Nat} (h : F64 x) : ∃ c, realClass fu x = some (c, ()) ∧ (c == 4) = decide (isNan x) := by
  unfold realClass
  rw [abs_eq fu h, fNeq_self]
  simp only [Option.bind_some]
  by_cases h1 : isNan x
  · exact ⟨4, by rw [decide_eq_true h1, cond_true], by rw [decide_eq_true h1]; rfl⟩
  · rw [decide_eq_false h1, cond_false]
    cases fEql (rung x) 0 with
    | true => exact ⟨0, rfl, rfl⟩
    | false => cases fLss (rung x) 4503599627370496 with
      | true => exact ⟨1, rfl, rfl⟩
      | false => cases fGtr (rung x) 9218868437227405311 with
        | true => exact ⟨3, rfl, rfl⟩
        | false => exact ⟨2, rfl, rfl⟩
theorem row_j8 (k1 : Bool → Option (Bool × Unit)) {x : Nat} (h : F64 x) : law02RealRow.j8 3000 k1 x (up x) = k1 true := by
  unfold law02RealRow.j8
  obtain ⟨c, e1, e2⟩ := class_eq 3000 h
  rw [fixed02, order_eq 3000 h (up_f64 h), e1]
  simp only [Option.bind_some, cond_true, e2]
  by_cases h1 : isNan x
  · rw [decide_eq_true h1]
    cases decide (ord3 (key x) (key (up x)) < 0) <;> rfl
  · have hlt : key x < key (up x) := by
      by_cases h2 : sgn x = false ∧ rung x = 9218868437227405312
      · rw [up_nan (.inr h2), key_inf h1 h2, key_nan nan_canon]; decide
      · obtain ⟨_, h3⟩ := up_key h h1 h2
        omega
    rw [ord3_lt hlt]
    rfl
theorem row_j5 (k1 : Bool → Option (Bool × Unit)) {x y : Nat} (hx : F64 x) (hy : F64 y) : law02RealRow.j5 3000 k1 x y = k1 true := by
  unfold law02RealRow.j5
  rw [up_eq 3000 hx, order_eq 3000 hx hy]
  simp only [Option.bind_some, order_eq 3000 hy (up_f64 hx), row_j8 _ hx]
  by_cases hlt : key x < key y
  · rw [ord3_lt hlt]
    have hn : ¬ key y < key (up x) := fun hh => by
      by_cases h1 : isNan x
      · have : key y ≤ 18444492273895866368 := by
          by_cases h2 : isNan y
          · rw [key_nan h2]; omega
          · have := key_lt h2; omega
        rw [key_nan h1] at hlt
        omega
      · by_cases h2 : sgn x = false ∧ rung x = 9218868437227405312
        · rw [key_inf h1 h2] at hlt
          rw [up_nan (.inr h2), key_nan nan_canon] at hh
          by_cases h3 : isNan y
          · rw [key_nan h3] at hh; omega
          · have := key_le_inf h3; omega
        · obtain ⟨_, h3⟩ := up_key hx h1 h2
          omega
    by_cases heq : key y = key (up x)
    · rw [ord3_eq heq]; rfl
    · rw [ord3_gt (show key (up x) < key y by omega)]; rfl
  · have : ¬ ord3 (key x) (key y) < 0 := by unfold ord3; rw [if_neg hlt]; split <;> omega
    rw [decide_eq_false this, cond_false]
/-- THE LAW. -/
theorem lawRealRow (a b c : Int) (h : okAll law02RealRow.con.ps (a, b, c, ())) : law02RealRow 3000 a b c = some (true, ()) := by
  obtain ⟨x, rfl, hx⟩ := f64Of (b := a) h.1
  obtain ⟨y, rfl, hy⟩ := f64Of (b := b) h.2.1
  obtain ⟨z, rfl, hz⟩ := f64Of (b := c) h.2.2.1
  unfold law02RealRow
  rw [from_bind, from_bind, from_bind]
  simp only [order_eq 3000 hx hy, order_eq 3000 hy hz, order_eq 3000 hx hz, order_eq 3000 hy hx, same_eq 3000 hx hy, key_eq 3000 hx, key_eq 3000 hy, Option.bind_some, row_j5 _ hx hy]
  have hc : (canon x == canon y) = decide (key x = key y) := by
    by_cases hh : key x = key y
    · rw [decide_eq_true hh, (key_canon hx hy).1 hh]; simp
    · rw [decide_eq_false hh]; exact beq_false_of_ne (fun e => hh ((key_canon hx hy).2 e))
  rw [hc]
  generalize key x = p
  generalize key y = q
  generalize key z = r
  have w : ∀ v : Int, v = -1 ∨ v = 0 ∨ v = 1 → IntKind.i64.wrap (0 - v) = -v := fun v hv => by rw [wrap_i64 (by omega) (by omega)]; omega
  rcases Int.lt_trichotomy p q with h1 | h1 | h1
  · have e1 : ord3 p q = -1 := ord3_lt h1
    have e2 : ord3 q p = 1 := ord3_gt h1
    rw [e1, e2, w 1 (by omega), decide_eq_false (show ¬ p = q by omega), decide_eq_true h1]
    by_cases h2 : ord3 q r ≤ 0
    · have h3 : q ≤ r := by
        unfold ord3 at h2
        split at h2
        · omega
        · split at h2 <;> omega
      have e3 : ord3 p r = -1 := ord3_lt (by omega)
      rw [e3, decide_eq_true h2]
      rfl
    · rw [decide_eq_false h2]
      rfl
  · subst h1
    have e1 : ord3 p p = 0 := ord3_eq rfl
    rw [e1, w 0 (by omega), decide_eq_true rfl, decide_eq_false (Int.lt_irrefl p)]
    by_cases h2 : ord3 p r ≤ 0
    · rw [decide_eq_true h2, decide_eq_false (show ¬ ord3 p r > 0 by omega)]
      rfl
    · rw [decide_eq_false h2]
      rfl
  · have e1 : ord3 p q = 1 := ord3_gt h1
    have e2 : ord3 q p = -1 := ord3_lt h1
    rw [e1, e2, w (-1) (by omega), decide_eq_false (show ¬ p = q by omega), decide_eq_false (show ¬ p < q by omega)]
    rfl
/-! Steps. -/
def ups : Nat → Nat → Nat
  | 0, x => x
  | n + 1, x => ups n (up x)
theorem ups_f64 : ∀ (n : Nat) {x : Nat}, F64 x → F64 (ups n x)
  | 0, _, h => h
  | n + 1, _, h => ups_f64 n (up_f64 h)
theorem up_of_nan {x : Nat} (h : isNan x) : isNan (up x) := by rw [up_nan (.inl h)]; exact nan_canon
theorem ups_nan : ∀ (n : Nat) {x : Nat}, isNan x → isNan (ups n x)
  | 0, _, h => h
  | n + 1, _, h => ups_nan n (up_of_nan h)
theorem ups_key : ∀ (n : Nat) {x : Nat}, F64 x → ¬ isNan x → (key x + n ≤ 18442240474082181120 → ¬ isNan (ups n x) ∧ key (ups n x) = key x + n) ∧ (18442240474082181120 < key x + n → isNan (ups n x))
  | 0, x, h, h1 => ⟨fun _ => ⟨h1, by simp [ups]⟩, fun hh => by have := key_le_inf h1; omega⟩
  | n + 1, x, h, h1 => by
    unfold ups
    by_cases h2 : sgn x = false ∧ rung x = 9218868437227405312
    · have hk := key_inf h1 h2
      refine ⟨fun hh => by omega, fun _ => ups_nan n ?_⟩
      rw [up_nan (.inr h2)]; exact nan_canon
    · obtain ⟨g1, g2⟩ := up_key h h1 h2
      obtain ⟨i1, i2⟩ := ups_key n (up_f64 h) g1
      rw [g2] at i1 i2
      refine ⟨fun hh => ?_, fun hh => i2 (by omega)⟩
      obtain ⟨j1, j2⟩ := i1 (by omega)
      exact ⟨j1, by omega⟩
theorem wrap_u8 {x : Int} (h0 : 0 ≤ x) (h1 : x < 256) : IntKind.u8.wrap x = x := by
  simp only [IntKind.wrap, IntKind.signed, IntKind.bits]
  simp
  omega
theorem steps_rounds (k2 : Int → Int → Nat → Option (Bool × Unit)) (n kv : Int) (v : Nat) (hv : v ≤ 255) : ∀ (j m i : Nat) (y : Nat), i + j = v → j < m → F64 y → law02RealSteps.l5 3000 k2 m n kv y v i = k2 n kv (ups j y) := by
  intro j
  induction j with
  | zero =>
    intro m i y hi hm hy
    obtain ⟨m, rfl⟩ : ∃ q, m = q + 1 := ⟨m - 1, by omega⟩
    unfold law02RealSteps.l5 law02RealSteps.b5
    have : ¬ (i : Int) < v := by omega
    simp only [this, decide_false, cond_false]
    rfl
  | succ j ih =>
    intro m i y hi hm hy
    obtain ⟨m, rfl⟩ : ∃ q, m = q + 1 := ⟨m - 1, by omega⟩
    unfold law02RealSteps.l5 law02RealSteps.b5
    have h : (i : Int) < v := by omega
    have e : IntKind.u8.wrap ((i : Int) + 1) = ((i + 1 : Nat) : Int) := wrap_u8 (by omega) (by omega)
    simp only [h, decide_true, cond_true, up_eq 3000 hy, Option.bind_some, e]
    exact ih m (i + 1) (up y) (by omega) (by omega) (up_f64 hy)
theorem u8Of {x : Int} (h : inR .u8 x) : 0 ≤ x ∧ x < 256 := by
  simp [inR, IntKind.min, IntKind.max, IntKind.signed, IntKind.bits] at h
  omega
/-- THE LAW. -/
theorem lawRealSteps (a n : Int) (h : okAll law02RealSteps.con.ps (a, n, ())) : law02RealSteps 3000 a n = some (true, ()) := by
  obtain ⟨x, rfl, hx⟩ := f64Of (b := a) h.1
  have hn := u8Of (x := n) h.2.1
  obtain ⟨N, rfl⟩ := Int.eq_ofNat_of_zero_le hn.1
  unfold law02RealSteps
  rw [from_bind]
  simp only [key_eq 3000 hx, Option.bind_some]
  refine (steps_rounds _ (N : Int) (key x) N (by omega) N 3000 0 x (by omega) (by omega) hx).trans ?_
  have e1 : mathNaN 3000 = some (9221120237041090561, ()) := rfl
  have e2 : mathInf 3000 1 = some (9218868437227405312, ()) := rfl
  have f1 : F64 9221120237041090561 := by unfold F64; omega
  have f2 : F64 9218868437227405312 := by unfold F64; omega
  have k1 : key 9221120237041090561 = 18444492273895866368 := key_nan (by unfold isNan rung; omega)
  have n2 : ¬ isNan 9218868437227405312 := by unfold isNan rung; omega
  have k2 : key 9218868437227405312 = 18442240474082181120 := key_inf n2 ⟨by decide, by unfold rung; omega⟩
  have hy := ups_f64 N hx
  obtain ⟨c, c1, c2⟩ := class_eq 3000 hy
  have hkx : 0 ≤ key x ∧ key x ≤ 18444492273895866368 := by
    by_cases h1 : isNan x
    · rw [key_nan h1]; omega
    · have := key_le_inf h1; omega
  have w1 : IntKind.u64.wrap ((N : Nat) : Int) = N := wrap_u64 (by omega) (by omega)
  have w2 : IntKind.u64.wrap (18444492273895866368 - key x) = 18444492273895866368 - key x := wrap_u64 (by omega) (by omega)
  have w3 : IntKind.u64.wrap (key x + (N : Int)) = key x + N := wrap_u64 (by omega) (by omega)
  simp only [e1, e2, Option.bind_some, key_eq 3000 f1, key_eq 3000 f2, k1, k2, w1, w2, w3, fixed02, cond_true, c1, c2, key_eq 3000 hy]
  by_cases h1 : isNan x
  · have hN := ups_nan N h1
    rw [decide_eq_true hN, key_nan h1]
    by_cases h3 : (18444492273895866368 : Int) - 18444492273895866368 < (N : Int)
    · rw [decide_eq_true h3]; rfl
    · rw [decide_eq_false h3, decide_eq_true (show (18444492273895866368 : Int) + (N : Int) > 18442240474082181120 by omega)]; rfl
  · obtain ⟨u1, u2⟩ := ups_key N hx h1
    have hle := key_le_inf h1
    by_cases h3 : key x + (N : Int) ≤ 18442240474082181120
    · obtain ⟨_, u3⟩ := u1 h3
      rw [decide_eq_false (show ¬ (18444492273895866368 - key x < (N : Int)) by omega), decide_eq_false (show ¬ key x + (N : Int) > 18442240474082181120 by omega), u3]
      simp only [cond_false, beq_self_eq_true]
    · rw [decide_eq_true (u2 (by omega)), decide_eq_true (show key x + (N : Int) > 18442240474082181120 by omega)]
      cases decide (18444492273895866368 - key x < (N : Int)) <;> rfl

/-! ### Whole numbers and numbers -/
theorem cut_parts (n drop : Nat) : n / (1 <<< min drop (n.log2 + 2)) = n / 2 ^ drop ∧ (n % (1 <<< min drop (n.log2 + 2)) = 0 ↔ n % 2 ^ drop = 0) := by
  rw [Nat.shiftLeft_eq, Nat.one_mul]
  by_cases h : drop ≤ n.log2 + 2
  · rw [Nat.min_eq_left h]
    exact ⟨rfl, Iff.rfl⟩
  · have hn : n < 2 ^ (n.log2 + 1) := Nat.lt_log2_self
    have h1 : 2 ^ (n.log2 + 1) ≤ 2 ^ (n.log2 + 2) := Nat.pow_le_pow_right (by omega) (by omega)
    have h2 : 2 ^ (n.log2 + 1) ≤ 2 ^ drop := Nat.pow_le_pow_right (by omega) (by omega)
    rw [Nat.min_eq_right (by omega), Nat.div_eq_of_lt (by omega), Nat.div_eq_of_lt (by omega), Nat.mod_eq_of_lt (by omega), Nat.mod_eq_of_lt (by omega)]
    exact ⟨rfl, Iff.rfl⟩
/-- A unit, in least ones. -/
def UE : Nat := 1074
def UN : Nat := 2 ^ UE
theorem UN_pos : 0 < UN := Nat.two_pow_pos _
theorem place_div (m j : Nat) : (m <<< (-(UE : Int) + j).toNat) / 2 ^ (-(-(UE : Int) + j)).toNat = m * 2 ^ j / UN ∧ ((m <<< (-(UE : Int) + j).toNat) % 2 ^ (-(-(UE : Int) + j)).toNat = 0 ↔ m * 2 ^ j % UN = 0) := by
  unfold UN
  rw [Nat.shiftLeft_eq]
  by_cases h : UE ≤ j
  · have e1 : (-(UE : Int) + j).toNat = j - UE := by omega
    have e2 : (-(-(UE : Int) + j)).toNat = 0 := by omega
    have e3 : m * 2 ^ j = m * 2 ^ (j - UE) * 2 ^ UE := by rw [Nat.mul_assoc, ← Nat.pow_add, Nat.sub_add_cancel h]
    rw [e1, e2, e3, Nat.pow_zero, Nat.div_one, Nat.mod_one, Nat.mul_div_cancel _ (Nat.two_pow_pos _), Nat.mul_mod_left]
    exact ⟨rfl, Iff.rfl⟩
  · have e1 : (-(UE : Int) + j).toNat = 0 := by omega
    have e2 : (-(-(UE : Int) + j)).toNat = UE - j := by omega
    have e3 : (2 : Nat) ^ UE = 2 ^ (UE - j) * 2 ^ j := by rw [← Nat.pow_add, Nat.sub_add_cancel (by omega)]
    rw [e1, e2, e3, Nat.pow_zero, Nat.mul_one, Nat.mul_div_mul_right _ _ (Nat.two_pow_pos _), Nat.mul_mod_mul_right]
    refine ⟨rfl, fun h => by rw [h, Nat.zero_mul], fun h => ?_⟩
    rcases Nat.mul_eq_zero.1 h with h | h
    · exact h
    · have := Nat.two_pow_pos j; omega
theorem lp64 : LP64 = -(UE : Int) := by decide
/-- How many whole units lie at or below a number, by its size. -/
def flo (s : Bool) (V : Nat) : Nat := V / UN + (s && decide (V % UN ≠ 0)).toNat
theorem bne_dec (a : Nat) : (a != 0) = decide (a ≠ 0) := by cases a <;> rfl
theorem cut_down (s : Bool) (m j : Nat) : Ieee.Toward.down.cut s (m <<< (LP64 + j).toNat) (-(LP64 + j)).toNat = flo s (m * 2 ^ j) := by
  unfold Ieee.Toward.cut flo
  rw [lp64]
  simp only
  obtain ⟨h1, h2⟩ := cut_parts (m <<< (-(UE : Int) + j).toNat) (-(-(UE : Int) + j)).toNat
  obtain ⟨h3, h4⟩ := place_div m j
  rw [h1, h3, bne_dec]
  congr 3
  exact decide_eq_decide.2 (not_congr (h2.trans h4))
theorem cut_zero (s : Bool) (m j : Nat) : Ieee.Toward.zero.cut s (m <<< (LP64 + j).toNat) (-(LP64 + j)).toNat = m * 2 ^ j / UN := by
  unfold Ieee.Toward.cut
  rw [lp64]
  simp only
  obtain ⟨h1, h2⟩ := cut_parts (m <<< (-(UE : Int) + j).toNat) (-(-(UE : Int) + j)).toNat
  obtain ⟨h3, h4⟩ := place_div m j
  rw [h1, h3]
  rfl
theorem int_eq {x : Nat} (h : rung x < 9218868437227405312) : (Ieee.double.read x).toInt .zero = some (sg (sgn x) (mag (rung x) / UN)) := by
  obtain ⟨m, k, e1, e2⟩ := read_num h
  rw [e1]
  show some (Ieee.signed (sgn x) (Ieee.Toward.zero.cut (sgn x) (m <<< (LP64 + k).toNat) (-(LP64 + k)).toNat) 0) = _
  rw [cut_zero, signed_eq, e2, Nat.pow_zero, Nat.mul_one]
theorem floor_eq {x : Nat} (h : rung x < 9218868437227405312) : integ .down x = some (Ieee.double.nearest (sgn x) (flo (sgn x) (mag (rung x))) 0) := by
  obtain ⟨m, k, e1, e2⟩ := read_num h
  unfold integ
  have e3 : FloatKind.f64.decode x = .number (sgn x) m (LP64 + k) := e1
  rw [e3]
  show some (Ieee.double.nearest (sgn x) (Ieee.Toward.down.cut (sgn x) (m <<< (LP64 + k).toNat) (-(LP64 + k)).toNat) 0) = _
  rw [cut_down, e2]
/-- A whole number that there is room for is written as it is. -/
theorem near_word (s : Bool) (kept t : Nat) (h1 : 4503599627370496 ≤ kept) (h2 : kept < 9007199254740992) (h3 : t ≤ 1200) :
    rung (Ieee.double.word s (min (t * 4503599627370496 + kept) 9218868437227405312)) = t * 4503599627370496 + kept ∧ sgn (Ieee.double.word s (min (t * 4503599627370496 + kept) 9218868437227405312)) = s ∧ mag (t * 4503599627370496 + kept) = kept * 2 ^ t ∧ t * 4503599627370496 + kept < 9218868437227405312 ∧ Ieee.double.word s (min (t * 4503599627370496 + kept) 9218868437227405312) < 18446744073709551616 := by
  have hw : Ieee.double.signWeight = 9223372036854775808 := by decide
  unfold Ieee.Format.word rung sgn mag
  rw [hw, Nat.min_eq_left (by omega)]
  refine ⟨?_, ?_, ?_, by omega, ?_⟩
  · cases s <;> simp <;> omega
  · cases s <;> simp <;> omega
  · rw [if_neg (by omega), show (t * 4503599627370496 + kept) / 4503599627370496 - 1 = t by omega, show 4503599627370496 + (t * 4503599627370496 + kept) % 4503599627370496 = kept by omega]
  · cases s <;> simp <;> omega
theorem ue1 {a : Nat} (h : a ≤ 52) : 52 - a + (a + 1022) = UE := by unfold UE; omega
theorem ue2 (t : Nat) : t + 52 + 1022 = t + UE := by unfold UE; omega
theorem near_whole (s : Bool) (c d : Nat) (hc : c < 9007199254740992) (hk : c * 2 ^ d < 18446744073709551616) :
    rung (Ieee.double.nearest s (c * 2 ^ d) 0) < 9218868437227405312 ∧ sgn (Ieee.double.nearest s (c * 2 ^ d) 0) = s ∧ mag (rung (Ieee.double.nearest s (c * 2 ^ d) 0)) = c * 2 ^ d * UN ∧ Ieee.double.nearest s (c * 2 ^ d) 0 < 18446744073709551616 := by
  have hw : Ieee.double.signWeight = 9223372036854775808 := by decide
  have hb : Ieee.double.binade = 4503599627370496 := by decide
  have hi : Ieee.double.infRung = 9218868437227405312 := by decide
  have hl : Ieee.double.leastPlace = -1074 := by decide
  have hf : Ieee.double.fractionBits = 52 := rfl
  by_cases h0 : c * 2 ^ d = 0
  · rw [h0]
    have : Ieee.double.nearest s 0 0 = if s then 9223372036854775808 else 0 := by
      unfold Ieee.Format.nearest Ieee.Format.word
      rw [if_pos rfl, hw, Nat.add_zero]
    rw [this]
    cases s <;> simp [rung, sgn, mag]
  · generalize hkk : c * 2 ^ d = k at h0 hk
    have hlo : 2 ^ k.log2 ≤ k := Nat.log2_self_le h0
    have hhi : k < 2 ^ (k.log2 + 1) := Nat.lt_log2_self
    have hlt : k.log2 < 64 := (Nat.log2_lt h0).2 hk
    unfold Ieee.Format.nearest
    rw [if_neg h0, hb, hi, hl, hf]
    simp only
    have el : max ((0 : Int) + (k.log2 : Int) - (52 : Nat)) (-1074) = (k.log2 : Int) - 52 := by omega
    rw [el]
    have et : ((k.log2 : Int) - 52 - -1074).toNat = k.log2 + 1022 := by omega
    rw [et]
    by_cases hA : k.log2 ≤ 52
    · have e1 : ((0 : Int) - ((k.log2 : Int) - 52)).toNat = 52 - k.log2 := by omega
      have e2 : ((k.log2 : Int) - 52 - 0).toNat = 0 := by omega
      have e3 : Ieee.Toward.even.cut s (k <<< (52 - k.log2)) 0 = k * 2 ^ (52 - k.log2) := by
        unfold Ieee.Toward.cut
        simp [Nat.mod_one, Nat.shiftLeft_eq]
      rw [e1, e2, e3]
      have p52 : (2 : Nat) ^ 52 = 4503599627370496 := by decide
      have p53 : (2 : Nat) ^ 53 = 9007199254740992 := by decide
      have q1 : 2 ^ k.log2 * 2 ^ (52 - k.log2) = 4503599627370496 := by rw [← Nat.pow_add, ← p52]; congr 1; omega
      have q2 : 2 ^ (k.log2 + 1) * 2 ^ (52 - k.log2) = 9007199254740992 := by rw [← Nat.pow_add, ← p53]; congr 1; omega
      have r1 : 2 ^ k.log2 * 2 ^ (52 - k.log2) ≤ k * 2 ^ (52 - k.log2) := Nat.mul_le_mul_right _ hlo
      have r2 : k * 2 ^ (52 - k.log2) < 2 ^ (k.log2 + 1) * 2 ^ (52 - k.log2) := Nat.mul_lt_mul_of_pos_right hhi (Nat.two_pow_pos _)
      obtain ⟨n1, n2, n3, n4, n5⟩ := near_word s (k * 2 ^ (52 - k.log2)) (k.log2 + 1022) (by omega) (by omega) (by omega)
      rw [n1]
      refine ⟨n4, n2, ?_, n5⟩
      rw [n3]
      unfold UN
      rw [Nat.mul_assoc, ← Nat.pow_add, ue1 hA]
    · have e1 : ((0 : Int) - ((k.log2 : Int) - 52)).toNat = 0 := by omega
      have e2 : ((k.log2 : Int) - 52 - 0).toNat = k.log2 - 52 := by omega
      obtain ⟨t, ht⟩ : ∃ t, k.log2 = t + 52 := ⟨k.log2 - 52, by omega⟩
      have hd : t ≤ d := by
        rcases Nat.lt_or_ge d t with hlt2 | hge
        · exfalso
          have a1 : c * 2 ^ d < 9007199254740992 * 2 ^ d := Nat.mul_lt_mul_of_pos_right hc (Nat.two_pow_pos _)
          have a2 : 9007199254740992 * 2 ^ d ≤ 9007199254740992 * 2 ^ (t - 1) := Nat.mul_le_mul_left _ (Nat.pow_le_pow_right (by omega) (by omega))
          have p53 : (2 : Nat) ^ 53 = 9007199254740992 := by decide
          have a3 : 9007199254740992 * 2 ^ (t - 1) = 2 ^ k.log2 := by rw [← p53, ← Nat.pow_add]; congr 1; omega
          omega
        · exact hge
      have ek : k = c * 2 ^ (d - t) * 2 ^ t := by rw [← hkk, Nat.mul_assoc, ← Nat.pow_add, Nat.sub_add_cancel hd]
      have e3 : Ieee.Toward.even.cut s (k <<< 0) t = c * 2 ^ (d - t) := by
        unfold Ieee.Toward.cut
        rw [Nat.shiftLeft_zero]
        obtain ⟨c1, c2⟩ := cut_parts k t
        have z : k % 2 ^ t = 0 := by rw [ek]; exact Nat.mul_mod_left _ _
        simp only [c1, c2.2 z]
        rw [show k / 2 ^ t = c * 2 ^ (d - t) by rw [ek]; exact Nat.mul_div_cancel _ (Nat.two_pow_pos _)]
        have g : 0 < 1 <<< min t (k.log2 + 2) := by rw [Nat.shiftLeft_eq, Nat.one_mul]; exact Nat.two_pow_pos _
        have g1 : ((1 <<< min t (k.log2 + 2)) == 2 * 0) = false := by rw [Nat.mul_zero]; exact beq_false_of_ne (by omega)
        simp
      rw [e1, e2, ht, Nat.add_sub_cancel, e3]
      have p52 : (2 : Nat) ^ 52 = 4503599627370496 := by decide
      have p53 : (2 : Nat) ^ 53 = 9007199254740992 := by decide
      rw [ht] at hlo hhi
      have b1 : 4503599627370496 * 2 ^ t ≤ c * 2 ^ (d - t) * 2 ^ t := by rw [← ek, ← p52, ← Nat.pow_add, Nat.add_comm]; exact hlo
      have b2 : c * 2 ^ (d - t) * 2 ^ t < 9007199254740992 * 2 ^ t := by rw [← ek, ← p53, ← Nat.pow_add, show 53 + t = t + 52 + 1 by omega]; exact hhi
      have b3 := Nat.le_of_mul_le_mul_right b1 (Nat.two_pow_pos _)
      have b4 := Nat.lt_of_mul_lt_mul_right b2
      obtain ⟨n1, n2, n3, n4, n5⟩ := near_word s (c * 2 ^ (d - t)) (t + 52 + 1022) b3 b4 (by omega)
      rw [n1]
      refine ⟨n4, n2, ?_, n5⟩
      rw [n3]
      unfold UN
      rw [ek, Nat.mul_assoc (c * 2 ^ (d - t)), ← Nat.pow_add, ue2 t]
theorem div_lo {m j : Nat} (h : j < UE) : m * 2 ^ j / UN = m / 2 ^ (UE - j) ∧ (m * 2 ^ j % UN = 0 ↔ m % 2 ^ (UE - j) = 0) := by
  obtain ⟨h1, h2⟩ := place_div m j
  have e1 : (-(UE : Int) + j).toNat = 0 := by omega
  have e2 : (-(-(UE : Int) + j)).toNat = UE - j := by omega
  rw [e1, e2, Nat.shiftLeft_zero] at h1 h2
  exact ⟨h1.symm, h2.symm⟩
theorem div_hi {m j : Nat} (h : UE ≤ j) : m * 2 ^ j / UN = m * 2 ^ (j - UE) ∧ m * 2 ^ j % UN = 0 := by
  obtain ⟨h1, h2⟩ := place_div m j
  have e1 : (-(UE : Int) + j).toNat = j - UE := by omega
  have e2 : (-(-(UE : Int) + j)).toNat = 0 := by omega
  rw [e1, e2, Nat.shiftLeft_eq, Nat.pow_zero, Nat.div_one] at h1
  rw [e1, e2, Nat.shiftLeft_eq, Nat.pow_zero, Nat.mod_one] at h2
  exact ⟨h1.symm, h2.1 rfl⟩
theorem mag_bits (r : Nat) : ∃ m j, m < 9007199254740992 ∧ mag r = m * 2 ^ j ∧ ((r < 4503599627370496 ∧ m = r ∧ j = 0) ∨ (4503599627370496 ≤ r ∧ m = 4503599627370496 + r % 4503599627370496 ∧ j = r / 4503599627370496 - 1)) := by
  unfold mag
  by_cases h : r < 4503599627370496
  · exact ⟨r, 0, by omega, by rw [if_pos h, Nat.pow_zero, Nat.mul_one], .inl ⟨h, rfl, rfl⟩⟩
  · exact ⟨4503599627370496 + r % 4503599627370496, r / 4503599627370496 - 1, by omega, by rw [if_neg h], .inr ⟨by omega, rfl, rfl⟩⟩
theorem flo_bits (s : Bool) (r : Nat) : ∃ c d, c < 9007199254740992 ∧ flo s (mag r) = c * 2 ^ d := by
  obtain ⟨m, j, h1, h2, -⟩ := mag_bits r
  rw [h2]
  unfold flo
  by_cases h : UE ≤ j
  · obtain ⟨e1, e2⟩ := div_hi (m := m) h
    refine ⟨m, j - UE, h1, ?_⟩
    rw [e1, e2]
    simp
  · obtain ⟨e1, e2⟩ := div_lo (m := m) (j := j) (by omega)
    refine ⟨_, 0, ?_, (Nat.mul_one _).symm⟩
    have p : m / 2 ^ (UE - j) ≤ m / 2 ^ 1 := Nat.div_le_div_left (Nat.pow_le_pow_right (by omega) (by omega)) (by decide)
    have q : ∀ b : Bool, b.toNat ≤ 1 := fun b => by cases b <;> decide
    have := q (s && decide (m * 2 ^ j % UN ≠ 0))
    rw [e1]
    rw [Nat.pow_one] at p
    omega
theorem flo_le {s : Bool} {V B : Nat} (h : V ≤ B * UN) : flo s V ≤ B := by
  unfold flo
  have h1 := Nat.div_add_mod V UN
  have hp := UN_pos
  rw [Nat.mul_comm] at h1
  generalize V / UN = q at h1 ⊢
  generalize V % UN = r at h1 ⊢
  by_cases hr : r = 0
  · subst hr
    have : q * UN ≤ B * UN := by omega
    have := Nat.le_of_mul_le_mul_right this hp
    cases s <;> simp <;> omega
  · have : q * UN < B * UN := by omega
    have := Nat.lt_of_mul_lt_mul_right this
    cases s <;> simp [hr] <;> omega
theorem flo_gt {V B : Nat} (h : B * UN < V) : B < flo true V := by
  unfold flo
  have h1 := Nat.div_add_mod V UN
  have hp := UN_pos
  have h2 := Nat.mod_lt V hp
  rw [Nat.mul_comm] at h1
  generalize V / UN = q at h1 ⊢
  generalize V % UN = r at h1 h2 ⊢
  by_cases hr : r = 0
  · subst hr
    have : B * UN < q * UN := by omega
    have := Nat.lt_of_mul_lt_mul_right this
    simp; omega
  · have : B * UN < (q + 1) * UN := by rw [Nat.add_mul, Nat.one_mul]; omega
    have := Nat.lt_of_mul_lt_mul_right this
    simp [hr]; omega
theorem flo_cmp (s : Bool) (V : Nat) : sg s (flo s V * UN) < sg s V ↔ V % UN ≠ 0 := by
  unfold flo sg
  have h1 := Nat.div_add_mod V UN
  have hp := UN_pos
  have h2 := Nat.mod_lt V hp
  rw [Nat.mul_comm] at h1
  generalize V / UN = q at h1 ⊢
  generalize V % UN = r at h1 h2 ⊢
  cases s with
  | false =>
    simp only [Bool.false_eq_true, if_false, Bool.false_and, Bool.toNat_false, Nat.add_zero]
    omega
  | true =>
    simp only [if_true, Bool.true_and]
    by_cases hr : r = 0
    · subst hr
      simp
      omega
    · have : (decide (r ≠ 0)) = true := decide_eq_true hr
      rw [this, Bool.toNat_true, Nat.add_mul, Nat.one_mul]
      omega
def B63 : Nat := 9223372036854775808
theorem mag63 : mag 4890909195324358656 = B63 * UN := by
  obtain ⟨m, j, h1, h2, h3⟩ := mag_bits 4890909195324358656
  rcases h3 with ⟨h, -⟩ | ⟨-, hm, hj⟩
  · omega
  · rw [h2]
    have hm : m = 4503599627370496 := by omega
    have hj : j = 11 + UE := by unfold UE; omega
    rw [hm, hj, Nat.pow_add]
    unfold B63 UN
    rw [← Nat.mul_assoc]
theorem mag_le {r q : Nat} : mag r ≤ mag q ↔ r ≤ q := by
  constructor
  · intro h
    rcases Nat.lt_or_ge q r with hl | hg
    · have := mag_mono hl; omega
    · exact hg
  · intro h
    rcases Nat.lt_or_ge r q with hl | hg
    · have := mag_mono hl; omega
    · have : r = q := by omega
      subst this; exact Nat.le_refl _
theorem mag_lt {r q : Nat} : mag r < mag q ↔ r < q := by
  have := @mag_le q r
  omega
theorem sk_mag (x y : Nat) : sk x < sk y ↔ sg (sgn x) (mag (rung x)) < sg (sgn y) (mag (rung y)) := by
  have h := mag_cmp (sgn x) (sgn y) (rung x) (rung y)
  rw [ord_cases, ord_cases] at h
  unfold sk
  by_cases h1 : sg (sgn x) (mag (rung x)) < sg (sgn y) (mag (rung y))
  · rw [if_pos h1] at h
    by_cases h2 : sg (sgn x) (rung x) < sg (sgn y) (rung y)
    · exact ⟨fun _ => h1, fun _ => h2⟩
    · rw [if_neg h2] at h
      split at h <;> cases h
  · rw [if_neg h1] at h
    by_cases h2 : sg (sgn x) (rung x) < sg (sgn y) (rung y)
    · rw [if_pos h2] at h
      split at h <;> cases h
    · exact ⟨fun h => absurd h h2, fun h => absurd h h1⟩
/-- How a whole number stands to a number. -/
def ag (n : Int) (x : Nat) : Int × Bool :=
  if isNan x then (0, false) else
  if sgn x = false ∧ 4890909195324358656 ≤ rung x then (-1, true) else
  if sgn x = true ∧ 4890909195324358656 < rung x then (1, true) else
  if n < sg (sgn x) (flo (sgn x) (mag (rung x))) then (-1, true) else
  if sg (sgn x) (flo (sgn x) (mag (rung x))) < n then (1, true) else
  if mag (rung x) % UN ≠ 0 then (-1, true) else (0, true)
theorem cmpI_eq (fu : Nat) (a b : Int) : cmpCompare fu a b = some (ord3 a b, ()) := by
  unfold cmpCompare cmpIsNaN ord3
  simp only [bne_self_eq_false, Option.bind_some, cond_false]
  by_cases h1 : a < b
  · simp [h1]
  · by_cases h2 : b < a
    · simp [h1, h2]
    · simp [h1, h2]
theorem floor_val {x : Nat} (hn : ¬ isNan x) (hp : sgn x = false → rung x < 4890909195324358656) (hm : sgn x = true → rung x ≤ 4890909195324358656) :
    ∃ y, integ .down x = some y ∧ floatToIntVal .f64 y .i64 = some (sg (sgn x) (flo (sgn x) (mag (rung x)))) ∧ (fGtr x y = decide (mag (rung x) % UN ≠ 0)) := by
  have hr : rung x ≤ 4890909195324358656 := by
    cases hs : sgn x with
    | false => have := hp hs; omega
    | true => exact hm hs
  have hfin : rung x < 9218868437227405312 := by omega
  have hV : mag (rung x) ≤ B63 * UN := by rw [← mag63]; exact mag_le.2 hr
  have hk := flo_le (s := sgn x) hV
  have hk2 : sgn x = false → flo (sgn x) (mag (rung x)) < B63 := fun hs => by
    have hlt : mag (rung x) < B63 * UN := by rw [← mag63]; exact mag_lt.2 (hp hs)
    rw [hs]
    unfold flo
    rw [Bool.false_and, Bool.toNat_false, Nat.add_zero]
    exact (Nat.div_lt_iff_lt_mul UN_pos).2 hlt
  obtain ⟨c, d, hc, hcd⟩ := flo_bits (sgn x) (rung x)
  have h64 : c * 2 ^ d < 18446744073709551616 := by rw [← hcd]; unfold B63 at hk; omega
  obtain ⟨n1, n2, n3, n4⟩ := near_whole (sgn x) c d hc h64
  rw [← hcd] at n1 n2 n3 n4
  refine ⟨_, floor_eq hfin, ?_, ?_⟩
  · have hi := int_eq n1
    rw [n2, n3, Nat.mul_div_cancel _ UN_pos] at hi
    unfold floatToIntVal
    have hi' : (FloatKind.f64.decode (Ieee.double.nearest (sgn x) (flo (sgn x) (mag (rung x))) 0)).toInt .zero = some (sg (sgn x) (flo (sgn x) (mag (rung x)))) := hi
    rw [hi']
    simp only
    rw [if_pos]
    have e1 : IntKind.i64.min = -9223372036854775808 := by decide
    have e2 : IntKind.i64.max = 9223372036854775807 := by decide
    rw [e1, e2]
    unfold B63 at hk hk2
    cases hs : sgn x with
    | false =>
      have := hk2 hs
      rw [hs] at this
      simp only [sg, Bool.false_eq_true, if_false]
      omega
    | true =>
      rw [hs] at hk
      simp only [sg, if_true]
      omega
  · rw [fGtr_eq]
    have hny : ¬ isNan (Ieee.double.nearest (sgn x) (flo (sgn x) (mag (rung x))) 0) := by unfold isNan; omega
    refine decide_eq_decide.2 ?_
    rw [sk_mag, n2, n3, flo_cmp]
    exact ⟨fun h => h.2.2, fun h => ⟨hn, hny, h⟩⟩
theorem against_eq (fu : Nat) (n : Int) (x : Nat) : realAgainst fu n x = some ((ag n x).1, (ag n x).2, ()) := by
  unfold realAgainst ag
  rw [fNeq_self, fGeq_eq, fLss_eq]
  have y1 : ¬ isNan 4890909195324358656 := by decide
  have y2 : ¬ isNan 14114281232179134464 := by decide
  have y3 : sk 4890909195324358656 = 4890909195324358656 := by decide
  have y4 : sk 14114281232179134464 = -4890909195324358656 := by decide
  by_cases hn : isNan x
  · rw [decide_eq_true hn, if_pos hn]; rfl
  · rw [decide_eq_false hn, if_neg hn, cond_false, y3, y4]
    by_cases h1 : sgn x = false ∧ 4890909195324358656 ≤ rung x
    · have : (4890909195324358656 : Int) ≤ sk x := by unfold sk sg; rw [h1.1]; simp only [Bool.false_eq_true, if_false]; omega
      rw [if_pos h1, decide_eq_true ⟨hn, y1, this⟩]; rfl
    · have q1 : ¬ (¬ isNan x ∧ ¬ isNan 4890909195324358656 ∧ (4890909195324358656 : Int) ≤ sk x) := by
        rintro ⟨-, -, h⟩
        unfold sk sg at h
        cases hs : sgn x with
        | false => rw [hs] at h; simp only [Bool.false_eq_true, if_false] at h; exact h1 ⟨hs, by omega⟩
        | true => rw [hs] at h; simp only [if_true] at h; omega
      rw [if_neg h1, decide_eq_false q1]
      simp only [cond_false]
      by_cases h2 : sgn x = true ∧ 4890909195324358656 < rung x
      · have : sk x < -4890909195324358656 := by unfold sk sg; rw [h2.1]; simp only [if_true]; omega
        rw [if_pos h2, decide_eq_true ⟨hn, y2, this⟩]; rfl
      · have q2 : ¬ (¬ isNan x ∧ ¬ isNan 14114281232179134464 ∧ sk x < -4890909195324358656) := by
          rintro ⟨-, -, h⟩
          unfold sk sg at h
          cases hs : sgn x with
          | false => rw [hs] at h; simp only [Bool.false_eq_true, if_false] at h; omega
          | true => rw [hs] at h; simp only [if_true] at h; exact h2 ⟨hs, by omega⟩
        rw [if_neg h2, decide_eq_false q2]
        obtain ⟨y, f1, f2, f3⟩ := floor_val hn (fun hs => by by_cases hh : 4890909195324358656 ≤ rung x; exact absurd ⟨hs, hh⟩ h1; omega) (fun hs => by by_cases hh : 4890909195324358656 < rung x; exact absurd ⟨hs, hh⟩ h2; omega)
        have f4 : mathFloor fu x = some (y, ()) := by
          unfold mathFloor
          have : extFloor.f fu (x, ()) = some (y, ()) := by
            show (integ .down x).map (fun y => (y, ())) = _
            rw [f1]; rfl
          rw [this]; rfl
        have f5 : fIntOk .i64 y = true := by unfold fIntOk; rw [f2]; rfl
        have f6 : fInt .i64 y = sg (sgn x) (flo (sgn x) (mag (rung x))) := by unfold fInt; rw [f2]; rfl
        rw [f4]
        simp only [cond_false, Option.bind_some, f5, chk, cond_true, f6, cmpI_eq, f3]
        generalize sg (sgn x) (flo (sgn x) (mag (rung x))) = D
        unfold ord3
        by_cases a1 : n < D
        · simp only [if_pos a1]; rfl
        · by_cases a2 : D < n
          · simp only [if_neg a1, if_pos a2]; rfl
          · simp only [if_neg a1, if_neg a2]
            by_cases a3 : mag (rung x) % UN ≠ 0
            · rw [decide_eq_true a3, if_pos a3]; rfl
            · rw [decide_eq_false a3, if_neg a3]; rfl
theorem half_rounds (fu : Nat) (k2 : Int → Int → Int → Bool → S0 → Option (Int × Bool × Int × Unit)) (side : Int) (b0 : S0) : ∀ (d f m : Nat) (ex : Bool), d < f → d ≤ 5000 → m < 18446744073709551616 →
    ref02PartsFloor.l10 fu k2 f side m (-(d : Int)) ex b0 = k2 side ((m / 2 ^ d : Nat) : Int) 0 (ex && decide (m % 2 ^ d = 0)) b0 := by
  intro d
  induction d with
  | zero =>
    intro f m ex h1 h2 h3
    obtain ⟨f, rfl⟩ : ∃ j, f = j + 1 := ⟨f - 1, by omega⟩
    unfold ref02PartsFloor.l10 ref02PartsFloor.b10
    rw [decide_eq_false (by omega), cond_false, Nat.pow_zero, Nat.div_one, Nat.mod_one, decide_eq_true rfl, Bool.and_true]
    rfl
  | succ d ih =>
    intro f m ex h1 h2 h3
    obtain ⟨f, rfl⟩ : ∃ j, f = j + 1 := ⟨f - 1, by omega⟩
    have t1 : Int.tmod (m : Int) 2 = (m : Int) % 2 := Int.tmod_eq_emod_of_nonneg (by omega)
    have t2 : Int.tdiv (m : Int) 2 = ((m / 2 : Nat) : Int) := by rw [Int.tdiv_eq_ediv_of_nonneg (by omega)]; omega
    have e1 : IntKind.u64.wrap ((m / 2 : Nat) : Int) = ((m / 2 : Nat) : Int) := wrap_u64 (by omega) (by omega)
    have e2 : IntKind.i64.wrap (-((d + 1 : Nat) : Int) + 1) = -(d : Int) := by rw [wrap_i64 (by omega) (by omega)]; omega
    have e3 : m / 2 / 2 ^ d = m / 2 ^ (d + 1) := by rw [Nat.div_div_eq_div_mul, Nat.pow_succ, Nat.mul_comm]
    have e4 : m % 2 ^ (d + 1) = m % 2 + 2 * (m / 2 % 2 ^ d) := by rw [Nat.pow_succ, Nat.mul_comm, Nat.mod_mul]
    conv => lhs; unfold ref02PartsFloor.l10 ref02PartsFloor.b10
    rw [decide_eq_true (by omega), cond_true]
    simp only [t1, t2, e1, e2]
    by_cases hb : m % 2 = 1
    · have hb' : ((m : Int) % 2 == 1) = true := by rw [show (m : Int) % 2 = 1 by omega]; rfl
      rw [hb', cond_true, ih f (m / 2) false (by omega) (by omega) (by omega), e3, Bool.false_and, decide_eq_false (by omega), Bool.and_false]
    · have hb' : ((m : Int) % 2 == 1) = false := by rw [show (m : Int) % 2 = 0 by omega]; rfl
      rw [hb', cond_false, ih f (m / 2) ex (by omega) (by omega) (by omega), e3]
      congr 2
      exact decide_eq_decide.2 (by omega)
theorem twice_rounds (fu : Nat) (k1 : Int → Bool → Int → Option (Int × Bool × Int × Unit)) (k4 : Int → Bool → S0 → Option (Int × Bool × Int × Unit)) (side : Int) (b0 : S0) (ex : Bool) : ∀ (d f m : Nat), d < f → d ≤ 5000 → m < 18446744073709551616 →
    ref02PartsFloor.l15 fu k1 k4 f side m d ex b0 = if d = 0 ∨ m * 2 ^ (d - 1) < 9223372036854775808 then k4 ((m * 2 ^ d : Nat) : Int) ex b0 else k1 0 false side := by
  intro d
  induction d with
  | zero =>
    intro f m h1 h2 h3
    obtain ⟨f, rfl⟩ : ∃ j, f = j + 1 := ⟨f - 1, by omega⟩
    unfold ref02PartsFloor.l15 ref02PartsFloor.b15
    rw [decide_eq_false (by omega), cond_false, if_pos (Or.inl rfl), Nat.pow_zero, Nat.mul_one]
  | succ d ih =>
    intro f m h1 h2 h3
    obtain ⟨f, rfl⟩ : ∃ j, f = j + 1 := ⟨f - 1, by omega⟩
    have e2 : IntKind.i64.wrap (((d + 1 : Nat) : Int) - 1) = (d : Int) := by rw [wrap_i64 (by omega) (by omega)]; omega
    conv => lhs; unfold ref02PartsFloor.l15 ref02PartsFloor.b15
    rw [decide_eq_true (by omega), cond_true]
    simp only [e2, Nat.add_sub_cancel]
    by_cases hb : 9223372036854775808 ≤ m
    · have : m * 1 ≤ m * 2 ^ d := Nat.mul_le_mul_left _ (Nat.two_pow_pos d)
      rw [decide_eq_true (show (m : Int) ≥ 9223372036854775808 by omega), cond_true, if_neg (by omega)]
    · have e1 : IntKind.u64.wrap ((m : Int) * 2) = ((2 * m : Nat) : Int) := by rw [wrap_u64 (by omega) (by omega)]; omega
      rw [decide_eq_false (show ¬ (m : Int) ≥ 9223372036854775808 by omega), cond_false, e1, ih f (2 * m) (by omega) (by omega) (by omega)]
      have e3 : 2 * m * 2 ^ d = m * 2 ^ (d + 1) := by rw [Nat.pow_succ, Nat.mul_comm 2 m, Nat.mul_assoc, Nat.mul_comm 2]
      rw [e3]
      cases d with
      | zero => rw [if_pos (Or.inl rfl), if_pos (Or.inr (by simp; omega))]
      | succ d =>
        have e4 : 2 * m * 2 ^ (d + 1 - 1) = m * 2 ^ (d + 1) := by rw [Nat.add_sub_cancel, Nat.pow_succ, Nat.mul_comm 2 m, Nat.mul_assoc, Nat.mul_comm 2]
        rw [e4]
        by_cases hc : m * 2 ^ (d + 1) < 9223372036854775808
        · rw [if_pos (Or.inr hc), if_pos (Or.inr hc)]
        · rw [if_neg (by omega), if_neg (by omega)]
/-- The document's floor. -/
def fl3 (x : Nat) : Int × Bool × Int :=
  if 9218868437227405312 ≤ rung x then (0, false, if sgn x = true then -1 else 1) else
  if sgn x = false then (if 9223372036854775808 ≤ mag (rung x) / UN then (0, false, 1) else (((mag (rung x) / UN : Nat) : Int), decide (mag (rung x) % UN = 0), 0)) else
  if 9223372036854775808 < flo true (mag (rung x)) then (0, false, -1) else (-((flo true (mag (rung x)) : Nat) : Int), decide (mag (rung x) % UN = 0), 0)
/-- The end of it: the size made whole, whether it was. -/
theorem tail_eq (fu : Nat) (s : Bool) (M : Nat) (ex : Bool) (hM : M < 18446744073709551615) (hx : M ≥ 18446744073709551615 - 1 → ex = true) :
    (cond (!s) (let t2 := decide ((M : Int) ≥ (9223372036854775808 : Int)); cond t2 (some ((0 : Int), false, (1 : Int), ())) (some (IntKind.i64.wrap (M : Int), ex, (0 : Int), ()))) (cond (!ex) (let t3 := IntKind.u64.wrap ((M : Int) + (1 : Int)); ref02PartsFloor.j26 fu (fun a b c => some (a, b, c, ())) t3 ex) (ref02PartsFloor.j26 fu (fun a b c => some (a, b, c, ())) (M : Int) ex)) : Option (Int × Bool × Int × Unit)) =
    if s = false then (if 9223372036854775808 ≤ M then some (0, false, 1, ()) else some ((M : Int), ex, 0, ())) else if 9223372036854775808 < M + (!ex).toNat then some (0, false, -1, ()) else some (-((M + (!ex).toNat : Nat) : Int), ex, 0, ()) := by
  have j : ∀ K : Nat, K < 18446744073709551616 → ref02PartsFloor.j26 fu (fun a b c => some (a, b, c, ())) (K : Int) ex = if 9223372036854775808 < K then some (0, false, -1, ()) else some (-(K : Int), ex, 0, ()) := fun K hK => by
    unfold ref02PartsFloor.j26
    by_cases hk : 9223372036854775808 < K
    · rw [decide_eq_true (show (K : Int) > 9223372036854775808 by omega), if_pos hk]; rfl
    · have e1 : IntKind.i64.wrap (IntKind.u64.wrap (0 - (K : Int))) = -(K : Int) := by
        simp only [IntKind.wrap, IntKind.signed, IntKind.bits]
        simp
        omega
      rw [decide_eq_false (show ¬ (K : Int) > 9223372036854775808 by omega), if_neg hk]
      simp only [cond_false, e1]
  cases s with
  | false =>
    simp only [Bool.not_false, cond_true, if_true]
    by_cases h : 9223372036854775808 ≤ M
    · rw [decide_eq_true (show (M : Int) ≥ 9223372036854775808 by omega), if_pos h]; rfl
    · rw [decide_eq_false (show ¬ (M : Int) ≥ 9223372036854775808 by omega), if_neg h, wrap_i64 (by omega) (by omega)]; rfl
  | true =>
    cases ex with
    | true =>
      simp only [Bool.not_true, cond_false, Bool.toNat_false, Nat.add_zero]
      rw [j M (by omega)]
      rfl
    | false =>
      have e1 : IntKind.u64.wrap ((M : Int) + 1) = ((M + 1 : Nat) : Int) := by rw [wrap_u64 (by omega) (by omega)]; omega
      simp only [Bool.not_true, cond_false, Bool.not_false, cond_true, Bool.toNat_true, e1]
      rw [j (M + 1) (by omega)]
      rfl
theorem pow_pred (m : Nat) {d : Nat} (h : 0 < d) : m * 2 ^ d = m * 2 ^ (d - 1) * 2 := by
  obtain ⟨e, rfl⟩ : ∃ e, d = e + 1 := ⟨d - 1, by omega⟩
  rw [Nat.add_sub_cancel, Nat.pow_succ, Nat.mul_assoc]
theorem half_exit (fu : Nat) (k2 : Int → Int → Int → Bool → S0 → Option (Int × Bool × Int × Unit)) (f : Nat) (side m e : Int) (ex : Bool) (b0 : S0) (h : ¬ e < 0) :
    ref02PartsFloor.l10 fu k2 (f + 1) side m e ex b0 = k2 side m e ex b0 := by
  unfold ref02PartsFloor.l10 ref02PartsFloor.b10
  rw [decide_eq_false h, cond_false]
theorem value_eq (fu x : Nat) (hfin : rung x < 9218868437227405312) : ∃ m j : Nat, m < 9007199254740992 ∧ mag (rung x) = m * 2 ^ j ∧ j ≤ 2046 ∧ ref02PartsValue fu (parts x) = some ((m : Int), (j : Int) - (UE : Int), ()) := by
  obtain ⟨m, j, h1, h2, h3⟩ := mag_bits (rung x)
  have hr := parts_rung x
  have hu : (UE : Int) = 1074 := rfl
  refine ⟨m, j, h1, h2, ?_, ?_⟩
  · rcases h3 with ⟨a, b, c⟩ | ⟨a, b, c⟩ <;> omega
  · unfold ref02PartsValue parts
    simp only
    rw [hu]
    rcases h3 with ⟨a, b, c⟩ | ⟨a, b, c⟩
    · have e0 : (x : Int) / 4503599627370496 % 2048 = 0 := by omega
      have e1 : (x : Int) % 4503599627370496 = (m : Int) := by omega
      rw [e0, e1, c]
      rfl
    · have e0 : ((x : Int) / 4503599627370496 % 2048 == 0) = false := beq_false_of_ne (by omega)
      have e1 : IntKind.u64.wrap ((x : Int) % 4503599627370496 + 4503599627370496) = (m : Int) := by rw [wrap_u64 (by omega) (by omega)]; omega
      have e2 : IntKind.i64.wrap ((x : Int) / 4503599627370496 % 2048 - 1075) = (j : Int) - 1074 := by rw [wrap_i64 (by omega) (by omega)]; omega
      rw [e0, cond_false, e1, e2]
theorem fl3_of (x : Nat) (hfin : rung x < 9218868437227405312) (M : Nat) (ex : Bool) (hM : M = mag (rung x) / UN) (hex : ex = decide (mag (rung x) % UN = 0)) :
    (if sgn x = false then (if 9223372036854775808 ≤ M then some (0, false, 1, ()) else some ((M : Int), ex, 0, ())) else if 9223372036854775808 < M + (!ex).toNat then some (0, false, -1, ()) else some (-((M + (!ex).toNat : Nat) : Int), ex, 0, ()) : Option (Int × Bool × Int × Unit)) = some ((fl3 x).1, (fl3 x).2.1, (fl3 x).2.2, ()) := by
  have hf : flo true (mag (rung x)) = M + (!ex).toNat := by
    unfold flo
    rw [hM, hex, Bool.true_and]
    by_cases h : mag (rung x) % UN = 0 <;> simp [h]
  unfold fl3
  rw [if_neg (show ¬ 9218868437227405312 ≤ rung x by omega), hf, ← hM, ← hex]
  cases sgn x with
  | false =>
    simp only [if_true]
    by_cases h : 9223372036854775808 ≤ M
    · simp only [if_pos h]
    · simp only [if_neg h]
  | true =>
    simp only [Bool.true_eq_false, if_false]
    by_cases h : 9223372036854775808 < M + (!ex).toNat
    · simp only [if_pos h]
    · simp only [if_neg h]
theorem refFloor_eq (fu : Nat) (hfu : 3000 ≤ fu) (x : Nat) (hx : F64 x) (hn : ¬ isNan x) : ref02PartsFloor fu (parts x) = some ((fl3 x).1, (fl3 x).2.1, (fl3 x).2.2, ()) := by
  have key : ref02PartsFloor.j4 fu (fun a b c => some (a, b, c, ())) (if sgn x = true then -1 else 1) (parts x) = some ((fl3 x).1, (fl3 x).2.1, (fl3 x).2.2, ()) := by
    unfold ref02PartsFloor.j4
    have hE : ((parts x).2.1 == (2047 : Int)) = decide (9218868437227405312 ≤ rung x) := by
      have hr := parts_rung x
      show decide ((x : Int) / 4503599627370496 % 2048 = 2047) = _
      exact decide_eq_decide.2 (by omega)
    rw [hE]
    by_cases hfin : rung x < 9218868437227405312
    · rw [decide_eq_false (by omega), cond_false]
      obtain ⟨m, j, h1, h2, h3, h4⟩ := value_eq fu x hfin
      rw [h4]
      simp only [Option.bind_some]
      by_cases hm : m = 0
      · subst hm
        rw [show (((0 : Nat) : Int) == 0) = true from rfl, cond_true]
        refine Eq.trans ?_ (fl3_of x hfin 0 true (by rw [h2, Nat.zero_mul, Nat.zero_div]) (by rw [h2, Nat.zero_mul, Nat.zero_mod]; rfl))
        cases sgn x <;> rfl
      · rw [show ((m : Int) == 0) = false from beq_false_of_ne (by omega), cond_false]
        have hu : UE = 1074 := rfl
        by_cases hj : j < UE
        · obtain ⟨d1, d2⟩ := div_lo (m := m) hj
          rw [show (j : Int) - (UE : Int) = -((UE - j : Nat) : Int) by omega, half_rounds fu _ _ _ (UE - j) fu m true (by omega) (by omega) (by omega)]
          have hq : m / 2 ^ (UE - j) ≤ m := Nat.div_le_self _ _
          have := twice_rounds fu (fun vq7 vq7x2 vq7x3 => some (vq7, vq7x2, vq7x3, ())) (fun mvq8 exactq8 b0q8 => 
              cond (!b0q8.1) (
                let t2 := decide (mvq8 ≥ (9223372036854775808 : Int))
                cond t2 (
                  some ((0 : Int), false, (1 : Int), ())) (
                  some (IntKind.i64.wrap mvq8, exactq8, (0 : Int), ()))) (
                cond (!exactq8) (
                  let t3 := IntKind.u64.wrap (mvq8 + (1 : Int))
                  ref02PartsFloor.j26 fu (fun a b c => some (a, b, c, ())) t3 exactq8) (
                  ref02PartsFloor.j26 fu (fun a b c => some (a, b, c, ())) mvq8 exactq8))) (if sgn x = true then -1 else 1) (parts x) (true && decide (m % 2 ^ (UE - j) = 0)) 0 fu (m / 2 ^ (UE - j)) (by omega) (by omega) (by omega)
          rw [if_pos (Or.inl rfl), Nat.pow_zero, Nat.mul_one] at this
          refine Eq.trans this ?_
          refine (tail_eq fu (sgn x) (m / 2 ^ (UE - j)) (true && decide (m % 2 ^ (UE - j) = 0)) (by omega) (by omega)).trans ?_
          exact fl3_of x hfin _ _ (by rw [h2, d1]) (by rw [h2, Bool.true_and]; exact decide_eq_decide.2 d2.symm)
        · obtain ⟨d1, d2⟩ := div_hi (m := m) (j := j) (by omega)
          obtain ⟨f, rfl⟩ : ∃ f, fu = f + 1 := ⟨fu - 1, by omega⟩
          rw [show (j : Int) - (UE : Int) = ((j - UE : Nat) : Int) by omega, half_exit _ _ _ _ _ _ _ _ (by omega)]
          have := twice_rounds (f + 1) (fun vq7 vq7x2 vq7x3 => some (vq7, vq7x2, vq7x3, ())) (fun mvq8 exactq8 b0q8 => 
              cond (!b0q8.1) (
                let t2 := decide (mvq8 ≥ (9223372036854775808 : Int))
                cond t2 (
                  some ((0 : Int), false, (1 : Int), ())) (
                  some (IntKind.i64.wrap mvq8, exactq8, (0 : Int), ()))) (
                cond (!exactq8) (
                  let t3 := IntKind.u64.wrap (mvq8 + (1 : Int))
                  ref02PartsFloor.j26 (f + 1) (fun a b c => some (a, b, c, ())) t3 exactq8) (
                  ref02PartsFloor.j26 (f + 1) (fun a b c => some (a, b, c, ())) mvq8 exactq8))) (if sgn x = true then -1 else 1) (parts x) true (j - UE) (f + 1) m (by omega) (by omega) (by omega)
          refine Eq.trans this ?_
          have hexM : true = decide (mag (rung x) % UN = 0) := by rw [h2]; exact (decide_eq_true d2).symm
          by_cases hc : j - UE = 0 ∨ m * 2 ^ (j - UE - 1) < 9223372036854775808
          · rw [if_pos hc]
            have hM : m * 2 ^ (j - UE) < 18446744073709551615 := by
              rcases hc with hc | hc
              · rw [hc, Nat.pow_zero]; omega
              · rcases Nat.eq_zero_or_pos (j - UE) with hz | hp
                · rw [hz, Nat.pow_zero]; omega
                · have := pow_pred m hp
                  omega
            refine (tail_eq (f + 1) (sgn x) (m * 2 ^ (j - UE)) true hM (fun _ => rfl)).trans ?_
            exact fl3_of x hfin _ _ (by rw [h2, d1]) hexM
          · rw [if_neg hc]
            have hp : 0 < j - UE := by omega
            have hbig : 18446744073709551616 ≤ m * 2 ^ (j - UE) := by
              have := pow_pred m hp
              omega
            refine Eq.trans ?_ (fl3_of x hfin (m * 2 ^ (j - UE)) true (by rw [h2, d1]) hexM)
            have g1 : 9223372036854775808 ≤ m * 2 ^ (j - UE) := by omega
            have g2 : 9223372036854775808 < m * 2 ^ (j - UE) + (!true).toNat := by simp only [Bool.not_true, Bool.toNat_false]; omega
            generalize m * 2 ^ (j - UE) = M at g1 g2
            rw [if_pos g1, if_pos g2]
            cases sgn x <;> rfl
    · rw [decide_eq_true (by omega), cond_true]
      unfold fl3
      rw [if_pos (show 9218868437227405312 ≤ rung x by omega)]
  unfold ref02PartsFloor
  have hs : (parts x).1 = sgn x := rfl
  rw [hs]
  cases h : sgn x with
  | false => rw [h] at key; exact key
  | true => rw [h] at key; exact key
theorem refAgainst_eq (fu : Nat) (hfu : 3000 ≤ fu) (n : Int) (x : Nat) (hx : F64 x) : ref02Against fu n (parts x) = some ((ag n x).1, (ag n x).2, ()) := by
  unfold ref02Against ag
  rw [refNaN_eq]
  simp only [Option.bind_some]
  by_cases hn : isNan x
  · rw [decide_eq_true hn, if_pos hn]; rfl
  · rw [decide_eq_false hn, if_neg hn, cond_false, refFloor_eq fu hfu x hx hn]
    simp only [Option.bind_some]
    have i1 : IntKind.i64.wrap (0 - 1) = -1 := by decide
    have i2 : IntKind.i64.wrap (0 - -1) = 1 := by decide
    have b1 : ((1 : Int) != 0) = true := rfl
    have b2 : ((-1 : Int) != 0) = true := rfl
    have b3 : ((0 : Int) != 0) = false := rfl
    have hr : rung x ≤ 9218868437227405312 := by unfold isNan at hn; omega
    have hB : B63 = 9223372036854775808 := rfl
    have hfl : ∀ (D : Int) (ex : Bool), (cond (decide (n < D)) (some ((-1 : Int), true, ())) (cond (decide (n > D)) (some ((1 : Int), true, ())) (cond (!ex) (some ((-1 : Int), true, ())) (some ((0 : Int), true, ())))) : Option (Int × Bool × Unit)) = if n < D then some (-1, true, ()) else if D < n then some (1, true, ()) else if ex = false then some (-1, true, ()) else some (0, true, ()) := fun D ex => by
      by_cases a1 : n < D
      · rw [decide_eq_true a1, if_pos a1]; rfl
      · rw [decide_eq_false a1, if_neg a1]
        by_cases a2 : D < n
        · rw [decide_eq_true (show n > D from a2), if_pos a2]; rfl
        · rw [decide_eq_false (show ¬ n > D from a2), if_neg a2]
          cases ex <;> rfl
    have fin : ∀ (D : Int), (if n < D then some (-1, true, ()) else if D < n then some (1, true, ()) else if decide (mag (rung x) % UN = 0) = false then some (-1, true, ()) else some (0, true, ()) : Option (Int × Bool × Unit)) = some ((if n < D then ((-1 : Int), true) else if D < n then (1, true) else if mag (rung x) % UN ≠ 0 then (-1, true) else (0, true)).1, (if n < D then ((-1 : Int), true) else if D < n then (1, true) else if mag (rung x) % UN ≠ 0 then (-1, true) else (0, true)).2, ()) := fun D => by
      by_cases a1 : n < D
      · simp only [if_pos a1]
      · by_cases a2 : D < n
        · simp only [if_neg a1, if_pos a2]
        · simp only [if_neg a1, if_neg a2]
          by_cases a3 : mag (rung x) % UN = 0
          · simp [a3]
          · simp [a3]
    cases hs : sgn x with
    | false =>
      unfold fl3
      rw [hs]
      simp only [Bool.false_eq_true, false_and, if_false, true_and, if_true]
      have hiff : 4890909195324358656 ≤ rung x ↔ 9223372036854775808 ≤ mag (rung x) / UN := by
        rw [← mag_le, mag63, hB]
        exact (Nat.le_div_iff_mul_le UN_pos).symm
      by_cases hinf : 9218868437227405312 ≤ rung x
      · simp only [if_pos hinf, b1, cond_true, i1, if_pos (show 4890909195324358656 ≤ rung x by omega)]
      · simp only [if_neg hinf]
        by_cases hb : 9223372036854775808 ≤ mag (rung x) / UN
        · simp only [if_pos hb, b1, cond_true, i1, if_pos (hiff.2 hb)]
        · simp only [if_neg hb, b3, cond_false, if_neg (fun h => hb (hiff.1 h))]
          have hD : sg false (flo false (mag (rung x))) = ((mag (rung x) / UN : Nat) : Int) := by unfold sg flo; simp
          rw [hD]
          exact (hfl _ _).trans (fin _)
    | true =>
      unfold fl3
      rw [hs]
      simp only [Bool.true_eq_false, false_and, if_false, true_and, if_true]
      have hiff : 4890909195324358656 < rung x ↔ 9223372036854775808 < flo true (mag (rung x)) := by
        rw [← mag_lt, mag63]
        constructor
        · intro h; rw [← hB]; exact flo_gt h
        · intro h
          rcases Nat.lt_or_ge (B63 * UN) (mag (rung x)) with hl | hg
          · exact hl
          · have := flo_le (s := true) hg; omega
      by_cases hinf : 9218868437227405312 ≤ rung x
      · simp only [if_pos hinf, b2, cond_true, i2, if_pos (show 4890909195324358656 < rung x by omega)]
      · simp only [if_neg hinf]
        by_cases hb : 9223372036854775808 < flo true (mag (rung x))
        · simp only [if_pos hb, b2, cond_true, i2, if_pos (hiff.2 hb)]
        · simp only [if_neg hb, b3, cond_false, if_neg (fun h => hb (hiff.1 h))]
          have hD : sg true (flo true (mag (rung x))) = -((flo true (mag (rung x)) : Nat) : Int) := rfl
          rw [hD]
          exact (hfl _ _).trans (fin _)
theorem lawRealAgainst (n bits : Int) (h : okAll law02RealAgainst.con.ps (n, bits, ())) : law02RealAgainst 3000 n bits = some (true, ()) := by
  have hb := h.2.1
  have hb : 0 ≤ bits ∧ bits ≤ 18446744073709551615 := by simpa [Kd.ok, inR, IntKind.min, IntKind.max, IntKind.signed, IntKind.bits] using hb
  obtain ⟨x, rfl⟩ := Int.eq_ofNat_of_zero_le hb.1
  have hx : F64 x := by unfold F64; omega
  unfold law02RealAgainst
  rw [from_bind]
  simp only [against_eq, Option.bind_some, ofBits_eq 3000 hx, refAgainst_eq 3000 (by omega) n x hx, fixed02, cond_true, beq_self_eq_true]
/-- A whole number is written as a whole one. -/
theorem near_any (s : Bool) (k : Nat) (hk : k ≤ B63) : rung (Ieee.double.nearest s k 0) ≤ 4890909195324358656 ∧ sgn (Ieee.double.nearest s k 0) = s ∧ ∃ K, mag (rung (Ieee.double.nearest s k 0)) = K * UN ∧ (k < 9007199254740992 → K = k) := by
  by_cases h53 : k < 9007199254740992
  · have h := near_whole s k 0 h53 (by omega)
    rw [Nat.pow_zero, Nat.mul_one] at h
    obtain ⟨h1, h2, h3, h4⟩ := h
    refine ⟨?_, h2, k, h3, fun _ => rfl⟩
    rw [← mag_le, h3, mag63]
    exact Nat.mul_le_mul_right _ hk
  · have hB : B63 = 9223372036854775808 := rfl
    have hw : Ieee.double.signWeight = 9223372036854775808 := by decide
    have hb : Ieee.double.binade = 4503599627370496 := by decide
    have hi : Ieee.double.infRung = 9218868437227405312 := by decide
    have hl : Ieee.double.leastPlace = -1074 := by decide
    have hf : Ieee.double.fractionBits = 52 := rfl
    have h0 : ¬ k = 0 := by omega
    have hlo : 2 ^ k.log2 ≤ k := Nat.log2_self_le h0
    have hhi : k < 2 ^ (k.log2 + 1) := Nat.lt_log2_self
    have hlt : k.log2 < 64 := (Nat.log2_lt h0).2 (by omega)
    have hge : 53 ≤ k.log2 := by
      rcases Nat.lt_or_ge k.log2 53 with hl' | hg
      · have := (Nat.log2_lt h0).1 hl'
        have p53 : (2 : Nat) ^ 53 = 9007199254740992 := by decide
        omega
      · exact hg
    obtain ⟨t, ht⟩ : ∃ t, k.log2 = t + 52 := ⟨k.log2 - 52, by omega⟩
    have p52 : (2 : Nat) ^ 52 = 4503599627370496 := by decide
    have p53 : (2 : Nat) ^ 53 = 9007199254740992 := by decide
    have p63 : (2 : Nat) ^ 63 = 9223372036854775808 := by decide
    unfold Ieee.Format.nearest
    rw [if_neg h0, hb, hi, hl, hf]
    simp only
    have el : max ((0 : Int) + (k.log2 : Int) - (52 : Nat)) (-1074) = (k.log2 : Int) - 52 := by omega
    rw [el]
    have et : ((k.log2 : Int) - 52 - -1074).toNat = t + 1074 := by omega
    have e1 : ((0 : Int) - ((k.log2 : Int) - 52)).toNat = 0 := by omega
    have e2 : ((k.log2 : Int) - 52 - 0).toNat = t := by omega
    rw [et, e1, e2]
    rw [ht] at hlo hhi
    have kd : 4503599627370496 ≤ k / 2 ^ t ∧ k / 2 ^ t < 9007199254740992 := by
      constructor
      · rw [Nat.le_div_iff_mul_le (Nat.two_pow_pos _), ← p52, ← Nat.pow_add, Nat.add_comm]; exact hlo
      · rw [Nat.div_lt_iff_lt_mul (Nat.two_pow_pos _), ← p53, ← Nat.pow_add, show 53 + t = t + 52 + 1 by omega]; exact hhi
    obtain ⟨b, hb1, hcut⟩ : ∃ b : Nat, (b ≤ 1 ∧ (k % 2 ^ t = 0 → b = 0)) ∧ Ieee.Toward.even.cut s (k <<< 0) t = k / 2 ^ t + b := by
      unfold Ieee.Toward.cut
      rw [Nat.shiftLeft_zero]
      obtain ⟨c1, c2⟩ := cut_parts k t
      simp only [c1]
      have q : ∀ b : Bool, b.toNat ≤ 1 := fun b => by cases b <;> decide
      refine ⟨_, ⟨q _, fun hz => ?_⟩, rfl⟩
      have g : 0 < 1 <<< min t (k.log2 + 2) := by rw [Nat.shiftLeft_eq, Nat.one_mul]; exact Nat.two_pow_pos _
      have g1 : ((1 <<< min t (k.log2 + 2)) == 2 * 0) = false := by rw [Nat.mul_zero]; exact beq_false_of_ne (by omega)
      have g2 : decide ((1 <<< min t (k.log2 + 2)) < 2 * 0) = false := decide_eq_false (by omega)
      rw [c2.2 hz, g1, g2]
      rfl
    rw [hcut]
    have hfit : (t + 1074) * 4503599627370496 + (k / 2 ^ t + b) ≤ 4890909195324358656 := by
      rcases Nat.lt_or_ge k.log2 63 with hl' | hg
      · omega
      · have ht11 : t = 11 := by omega
        have hk63 : k = 9223372036854775808 := by
          rw [ht11] at hlo
          have : (2 : Nat) ^ (11 + 52) = 9223372036854775808 := by decide
          omega
        subst ht11
        have z : k % 2 ^ 11 = 0 := by rw [hk63]
        have z2 : k / 2 ^ 11 = 4503599627370496 := by rw [hk63]
        have := hb1.2 z
        omega
    rw [Nat.min_eq_left (by omega)]
    have hr : rung (Ieee.double.word s ((t + 1074) * 4503599627370496 + (k / 2 ^ t + b))) = (t + 1074) * 4503599627370496 + (k / 2 ^ t + b) := by
      unfold Ieee.Format.word rung
      rw [hw]
      cases s <;> simp <;> omega
    have hs : sgn (Ieee.double.word s ((t + 1074) * 4503599627370496 + (k / 2 ^ t + b))) = s := by
      unfold Ieee.Format.word sgn
      rw [hw]
      cases s <;> simp <;> omega
    rw [hr, hs]
    refine ⟨hfit, rfl, (k / 2 ^ t + b) * 2 ^ t, ?_, fun h => absurd h h53⟩
    have hkp : 4503599627370496 ≤ k / 2 ^ t + b ∧ k / 2 ^ t + b ≤ 9007199254740992 := by omega
    generalize k / 2 ^ t + b = kept at hkp ⊢
    have hu : t + 1074 = t + UE := rfl
    unfold UN
    rw [Nat.mul_assoc, ← Nat.pow_add, ← hu]
    unfold mag
    rw [if_neg (by omega)]
    rcases Nat.lt_or_ge kept 9007199254740992 with hl' | hg
    · rw [show ((t + 1074) * 4503599627370496 + kept) / 4503599627370496 - 1 = t + 1074 by omega, show 4503599627370496 + ((t + 1074) * 4503599627370496 + kept) % 4503599627370496 = kept by omega]
    · have hke : kept = 9007199254740992 := by omega
      subst hke
      rw [show ((t + 1074) * 4503599627370496 + 9007199254740992) / 4503599627370496 - 1 = t + 1074 + 1 by omega, show 4503599627370496 + ((t + 1074) * 4503599627370496 + 9007199254740992) % 4503599627370496 = 4503599627370496 by omega, Nat.pow_succ, Nat.mul_comm (2 ^ (t + 1074)) 2, ← Nat.mul_assoc]
theorem flo_whole (s : Bool) (K : Nat) : flo s (K * UN) = K := by
  unfold flo
  rw [Nat.mul_div_cancel _ UN_pos, Nat.mul_mod_left]
  simp
theorem trunc_eq {x : Nat} (h : rung x < 9218868437227405312) : integ .zero x = some (Ieee.double.nearest (sgn x) (mag (rung x) / UN) 0) := by
  obtain ⟨m, k, e1, e2⟩ := read_num h
  unfold integ
  have e3 : FloatKind.f64.decode x = .number (sgn x) m (LP64 + k) := e1
  rw [e3]
  show some (Ieee.double.nearest (sgn x) (Ieee.Toward.zero.cut (sgn x) (m <<< (LP64 + k).toNat) (-(LP64 + k)).toNat) 0) = _
  rw [cut_zero, e2]
theorem mag_inj {r q : Nat} (h : mag r = mag q) : r = q := by
  have h1 := (@mag_le r q).1 (by omega)
  have h2 := (@mag_le q r).1 (by omega)
  omega
theorem whole_int {x : Nat} {K : Nat} (hr : rung x ≤ 4890909195324358656) (hV : mag (rung x) = K * UN) (hp : sgn x = false → rung x < 4890909195324358656) : floatToIntVal .f64 x .i64 = some (sg (sgn x) K) := by
  have hK : K ≤ B63 := by
    have := (mag_le.2 hr)
    rw [hV, mag63] at this
    exact Nat.le_of_mul_le_mul_right this UN_pos
  have hK2 : sgn x = false → K < B63 := fun hs => by
    have := (mag_lt.2 (hp hs))
    rw [hV, mag63] at this
    exact Nat.lt_of_mul_lt_mul_right this
  have hi := int_eq (x := x) (by omega)
  rw [hV, Nat.mul_div_cancel _ UN_pos] at hi
  unfold floatToIntVal
  have hi' : (FloatKind.f64.decode x).toInt .zero = some (sg (sgn x) K) := hi
  rw [hi']
  simp only
  rw [if_pos]
  have e1 : IntKind.i64.min = -9223372036854775808 := by decide
  have e2 : IntKind.i64.max = 9223372036854775807 := by decide
  have hB : B63 = 9223372036854775808 := rfl
  rw [e1, e2]
  cases hs : sgn x with
  | false =>
    have := hK2 hs
    simp only [sg, Bool.false_eq_true, if_false]
    omega
  | true =>
    simp only [sg, if_true]
    omega
theorem realWhole_eq (fu : Nat) (x K : Nat) (hr : rung x ≤ 4890909195324358656) (hV : mag (rung x) = K * UN) :
    realWhole fu x = some (if sgn x = false ∧ 4890909195324358656 ≤ rung x then (0, false, ()) else (sg (sgn x) K, true, ())) := by
  have hn : ¬ isNan x := by unfold isNan; omega
  have hq := trunc_eq (x := x) (by omega)
  rw [hV, Nat.mul_div_cancel _ UN_pos] at hq
  obtain ⟨c, d, hc, hcd⟩ := flo_bits (sgn x) (rung x)
  rw [hV, flo_whole] at hcd
  have hK : K ≤ B63 := by
    have := (mag_le.2 hr)
    rw [hV, mag63] at this
    exact Nat.le_of_mul_le_mul_right this UN_pos
  have hB : B63 = 9223372036854775808 := rfl
  obtain ⟨n1, n2, n3, n4⟩ := near_whole (sgn x) c d hc (by omega)
  rw [← hcd] at n1 n2 n3 n4
  have hrr : rung (Ieee.double.nearest (sgn x) K 0) = rung x := mag_inj (by rw [n3, hV])
  have f4 : mathTrunc fu x = some (Ieee.double.nearest (sgn x) K 0, ()) := by
    unfold mathTrunc
    have : extTrunc.f fu (x, ()) = some (Ieee.double.nearest (sgn x) K 0, ()) := by
      show (integ .zero x).map (fun y => (y, ())) = _
      rw [hq]; rfl
    rw [this]; rfl
  have hny : ¬ isNan (Ieee.double.nearest (sgn x) K 0) := by unfold isNan; omega
  have f5 : fNeq x (Ieee.double.nearest (sgn x) K 0) = false := by
    rw [fNeq_eq, fEql_eq, decide_eq_true ⟨hn, hny, by unfold sk; rw [n2, hrr]⟩]; rfl
  have y1 : ¬ isNan 4890909195324358656 := by decide
  have y2 : ¬ isNan 14114281232179134464 := by decide
  have y3 : sk 4890909195324358656 = 4890909195324358656 := by decide
  have y4 : sk 14114281232179134464 = -4890909195324358656 := by decide
  unfold realWhole
  rw [f4]
  simp only [Option.bind_some, f5, cond_false]
  rw [fGeq_eq, fLss_eq, y3, y4]
  by_cases h1 : sgn x = false ∧ 4890909195324358656 ≤ rung x
  · have : (4890909195324358656 : Int) ≤ sk x := by unfold sk sg; rw [h1.1]; simp only [Bool.false_eq_true, if_false]; omega
    rw [if_pos h1, decide_eq_true ⟨hn, y1, this⟩]; rfl
  · have q1 : ¬ (¬ isNan x ∧ ¬ isNan 4890909195324358656 ∧ (4890909195324358656 : Int) ≤ sk x) := by
      rintro ⟨-, -, h⟩
      unfold sk sg at h
      cases hs : sgn x with
      | false => rw [hs] at h; simp only [Bool.false_eq_true, if_false] at h; exact h1 ⟨hs, by omega⟩
      | true => rw [hs] at h; simp only [if_true] at h; omega
    have q2 : ¬ (¬ isNan x ∧ ¬ isNan 14114281232179134464 ∧ sk x < -4890909195324358656) := by
      rintro ⟨-, -, h⟩
      unfold sk sg at h
      cases hs : sgn x with
      | false => rw [hs] at h; simp only [Bool.false_eq_true, if_false] at h; omega
      | true => rw [hs] at h; simp only [if_true] at h; omega
    have f2 := whole_int hr hV (fun hs => by by_cases hh : 4890909195324358656 ≤ rung x; exact absurd ⟨hs, hh⟩ h1; omega)
    have f6 : fIntOk .i64 x = true := by unfold fIntOk; rw [f2]; rfl
    have f7 : fInt .i64 x = sg (sgn x) K := by unfold fInt; rw [f2]; rfl
    rw [if_neg h1, decide_eq_false q1, decide_eq_false q2]
    simp only [cond_false, f6, f7, chk, cond_true]
theorem iFlt_eq (n : Int) : iFlt n = Ieee.double.nearest (decide (n < 0)) n.natAbs 0 := rfl
theorem sg_abs (n : Int) : sg (decide (n < 0)) n.natAbs = n := by
  unfold sg
  by_cases h : n < 0
  · rw [decide_eq_true h, if_pos rfl]; omega
  · rw [decide_eq_false h, if_neg (by decide)]; omega
theorem ag_true (n : Int) {x : Nat} (h : ¬ isNan x) : (ag n x).2 = true := by
  unfold ag
  rw [if_neg h]
  split
  · rfl
  · split
    · rfl
    · split
      · rfl
      · split
        · rfl
        · split <;> rfl
theorem lawRealWhole (n : Int) (h : okAll law02RealWhole.con.ps (n, ())) : law02RealWhole 3000 n = some (true, ()) := by
  have hn := h.1
  have hn : -9223372036854775808 ≤ n ∧ n ≤ 9223372036854775807 := by simpa [Kd.ok, inR, IntKind.min, IntKind.max, IntKind.signed, IntKind.bits] using hn
  have hB : B63 = 9223372036854775808 := rfl
  have hn1 : Int.tmod n 9007199254740992 > -9007199254740992 ∧ Int.tmod n 9007199254740992 < 9007199254740992 := by
    have a := Int.tmod_lt_of_pos n (show (0 : Int) < 9007199254740992 by decide)
    have b := Int.tmod_lt_of_pos (-n) (show (0 : Int) < 9007199254740992 by decide)
    rw [Int.neg_tmod] at b
    omega
  obtain ⟨a1, a2, K, a3, a4⟩ := near_any (decide (n < 0)) n.natAbs (by omega)
  obtain ⟨b1, b2, L, b3, b4⟩ := near_any (decide (Int.tmod n 9007199254740992 < 0)) (Int.tmod n 9007199254740992).natAbs (by omega)
  have hL := b4 (by omega)
  rw [← iFlt_eq] at a1 a2 a3 b1 b2 b3
  have hb1 : rung (iFlt (Int.tmod n 9007199254740992)) < 4890909195324358656 := by
    rw [← mag_lt, b3, mag63, hL, hB]
    exact Nat.mul_lt_mul_of_pos_right (by omega) UN_pos
  have w2 := whole_int b1 b3 (fun _ => hb1)
  rw [b2, hL, sg_abs] at w2
  have f6 : fIntOk .i64 (iFlt (Int.tmod n 9007199254740992)) = true := by unfold fIntOk; rw [w2]; rfl
  have f7 : fInt .i64 (iFlt (Int.tmod n 9007199254740992)) = Int.tmod n 9007199254740992 := by unfold fInt; rw [w2]; rfl
  have hnn : ¬ isNan (iFlt n) := by unfold isNan; omega
  unfold law02RealWhole
  rw [against_eq, realWhole_eq 3000 (iFlt n) K a1 a3]
  simp only [Option.bind_some, f6, f7, chk, cond_true, bne_self_eq_false, cond_false, ag_true n hnn]
  have big : ∀ k0 k1 c m (v : Bool), v = false → law02RealWhole.j34007 3000 k0 k1 n (iFlt n) c true m (if sgn (iFlt n) = false ∧ 4890909195324358656 ≤ rung (iFlt n) then ((0 : Int), false, ()) else (sg (sgn (iFlt n)) K, true, ())).2.1 v = k0 (iFlt n) true (if sgn (iFlt n) = false ∧ 4890909195324358656 ≤ rung (iFlt n) then ((0 : Int), false, ()) else (sg (sgn (iFlt n)) K, true, ())).2.1 := fun k0 k1 c m v hv => by
    unfold law02RealWhole.j34007
    rw [hv, cond_false]
  have fin : law02RealWhole.j8 3000 (fun vq2 => some (vq2, ())) (iFlt n) true (if sgn (iFlt n) = false ∧ 4890909195324358656 ≤ rung (iFlt n) then ((0 : Int), false, ()) else (sg (sgn (iFlt n)) K, true, ())).2.1 = some (true, ()) := by
    have y1 : ¬ isNan 4890909195324358656 := by decide
    have y3 : sk 4890909195324358656 = 4890909195324358656 := by decide
    unfold law02RealWhole.j8
    rw [fixed02, fLss_eq, y3]
    simp only [Option.bind_some, cond_true]
    by_cases h1 : sgn (iFlt n) = false ∧ 4890909195324358656 ≤ rung (iFlt n)
    · have : ¬ (¬ isNan (iFlt n) ∧ ¬ isNan 4890909195324358656 ∧ sk (iFlt n) < 4890909195324358656) := by
        rintro ⟨-, -, h⟩
        unfold sk sg at h
        rw [h1.1] at h
        simp only [Bool.false_eq_true, if_false] at h
        omega
      rw [if_pos h1, decide_eq_false this]; rfl
    · have : sk (iFlt n) < 4890909195324358656 := by
        unfold sk sg
        cases hs : sgn (iFlt n) with
        | false =>
          simp only [Bool.false_eq_true, if_false]
          by_cases hh : 4890909195324358656 ≤ rung (iFlt n)
          · exact absurd ⟨hs, hh⟩ h1
          · omega
        | true => simp only [if_true]; omega
      rw [if_neg h1, decide_eq_true ⟨hnn, y1, this⟩]; rfl
  by_cases hs : n > -9007199254740992 ∧ n < 9007199254740992
  · rw [decide_eq_true hs.1, decide_eq_true hs.2, cond_true]
    have hK := a4 (by omega)
    have hlt : rung (iFlt n) < 4890909195324358656 := by
      rw [← mag_lt, a3, mag63, hK, hB]
      exact Nat.mul_lt_mul_of_pos_right (by omega) UN_pos
    have hag : ag n (iFlt n) = (0, true) := by
      unfold ag
      rw [if_neg hnn, if_neg (by omega), if_neg (by omega), a3, flo_whole, a2, hK, sg_abs, if_neg (by omega), if_neg (by omega), if_neg (by rw [Nat.mul_mod_left]; omega)]
    rw [if_neg (by omega), hag, a2, hK, sg_abs]
    unfold law02RealWhole.j34007
    rw [fixed02]
    simp only [Option.bind_some, cond_true, beq_self_eq_true]
  · by_cases h1 : n > -9007199254740992
    · rw [decide_eq_true h1, cond_true, big _ _ _ _ _ (decide_eq_false (by omega))]
      exact fin
    · rw [decide_eq_false h1, cond_false, big _ _ _ _ _ rfl]
      exact fin
end Go.Shal.Pr
