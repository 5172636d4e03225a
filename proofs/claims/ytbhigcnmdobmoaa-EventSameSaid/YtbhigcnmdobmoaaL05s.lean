/- Whether any two events are the same is the document's; one of one's own has a list of its own. By an AI agent. -/
import Derived.Test.YtbhigcnmdobmoaaGen05s
set_option linter.unusedVariables false
namespace Go.Shal.Pr
open Go Go.Shal Go.Proofs
-- .
theorem wrap_u64 {x : Int} (h0 : 0 ≤ x) (h1 : x < 18446744073709551616) : IntKind.u64.wrap x = x := by
  simp only [IntKind.wrap, IntKind.signed, IntKind.bits]
  simp
  omega
theorem wrap_i64 {x : Int} (h0 : -9223372036854775808 ≤ x) (h1 : x < 9223372036854775808) : IntKind.i64.wrap x = x := by
  simp only [IntKind.wrap, IntKind.signed, IntKind.bits]
  simp
  omega
def By (l : List Int) : Prop := ∀ b ∈ l, (0 : Int) ≤ b ∧ b ≤ 255
def isNan (x : Nat) : Prop := x % 9223372036854775808 > 9218868437227405312
instance : DecidablePred isNan := fun x => inferInstanceAs (Decidable (_ > _))
def canon (x : Nat) : Int := if isNan x then 9221120237041090560 else x
theorem nan_iff (x : Nat) : fNeq x x = decide (isNan x) := by
  unfold fNeq
  show (FloatKind.f64.format.order x x != some .eq) = _
  have hsw : FloatKind.f64.format.signWeight = 9223372036854775808 := by decide
  have hir : FloatKind.f64.format.infRung = 9218868437227405312 := by decide
  have hbi : FloatKind.f64.format.binade = 4503599627370496 := by decide
  unfold Ieee.Format.order Ieee.Format.read
  have no : ¬ (x % 9223372036854775808 > 9218868437227405312) → decide (isNan x) = false := fun h => decide_eq_false h
  simp only [hsw, hir, hbi]
  split
  · rename_i h
    rw [no (by omega)]
    simp [Ieee.Datum.order]
  · split
    · rename_i h1 h2
      rw [no (by omega)]
      simp [Ieee.Datum.order]
    · split
      · rename_i h1 h2 h3
        rw [no (by omega)]
        simp [Ieee.Datum.order]
      · rename_i h1 h2 h3
        exact (decide_eq_true (p := isNan x) (show x % 9223372036854775808 > 9218868437227405312 by omega)).symm
theorem realBits_eq (fu : Nat) (x : Nat) (h : x < 18446744073709551616) : realBits fu x = some (canon x, ()) := by
  unfold realBits canon
  rw [nan_iff]
  by_cases hx : isNan x
  · simp [hx]
  · have : extBits.f fu (x, ()) = some ((x : Int), ()) := by
      show (match decide (x < 18446744073709551616) with | true => some ((x : Int), ()) | false => none) = _
      rw [decide_eq_true h]
    simp only [hx, decide_false, cond_false, if_false]
    rw [this]
    rfl
theorem partsBits_eq (fu : Nat) (n : Int) (h0 : 0 ≤ n) (h1 : n < 18446744073709551616) : ((ref02OfBits fu n).bind fun r => ref02PartsBits fu r.1) = some (canon n.toNat, ()) := by
  unfold ref02OfBits ref02PartsBits ref02PartsNaN canon
  have t1 : Int.tdiv n 4503599627370496 = n / 4503599627370496 := Int.tdiv_eq_ediv_of_nonneg h0
  have t2 : IntKind.u64.wrap (n / 4503599627370496) = n / 4503599627370496 := wrap_u64 (by omega) (by omega)
  have t3 : Int.tmod (n / 4503599627370496) 2048 = n / 4503599627370496 % 2048 := Int.tmod_eq_emod_of_nonneg (by omega)
  have t4 : IntKind.i64.wrap (n / 4503599627370496 % 2048) = n / 4503599627370496 % 2048 := wrap_i64 (by omega) (by omega)
  have t5 : Int.tmod n 4503599627370496 = n % 4503599627370496 := Int.tmod_eq_emod_of_nonneg h0
  have t6 : IntKind.u64.wrap (n / 4503599627370496 % 2048) = n / 4503599627370496 % 2048 := wrap_u64 (by omega) (by omega)
  have t7 : IntKind.u64.wrap (n / 4503599627370496 % 2048 * 4503599627370496) = n / 4503599627370496 % 2048 * 4503599627370496 := wrap_u64 (by omega) (by omega)
  have t8 : IntKind.u64.wrap (n / 4503599627370496 % 2048 * 4503599627370496 + n % 4503599627370496) = n / 4503599627370496 % 2048 * 4503599627370496 + n % 4503599627370496 := wrap_u64 (by omega) (by omega)
  simp only [t1, t2, t3, t4, t5, t6, t7, t8, Option.bind_some]
  have hnan : isNan n.toNat ↔ n / 4503599627370496 % 2048 = 2047 ∧ n % 4503599627370496 ≠ 0 := by
    unfold isNan
    constructor
    · intro h; omega
    · rintro ⟨h1, h2⟩; omega
  by_cases hx : n / 4503599627370496 % 2048 = 2047
  · by_cases hy : n % 4503599627370496 = 0
    · rw [if_neg (fun h => (hnan.1 h).2 hy)]
      simp only [hx, hy, beq_self_eq_true, bne_self_eq_false, cond_true, cond_false, Option.bind_some]
      by_cases hs : n ≥ 9223372036854775808
      · have : IntKind.u64.wrap (2047 * 4503599627370496 + 0 + 9223372036854775808) = n := by rw [wrap_u64 (by omega) (by omega)]; omega
        simp only [hs, decide_true, cond_true, this]
        congr 2; omega
      · simp only [hs, decide_false, cond_false]
        congr 2; omega
    · rw [if_pos (hnan.2 ⟨hx, hy⟩)]
      have hy' : (n % 4503599627370496 != 0) = true := bne_iff_ne.2 hy
      simp only [hx, hy', beq_self_eq_true, cond_true, Option.bind_some]
  · rw [if_neg (fun h => hx (hnan.1 h).1)]
    have hx' : (n / 4503599627370496 % 2048 == 2047) = false := beq_false_of_ne hx
    simp only [hx', cond_false, Option.bind_some]
    by_cases hs : n ≥ 9223372036854775808
    · have : IntKind.u64.wrap (n / 4503599627370496 % 2048 * 4503599627370496 + n % 4503599627370496 + 9223372036854775808) = n := by rw [wrap_u64 (by omega) (by omega)]; omega
      simp only [hs, decide_true, cond_true, this]
      congr 2; omega
    · simp only [hs, decide_false, cond_false]
      congr 2; omega
theorem u64Of {x : Int} (h : inR .u64 x) : 0 ≤ x ∧ x < 18446744073709551616 := by
  simp [inR, IntKind.min, IntKind.max, IntKind.signed, IntKind.bits] at h
  omega
theorem i64Of {x : Int} (h : inR .i64 x) : -9223372036854775808 ≤ x ∧ x < 9223372036854775808 := by
  simp [inR, IntKind.min, IntKind.max, IntKind.signed, IntKind.bits] at h
  omega
abbrev Va : Type := Int × Int × Nat × List Int × Unit
theorem ne_bne {x y : Int} (h : ¬ x = y) : (x != y) = true := bne_iff_ne.2 h
theorem ne_beq {x y : Int} (h : ¬ x = y) : (x == y) = false := beq_false_of_ne h
def F64 (x : Nat) : Prop := x < 18446744073709551616
theorem extBits_eq (fu : Nat) {x : Nat} (h : F64 x) : extBits.f fu (x, ()) = some ((x : Int), ()) := by
  show (match decide (x < 18446744073709551616) with | true => some ((x : Int), ()) | false => none) = _
  have : decide (x < 18446744073709551616) = true := decide_eq_true (show x < 18446744073709551616 from h)
  rw [this]
theorem bits_bind {β : Type} (fu : Nat) {x : Nat} (h : F64 x) (K : (Kd.struct extBits.rs).T → Option β) : (extBits.f fu (x, ())).bind K = K ((x : Int), ()) := by rw [extBits_eq fu h]; rfl
def same4 (a b : Va) : Bool := decide (a.1 = b.1) && (if a.1 = 1 then decide (a.2.1 = b.2.1) else if a.1 = 2 then decide (canon a.2.2.1 = canon b.2.2.1) else if a.1 = 3 then decide (a.2.2.2.1 = b.2.2.2.1) else true)
theorem refBits_bind {β : Type} (fu : Nat) {x : Nat} (h : F64 x) (K : Int × Unit → Option β) : ((ref02Of fu x).bind fun r1 => (ref02PartsBits fu r1.1).bind K) = K (canon x, ()) := by
  unfold ref02Of
  rw [bits_bind fu h]
  have h' : x < 18446744073709551616 := h
  have e := partsBits_eq fu (x : Int) (by omega) (by omega)
  rw [Int.toNat_natCast] at e
  show ((((ref02OfBits fu (x : Int)).bind fun r2 => some (r2.1, ())).bind fun r1 => (ref02PartsBits fu r1.1).bind K)) = _
  cases hq : ref02OfBits fu (x : Int) with
  | none => rw [hq] at e; exact absurd e (by simp)
  | some r =>
    rw [hq] at e
    simp only [Option.bind_some] at e ⊢
    rw [e]; rfl
theorem same4_eq (fu : Nat) (a b : Va) (ha : F64 a.2.2.1) (hb : F64 b.2.2.1) : ref04Same fu a b = some (same4 a b, ()) := by
  unfold ref04Same same4
  by_cases h : a.1 = b.1
  · simp only [h, bne_self_eq_false, cond_false, decide_true, Bool.true_and]
    by_cases k1 : b.1 = 1
    · simp only [k1, beq_self_eq_true, cond_true, if_true]
      congr 2
    · by_cases k2 : b.1 = 2
      · simp only [k2, ne_beq (show ¬ (2 : Int) = 1 by decide), beq_self_eq_true, cond_true, cond_false, show ¬ (2 : Int) = 1 by decide, if_false, if_true]
        rw [refBits_bind fu ha, refBits_bind fu hb]
        congr 2
      · by_cases k3 : b.1 = 3
        · simp only [k3, ne_beq (show ¬ (3 : Int) = 1 by decide), ne_beq (show ¬ (3 : Int) = 2 by decide), beq_self_eq_true, cond_true, cond_false, show ¬ (3 : Int) = 1 by decide, show ¬ (3 : Int) = 2 by decide, if_false, if_true]
          congr 2
          cases hq : decide (a.2.2.2.1 = b.2.2.2.1) with
          | true => rw [of_decide_eq_true hq]; exact beq_self_eq_true _
          | false => exact beq_false_of_ne (of_decide_eq_false hq)
        · simp only [ne_beq k1, ne_beq k2, ne_beq k3, cond_false, if_neg k1, if_neg k2, if_neg k3]
  · simp only [ne_bne h, cond_true, decide_eq_false h, Bool.false_and]
theorem same4_refl (a : Va) : same4 a a = true := by
  unfold same4
  simp
def vaOk (v : Va) : Prop := (0 ≤ v.1 ∧ v.1 ≤ 255) ∧ (-9223372036854775808 ≤ v.2.1 ∧ v.2.1 < 9223372036854775808) ∧ F64 v.2.2.1 ∧ By v.2.2.2.1
abbrev Ev : Type := Int × List Va × Unit
theorem apOk40 {xs ys : List Va} (h : xs.length + ys.length ≤ 100000) : apOk xs ys 40 = true := by
  have hL : (10000000 : Nat) ≤ LIM := by decide
  unfold apOk
  exact decide_eq_true (by omega)
def evOk (e : Ev) : Prop := (0 ≤ e.1 ∧ e.1 ≤ 255) ∧ ∀ v ∈ e.2.1, vaOk v
theorem ixV {l : List Va} {i : Nat} (h : i < l.length) : ixL ((0 : Int), (0 : Int), (0 : Nat), ([] : List Int), ()) l i = l[i] := by
  unfold ixL
  simp [List.getElem?_eq_getElem h]
theorem ixOkN {α : Type} {l : List α} {i : Nat} (h : i < l.length) : ixOk l (i : Int) = true := by unfold ixOk; simp; omega
theorem drop_one {α : Type} {l : List α} {i : Nat} (h : i < l.length) : l.drop i = l[i] :: l.drop (i + 1) := List.drop_eq_getElem_cons h
abbrev Rw : Type := Int × Int × Int × List Int × Unit
def rawV (x : Rw) : Va := (x.1, x.2.1, x.2.2.1.toNat, x.2.2.2.1, ())
theorem raw_eq (fu : Nat) (x : Rw) : law04RawValue fu x = some (rawV x, ()) := rfl
theorem ixR {l : List Rw} {i : Nat} (h : i < l.length) : ixL ((0 : Int), (0 : Int), (0 : Int), ([] : List Int), ()) l i = l[i] := by
  unfold ixL
  simp [List.getElem?_eq_getElem h]
theorem raw_rounds (fu : Nat) (k2 : Int → List Va → Int → List Va → Option (Ev × Unit)) (l : List Rw) (hl : l.length ≤ 140737488355328) (c1 c2 : Int) (c1x : List Va) : ∀ (k m i : Nat), i + k = l.length → k < m →
    law05RawEvent.l3 fu k2 m l l.length i c1 c1x c2 ((l.take (min i 30)).map rawV) = k2 c1 c1x c2 ((l.take 30).map rawV) := by
  intro k
  induction k with
  | zero =>
    intro m i h1 h2
    obtain ⟨m, rfl⟩ : ∃ j, m = j + 1 := ⟨m - 1, by omega⟩
    unfold law05RawEvent.l3 law05RawEvent.b3
    rw [decide_eq_false (by omega), cond_false]
    congr 2
    by_cases h : i ≤ 30
    · rw [show min i 30 = i by omega, List.take_of_length_le (by omega), List.take_of_length_le (by omega)]
    · rw [show min i 30 = 30 by omega]
  | succ k ih =>
    intro m i h1 h2
    obtain ⟨m, rfl⟩ : ∃ j, m = j + 1 := ⟨m - 1, by omega⟩
    have hi : i < l.length := by omega
    have e1 : IntKind.i64.wrap ((i : Int) + 1) = ((i + 1 : Nat) : Int) := wrap_i64 (by omega) (by omega)
    have := ih m (i + 1) (by omega) (by omega)
    unfold law05RawEvent.l3 law05RawEvent.b3
    rw [decide_eq_true (by omega), cond_true, ixOkN hi, ixR hi]
    simp only [raw_eq, chk, cond_true, Option.bind_some, e1]
    by_cases h30 : (i : Int) < 30
    · have e2 : apOk ((l.take (min i 30)).map rawV) [rawV l[i]] 40 = true := apOk40 (by simp; omega)
      simp only [decide_eq_true h30, cond_true, e2]
      rw [show min (i + 1) 30 = i + 1 by omega, List.take_succ_eq_append_getElem hi, List.map_append] at this
      rw [show min i 30 = i by omega]
      exact this
    · simp only [decide_eq_false h30, cond_false]
      rw [show min (i + 1) 30 = 30 by omega] at this
      rw [show min i 30 = 30 by omega]
      exact this
def rawE (x : Int × List Rw × Unit) : Ev := (x.1, (x.2.1.take 30).map rawV, ())
theorem rawE_eq (fu : Nat) (x : Int × List Rw × Unit) (hl : x.2.1.length ≤ 140737488355328) (hfu : x.2.1.length < fu) : law05RawEvent fu x = some (rawE x, ()) := by
  unfold law05RawEvent
  have := raw_rounds fu (fun c1q2 c1q2x2 c2q2 c2q2x2 => some ((c2q2, c2q2x2, ()), ())) x.2.1 hl 0 x.1 [] x.2.1.length fu 0 (by omega) hfu
  rw [show min 0 30 = 0 from rfl, List.take_zero, List.map_nil] at this
  exact this
theorem great_rounds (fu : Nat) (k2 : Int → Option (Bool × Unit)) (e : Ev) (hl : e.2.1.length ≤ 40) : ∀ (k m i : Nat) (n : Int), i + k = e.2.1.length → k < m → ∃ n', ref05Great.l5 fu k2 m n e.2.1.length i e = k2 n' := by
  intro k
  induction k with
  | zero =>
    intro m i n h1 h2
    obtain ⟨m, rfl⟩ : ∃ j, m = j + 1 := ⟨m - 1, by omega⟩
    unfold ref05Great.l5 ref05Great.b5
    rw [decide_eq_false (by omega), cond_false]
    exact ⟨n, rfl⟩
  | succ k ih =>
    intro m i n h1 h2
    obtain ⟨m, rfl⟩ : ∃ j, m = j + 1 := ⟨m - 1, by omega⟩
    have hi : i < e.2.1.length := by omega
    have e1 : IntKind.i64.wrap ((i : Int) + 1) = ((i + 1 : Nat) : Int) := wrap_i64 (by omega) (by omega)
    unfold ref05Great.l5 ref05Great.b5
    rw [decide_eq_true (by omega), cond_true, ixOkN hi, ixV hi]
    simp only [chk, cond_true, e1]
    exact ih m (i + 1) _ (by omega) (by omega)
theorem great_eq (fu : Nat) (hfu : 50 ≤ fu) (e : Ev) : ∃ g, ref05Great fu e = some (g, ()) := by
  unfold ref05Great
  by_cases h : (e.2.1.length : Int) > 40
  · exact ⟨true, by simp only [decide_eq_true h, cond_true]⟩
  · obtain ⟨n', hn⟩ := great_rounds fu (fun nq2 => some (decide (nq2 > (3000 : Int)), ())) e (by omega) e.2.1.length fu 0 e.2.1.length (by omega) (by omega)
    refine ⟨decide (n' > (3000 : Int)), ?_⟩
    simp only [decide_eq_false h, cond_false]
    exact hn
theorem rawE_ok {x : Int × List Rw × Unit} (h : kS3.ok x) : evOk (rawE x) ∧ (rawE x).2.1.length ≤ 30 ∧ x.2.1.length ≤ 140737488355328 := by
  obtain ⟨h1, h2, -⟩ := h
  have h1 : inR .u8 x.1 := h1
  refine ⟨⟨by simpa [rawE, inR, IntKind.min, IntKind.max, IntKind.signed, IntKind.bits] using h1, ?_⟩, by simp [rawE]; omega, ?_⟩
  · intro v hv
    obtain ⟨w, hw, rfl⟩ := List.mem_map.1 hv
    obtain ⟨k1, k2, k3, k4, -⟩ := h2.2 w (List.mem_of_mem_take hw)
    have k1 : inR .u8 w.1 := k1
    have k2 := i64Of k2
    have k3 : 0 ≤ w.2.2.1 ∧ w.2.2.1 < 18446744073709551616 := u64Of k3
    exact ⟨by simpa [rawV, inR, IntKind.min, IntKind.max, IntKind.signed, IntKind.bits] using k1, k2, by show w.2.2.1.toNat < _; omega, fun c hc => k4.2 c hc⟩
  · have := h2.1
    have hb : x.2.1.length * 1 ≤ x.2.1.length * (Kd.bytes kS0) := Nat.mul_le_mul_left _ (by decide)
    have hr : reachBytes = 140737488351232 + 4096 - 4096 := by decide
    have : x.2.1.length * (Kd.bytes kS0) ≤ reachBytes := this
    omega
theorem valueSame_eq (fu : Nat) (a b : Va) (ha : F64 a.2.2.1) (hb : F64 b.2.2.1) : valueSame fu a b = some (same4 a b, ()) := by
  have f0 : realSame fu 0 0 = some (true, ()) := by
    unfold realSame
    rw [realBits_eq fu 0 (by omega)]
    rfl
  have f1 : realSame fu a.2.2.1 b.2.2.1 = some (decide (canon a.2.2.1 = canon b.2.2.1), ()) := by
    unfold realSame
    rw [realBits_eq fu _ ha, realBits_eq fu _ hb]
    rfl
  have q : ∀ x y : List Int, (x == y) = decide (x = y) := fun x y => by
    cases hq : decide (x = y) with
    | true => rw [of_decide_eq_true hq]; exact beq_self_eq_true _
    | false => exact beq_false_of_ne (of_decide_eq_false hq)
  have qi : ∀ x y : Int, (x == y) = decide (x = y) := fun x y => rfl
  unfold valueSame valueHeld same4
  by_cases h : a.1 = b.1
  · rw [h]
    by_cases k1 : b.1 = 1
    · simp only [k1, beq_self_eq_true, cond_true, Option.bind_some, f0, if_true, decide_true, Bool.true_and]
      rw [qi]
      cases decide (a.2.1 = b.2.1) <;> rfl
    · by_cases k2 : b.1 = 2
      · simp only [k2, ne_beq (show ¬ (2 : Int) = 1 by decide), beq_self_eq_true, cond_true, cond_false, Option.bind_some, f1, show ¬ (2 : Int) = 1 by decide, if_false, if_true, decide_true, Bool.true_and]
      · by_cases k3 : b.1 = 3
        · simp only [k3, ne_beq (show ¬ (3 : Int) = 1 by decide), ne_beq (show ¬ (3 : Int) = 2 by decide), beq_self_eq_true, cond_true, cond_false, Option.bind_some, f0, show ¬ (3 : Int) = 1 by decide, show ¬ (3 : Int) = 2 by decide, if_false, if_true, decide_true, Bool.true_and]
          rw [q]
          cases decide (a.2.2.2.1 = b.2.2.2.1) <;> rfl
        · simp only [ne_beq k1, ne_beq k2, ne_beq k3, cond_false, beq_self_eq_true, cond_true, Option.bind_some, f0, if_neg k1, if_neg k2, if_neg k3, decide_true, Bool.true_and]
  · have hd : ∀ (x y : Va), x.1 = a.1 → y.1 = b.1 → (x.1 == y.1) = false := fun x y hx hy => by rw [hx, hy]; exact ne_beq h
    rw [decide_eq_false h, Bool.false_and]
    cases (a.1 == 1) <;> cases (a.1 == 2) <;> cases (a.1 == 3) <;> cases (b.1 == 1) <;> cases (b.1 == 2) <;> cases (b.1 == 3) <;> simp only [cond_true, cond_false, Option.bind_some, ne_beq h]
theorem fixed05e (m : Nat) : law05Fixed (m + 100) = some (true, ()) := by
  have hm : eventMay (m + 100) ((3 : Int), [], ()) = some (true, ()) := by kernel_rfl
  have e1 : apOk ([] : List Int) [] 1 = true := by kernel_rfl
  have hc : slicesClone (m + 100) [] = some (([], ()), ()) := by
    unfold slicesClone
    simp only [e1, chk, cond_true, List.nil_append]
    unfold nilQ both
    simp
  unfold law05Fixed eventPut
  rw [hm]
  simp only [Option.bind_some, Bool.not_true, cond_false, hc]
  rfl
def allV : List Va → List Va → Bool
  | x :: xs, y :: ys => same4 x y && allV xs ys
  | _, _ => true
def okV (l : List Va) : Prop := ∀ v ∈ l, F64 v.2.2.1
def sameE (a b : Ev) : Bool := decide (a.1 = b.1) && (decide (a.2.1.length = b.2.1.length) && allV a.2.1 b.2.1)
theorem allV_refl : ∀ l : List Va, allV l l = true := by
  intro l
  induction l with
  | nil => rfl
  | cons x l ih => unfold allV; simp [ih, same4_refl]
theorem sameE_refl (a : Ev) : sameE a a = true := by unfold sameE; simp [allV_refl]
theorem equalV_rounds (fu : Nat) (k1 : Bool → Option ((Bool × Unit) × (Unit))) (k2 : Unit → Option ((Bool × Unit) × (Unit))) (a b : List Va) (hl : a.length = b.length) (hmax : a.length ≤ 1000) (ha : okV a) (hb : okV b) : ∀ (k m i : Nat), i + k = a.length → k < m →
    slicesEqualFunc.l4 fu k1 k2 m b a a.length i = cond (allV (a.drop i) (b.drop i)) (k2 ()) (k1 false) := by
  intro k
  induction k with
  | zero =>
    intro m i h1 h2
    obtain ⟨m, rfl⟩ : ∃ j, m = j + 1 := ⟨m - 1, by omega⟩
    rw [List.drop_eq_nil_of_le (by omega)]
    unfold slicesEqualFunc.l4 slicesEqualFunc.b4
    rw [decide_eq_false (by omega), cond_false]
    rfl
  | succ k ih =>
    intro m i h1 h2
    obtain ⟨m, rfl⟩ : ∃ j, m = j + 1 := ⟨m - 1, by omega⟩
    have hi : i < a.length := by omega
    have hi' : i < b.length := by omega
    have e1 : IntKind.i64.wrap ((i : Int) + 1) = ((i + 1 : Nat) : Int) := wrap_i64 (by omega) (by omega)
    have := ih m (i + 1) (by omega) (by omega)
    rw [drop_one hi, drop_one hi']
    unfold slicesEqualFunc.l4 slicesEqualFunc.b4 allV
    rw [decide_eq_true (by omega), cond_true, ixOkN hi, ixOkN hi', ixV hi, ixV hi']
    simp only [valueSame_eq fu _ _ (ha _ (List.getElem_mem hi)) (hb _ (List.getElem_mem hi')), chk, cond_true, Option.bind_some, e1, this]
    cases same4 a[i] b[i] <;> simp
theorem refV_rounds (fu : Nat) (k1 : Bool → Option (Bool × Unit)) (k2 : Unit → Option (Bool × Unit)) (a b : Ev) (hl : a.2.1.length = b.2.1.length) (hmax : a.2.1.length ≤ 1000) (ha : okV a.2.1) (hb : okV b.2.1) : ∀ (k m i : Nat), i + k = a.2.1.length → k < m →
    ref05Same.l4 fu k1 k2 m a.2.1.length i a b = cond (allV (a.2.1.drop i) (b.2.1.drop i)) (k2 ()) (k1 false) := by
  intro k
  induction k with
  | zero =>
    intro m i h1 h2
    obtain ⟨m, rfl⟩ : ∃ j, m = j + 1 := ⟨m - 1, by omega⟩
    rw [List.drop_eq_nil_of_le (by omega)]
    unfold ref05Same.l4 ref05Same.b4
    rw [decide_eq_false (by omega), cond_false]
    rfl
  | succ k ih =>
    intro m i h1 h2
    obtain ⟨m, rfl⟩ : ∃ j, m = j + 1 := ⟨m - 1, by omega⟩
    have hi : i < a.2.1.length := by omega
    have hi' : i < b.2.1.length := by omega
    have e1 : IntKind.i64.wrap ((i : Int) + 1) = ((i + 1 : Nat) : Int) := wrap_i64 (by omega) (by omega)
    have := ih m (i + 1) (by omega) (by omega)
    have ea := ha _ (List.getElem_mem hi)
    have eb := hb _ (List.getElem_mem hi')
    rw [drop_one hi, drop_one hi']
    unfold ref05Same.l4 ref05Same.b4 allV
    rw [decide_eq_true (by omega), cond_true, ixOkN hi, ixOkN hi', ixV hi, ixV hi']
    simp only [same4_eq fu _ _ ea eb, chk, cond_true, Option.bind_some, e1, this]
    cases same4 a.2.1[i] b.2.1[i] <;> simp
theorem len_bneE (x y : Nat) : ((x : Int) != (y : Int)) = !decide (x = y) := by
  by_cases h : x = y
  · subst h; simp
  · rw [decide_eq_false h]; exact ne_bne (by omega)
theorem eventSame_eq (fu : Nat) (a b : Ev) (hmax : a.2.1.length ≤ 1000) (hfu : a.2.1.length < fu) (ha : okV a.2.1) (hb : okV b.2.1) : eventSame fu a b = some (sameE a b, ()) := by
  unfold eventSame sameE slicesEqualFunc
  have q : (a.1 == b.1) = decide (a.1 = b.1) := rfl
  rw [q]
  simp only [len_bneE]
  by_cases hl : a.2.1.length = b.2.1.length
  · have := equalV_rounds fu (fun vq3 => some ((vq3, ()), (()))) (fun _ => some ((true, ()), (()))) a.2.1 b.2.1 hl hmax ha hb a.2.1.length fu 0 (by omega) hfu
    rw [List.drop_zero, List.drop_zero] at this
    rw [show ((0 : Nat) : Int) = 0 from rfl] at this
    simp only [decide_eq_true hl, Bool.not_true, cond_false, this]
    cases decide (a.1 = b.1) <;> cases allV a.2.1 b.2.1 <;> rfl
  · simp only [decide_eq_false hl, Bool.not_false, cond_true]
    cases decide (a.1 = b.1) <;> rfl
theorem refSameE_eq (fu : Nat) (a b : Ev) (hmax : a.2.1.length ≤ 1000) (hfu : a.2.1.length < fu) (ha : okV a.2.1) (hb : okV b.2.1) : ref05Same fu a b = some (sameE a b, ()) := by
  unfold ref05Same sameE
  have q : (a.1 != b.1) = !decide (a.1 = b.1) := rfl
  rw [q]
  simp only [len_bneE]
  by_cases hl : a.2.1.length = b.2.1.length
  · have := refV_rounds fu (fun vq3 => some (vq3, ())) (fun _ => some (true, ())) a b hl hmax ha hb a.2.1.length fu 0 (by omega) hfu
    rw [List.drop_zero, List.drop_zero] at this
    rw [show ((0 : Nat) : Int) = 0 from rfl] at this
    simp only [decide_eq_true hl, Bool.not_true, cond_false, this]
    cases decide (a.1 = b.1) <;> cases allV a.2.1 b.2.1 <;> rfl
  · simp only [decide_eq_false hl, Bool.not_false, cond_true]
    cases decide (a.1 = b.1) <;> rfl
theorem ownJk_eq (fu : Nat) (e : Ev) (hl : e.2.1.length ≤ 1000) : eventOwnJk fu e = some (((e.1, e.2.1.length, ()), ()), ()) := by
  unfold eventOwnJk slicesCloneJk
  have hL : (10000000 : Nat) ≤ LIM := by decide
  have e1 : decide (e.2.1.length * 40 ≤ LIM) = true := decide_eq_true (by omega)
  simp only [e1, chk, cond_true]
  generalize e.2.1 = l
  cases l with
  | nil => unfold nilQ both; simp
  | cons x q => rfl
theorem own_rounds (fu : Nat) (k2 : Int × List Rw × Unit → Ev → Ev → Option (Bool × Unit)) (x : Int × List Rw × Unit) (a b : Ev) (c : Int) (n : Nat) (hn : n ≤ 1000) : ∀ (k m i : Nat), i + k = n → k < m →
    law05EventSame.l6 fu k2 m n i x a b c n = k2 x a b := by
  intro k
  induction k with
  | zero =>
    intro m i h1 h2
    obtain ⟨m, rfl⟩ : ∃ j, m = j + 1 := ⟨m - 1, by omega⟩
    unfold law05EventSame.l6 law05EventSame.b6
    rw [decide_eq_false (by omega), cond_false]
  | succ k ih =>
    intro m i h1 h2
    obtain ⟨m, rfl⟩ : ∃ j, m = j + 1 := ⟨m - 1, by omega⟩
    have e1 : IntKind.i64.wrap ((i : Int) + 1) = ((i + 1 : Nat) : Int) := wrap_i64 (by omega) (by omega)
    have e2 : decide ((0 : Int) ≤ (i : Int)) = true := decide_eq_true (by omega)
    have e3 : decide ((i : Int) < (n : Int)) = true := decide_eq_true (by omega)
    unfold law05EventSame.l6 law05EventSame.b6
    simp only [e2, e3, chk, cond_true, Bool.and_self, e1]
    exact ih m (i + 1) (by omega) (by omega)
theorem nine_rounds (fu : Nat) (k1 : Bool → Option (Bool × Unit)) (k4 : Int × List Rw × Unit → Ev → Ev → Option (Bool × Unit)) (x : Int × List Rw × Unit) (a b : Ev) (l : List Va) (hl : l.length ≤ 1000) (hv : okV l) : ∀ (k m i : Nat), i + k = l.length → k < m →
    law05EventSame.l11 fu k1 k4 m l l.length i x a b = k4 x a b := by
  intro k
  induction k with
  | zero =>
    intro m i h1 h2
    obtain ⟨m, rfl⟩ : ∃ j, m = j + 1 := ⟨m - 1, by omega⟩
    unfold law05EventSame.l11 law05EventSame.b11
    rw [decide_eq_false (by omega), cond_false]
  | succ k ih =>
    intro m i h1 h2
    obtain ⟨m, rfl⟩ : ∃ j, m = j + 1 := ⟨m - 1, by omega⟩
    have hi : i < l.length := by omega
    have e1 : IntKind.i64.wrap ((i : Int) + 1) = ((i + 1 : Nat) : Int) := wrap_i64 (by omega) (by omega)
    have := ih m (i + 1) (by omega) (by omega)
    have hf := hv _ (List.getElem_mem hi)
    unfold law05EventSame.l11 law05EventSame.b11
    rw [decide_eq_true (by omega), cond_true, ixOkN hi, ixV hi]
    simp only [same4_eq fu _ ((9 : Int), (0 : Int), (0 : Nat), [], ()) hf (show (0 : Nat) < 18446744073709551616 by omega), chk, cond_true, Option.bind_some, e1, this]
    by_cases h9 : l[i].1 = 9
    · have hs : same4 l[i] ((9 : Int), (0 : Int), (0 : Nat), [], ()) = true := by
        unfold same4
        simp [h9]
      simp only [h9, hs, beq_self_eq_true, cond_true, Bool.not_true, cond_false]
    · simp only [ne_beq h9, cond_false]
/-- THE LAW. -/
theorem lawEventSame (x y : Int × List Rw × Unit) (h : okAll law05EventSame.con.ps (x, y, ())) : law05EventSame (x.2.1.length + y.2.1.length + 100) x y = some (true, ()) := by
  obtain ⟨hx1, hx2, hx3⟩ : evOk (rawE x) ∧ (rawE x).2.1.length ≤ 30 ∧ x.2.1.length ≤ 140737488355328 := rawE_ok h.1
  obtain ⟨hy1, hy2, hy3⟩ : evOk (rawE y) ∧ (rawE y).2.1.length ≤ 30 ∧ y.2.1.length ≤ 140737488355328 := rawE_ok h.2.1
  have hx4 : okV (rawE x).2.1 := fun v hv => (hx1.2 v hv).2.2.1
  have hy4 : okV (rawE y).2.1 := fun v hv => (hy1.2 v hv).2.2.1
  have hf := fixed05e (x.2.1.length + y.2.1.length)
  generalize hfu : x.2.1.length + y.2.1.length + 100 = fu at hf
  unfold law05EventSame
  rw [twice_eq]
  obtain ⟨g, hg⟩ := great_eq fu (by omega) (rawE x)
  obtain ⟨g', hg'⟩ := great_eq fu (by omega) (rawE y)
  rw [rawE_eq fu x hx3 (by omega), rawE_eq fu y hy3 (by omega)]
  simp only [Option.bind_some]
  unfold law05EventSame.j2
  simp only [hg, hg', hf, Option.bind_some]
  cases g with
  | true => rfl
  | false =>
    cases g' with
    | true => rfl
    | false =>
      simp only [cond_false, ownJk_eq fu (rawE x) (by omega), Option.bind_some]
      rw [show (0 : Int) = ((0 : Nat) : Int) from rfl, own_rounds fu _ x (rawE x) (rawE y) (rawE x).1 (rawE x).2.1.length (by omega) (rawE x).2.1.length fu 0 (by omega) (by omega)]
      rw [nine_rounds fu _ _ x (rawE x) (rawE y) (rawE x).2.1 (by omega) hx4 (rawE x).2.1.length fu 0 (by omega) (by omega)]
      simp only [Option.bind_some, cond_true, rawE_eq fu x hx3 (by omega)]
      rw [eventSame_eq fu (rawE x) (rawE y) (by omega) (by omega) hx4 hy4, refSameE_eq fu (rawE x) (rawE y) (by omega) (by omega) hx4 hy4, refSameE_eq fu (rawE x) (rawE x) (by omega) (by omega) hx4 hx4, eventSame_eq fu (rawE x) (rawE x) (by omega) (by omega) hx4 hx4]
      simp only [Option.bind_some, beq_self_eq_true, cond_true, sameE_refl]

end Go.Shal.Pr
