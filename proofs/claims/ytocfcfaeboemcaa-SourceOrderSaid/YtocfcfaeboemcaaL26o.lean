/- The plain law of sources' order. By an AI agent. -/
import Derived.Test.YtocfcfaeboemcaaGen26
set_option linter.unusedVariables false
namespace Go.Shal.Pr
open Go Go.Shal Go.Proofs
-- the order
theorem wrap_u64 {x : Int} (h0 : 0 ≤ x) (h1 : x < 18446744073709551616) : IntKind.u64.wrap x = x := by
  simp only [IntKind.wrap, IntKind.signed, IntKind.bits]
  simp
  omega
theorem wrap_i64 {x : Int} (h0 : -9223372036854775808 ≤ x) (h1 : x < 9223372036854775808) : IntKind.i64.wrap x = x := by
  simp only [IntKind.wrap, IntKind.signed, IntKind.bits]
  simp
  omega
theorem wrap_u8 (x : Int) : IntKind.u8.wrap x = x % 256 := by
  simp only [IntKind.wrap, IntKind.signed, IntKind.bits]
  simp
theorem max2_eq (x y : Int) : max2 x y = max x y := by unfold max2; split <;> omega
def By (l : List Int) : Prop := ∀ b ∈ l, (0 : Int) ≤ b ∧ b ≤ 255
theorem shr_eq (x : Int) (k : Nat) (hk : k < 64) : sShr .u64 x (k : Int) = x / 2 ^ k := by
  unfold sShr
  have e : min (k : Int).toNat IntKind.u64.bits = k := by simp only [IntKind.bits]; omega
  rw [e, Int.fdiv_eq_ediv_of_nonneg]
  exact_mod_cast Nat.zero_le _
theorem byte_or (c : Int) (h0 : 0 ≤ c) (h : c ≤ 255) : bOr .u8 c 128 = c % 128 + 128 := by
  have key : ∀ m : Fin 256, bOr .u8 (m.val : Int) 128 = (m.val : Int) % 128 + 128 := by decide +kernel
  have := key ⟨c.toNat, by omega⟩
  simp only at this
  rw [show (c.toNat : Int) = c by omega] at this
  exact this
def putN : Nat → Int → List Int
  | 0, n => [n]
  | k + 1, n => if n ≥ 128 then (n % 128 + 128) :: putN k (n / 128) else [n]
theorem putN_len : ∀ (k : Nat) (n : Int), (putN k n).length ≤ k + 1 ∧ 0 < (putN k n).length
  | 0, n => by simp [putN]
  | k + 1, n => by
    unfold putN
    split
    · have := putN_len k (n / 128)
      simp only [List.length_cons]
      omega
    · simp
theorem apOk1 {xs ys : List Int} (h : xs.length + ys.length ≤ 1000000) : apOk xs ys 1 = true := by
  unfold apOk
  exact decide_eq_true (Nat.le_trans (Nat.mul_le_mul_right 1 h) (by decide))
def tab8 : List Int := ([0, 1, 2, 2, 3, 3, 3, 3, 4, 4, 4, 4, 4, 4, 4, 4, 5, 5, 5, 5, 5, 5, 5, 5, 5, 5, 5, 5, 5, 5, 5, 5, 6, 6, 6, 6, 6, 6, 6, 6, 6, 6, 6, 6, 6, 6, 6, 6, 6, 6, 6, 6, 6, 6, 6, 6, 6, 6, 6, 6, 6, 6, 6, 6, 7, 7, 7, 7, 7, 7, 7, 7, 7, 7, 7, 7, 7, 7, 7, 7, 7, 7, 7, 7, 7, 7, 7, 7, 7, 7, 7, 7, 7, 7, 7, 7, 7, 7, 7, 7, 7, 7, 7, 7, 7, 7, 7, 7, 7, 7, 7, 7, 7, 7, 7, 7, 7, 7, 7, 7, 7, 7, 7, 7, 7, 7, 7, 7, 8, 8, 8, 8, 8, 8, 8, 8, 8, 8, 8, 8, 8, 8, 8, 8, 8, 8, 8, 8, 8, 8, 8, 8, 8, 8, 8, 8, 8, 8, 8, 8, 8, 8, 8, 8, 8, 8, 8, 8, 8, 8, 8, 8, 8, 8, 8, 8, 8, 8, 8, 8, 8, 8, 8, 8, 8, 8, 8, 8, 8, 8, 8, 8, 8, 8, 8, 8, 8, 8, 8, 8, 8, 8, 8, 8, 8, 8, 8, 8, 8, 8, 8, 8, 8, 8, 8, 8, 8, 8, 8, 8, 8, 8, 8, 8, 8, 8, 8, 8, 8, 8, 8, 8, 8, 8, 8, 8, 8, 8, 8, 8, 8, 8, 8, 8, 8, 8, 8, 8, 8, 8, 8, 8, 8, 8, 8, 8] : List Int)
theorem tab8_ok (x : Int) (h0 : 0 ≤ x) (h1 : x < 256) : ixOk tab8 x = true ∧ 0 ≤ ixL 0 tab8 x ∧ ixL 0 tab8 x ≤ 8 := by
  have key : ∀ m : Fin 256, ixOk tab8 (m.val : Int) = true ∧ 0 ≤ ixL 0 tab8 (m.val : Int) ∧ ixL 0 tab8 (m.val : Int) ≤ 8 := by decide +kernel
  have := key ⟨x.toNat, by omega⟩
  simp only at this
  rw [show (x.toNat : Int) = x by omega] at this
  exact this
theorem len_j7 (fu : Nat) k1 (x n : Int) (h0 : 0 ≤ x) (h1 : x < 65536) (hn : 0 ≤ n) (hn1 : n ≤ 100) : ∃ r, bitsLen64.j7 fu k1 x n = k1 r ∧ 0 ≤ r ∧ r ≤ n + 16 := by
  unfold bitsLen64.j7
  rw [show ([0, 1, 2, 2, 3, 3, 3, 3, 4, 4, 4, 4, 4, 4, 4, 4, 5, 5, 5, 5, 5, 5, 5, 5, 5, 5, 5, 5, 5, 5, 5, 5, 6, 6, 6, 6, 6, 6, 6, 6, 6, 6, 6, 6, 6, 6, 6, 6, 6, 6, 6, 6, 6, 6, 6, 6, 6, 6, 6, 6, 6, 6, 6, 6, 7, 7, 7, 7, 7, 7, 7, 7, 7, 7, 7, 7, 7, 7, 7, 7, 7, 7, 7, 7, 7, 7, 7, 7, 7, 7, 7, 7, 7, 7, 7, 7, 7, 7, 7, 7, 7, 7, 7, 7, 7, 7, 7, 7, 7, 7, 7, 7, 7, 7, 7, 7, 7, 7, 7, 7, 7, 7, 7, 7, 7, 7, 7, 7, 8, 8, 8, 8, 8, 8, 8, 8, 8, 8, 8, 8, 8, 8, 8, 8, 8, 8, 8, 8, 8, 8, 8, 8, 8, 8, 8, 8, 8, 8, 8, 8, 8, 8, 8, 8, 8, 8, 8, 8, 8, 8, 8, 8, 8, 8, 8, 8, 8, 8, 8, 8, 8, 8, 8, 8, 8, 8, 8, 8, 8, 8, 8, 8, 8, 8, 8, 8, 8, 8, 8, 8, 8, 8, 8, 8, 8, 8, 8, 8, 8, 8, 8, 8, 8, 8, 8, 8, 8, 8, 8, 8, 8, 8, 8, 8, 8, 8, 8, 8, 8, 8, 8, 8, 8, 8, 8, 8, 8, 8, 8, 8, 8, 8, 8, 8, 8, 8, 8, 8, 8, 8, 8, 8, 8, 8, 8, 8] : List Int) = tab8 from rfl]
  have fits : ∀ y : Int, 0 ≤ y → y ≤ 1000 → IntKind.i64.wrap y = y := fun y a b => wrap_i64 (by omega) (by omega)
  by_cases h : x ≥ 256
  · have e1 : sShr .u64 x 8 = x / 256 := by have := shr_eq x 8 (by omega); simpa using this
    have e2 : IntKind.u8.wrap (x / 256) = x / 256 := by rw [wrap_u8]; omega
    obtain ⟨q1, q2, q3⟩ := tab8_ok (x / 256) (by omega) (by omega)
    simp only [h, decide_true, cond_true, e1, e2, q1, chk]
    rw [fits (n + 8) (by omega) (by omega), fits (ixL 0 tab8 (x / 256)) q2 (by omega), fits _ (by omega) (by omega)]
    exact ⟨_, rfl, by omega, by omega⟩
  · obtain ⟨q1, q2, q3⟩ := tab8_ok x (by omega) (by omega)
    have e2 : IntKind.u8.wrap x = x := by rw [wrap_u8]; omega
    simp only [h, decide_false, cond_false, e2, q1, chk, cond_true]
    rw [fits (ixL 0 tab8 x) q2 (by omega), fits _ (by omega) (by omega)]
    exact ⟨_, rfl, by omega, by omega⟩
theorem len_j4 (fu : Nat) k1 (x n : Int) (h0 : 0 ≤ x) (h1 : x < 4294967296) (hn : 0 ≤ n) (hn1 : n ≤ 64) : ∃ r, bitsLen64.j4 fu k1 x n = k1 r ∧ 0 ≤ r ∧ r ≤ n + 32 := by
  unfold bitsLen64.j4
  by_cases h : x ≥ 65536
  · have e1 : sShr .u64 x 16 = x / 65536 := by have := shr_eq x 16 (by omega); simpa using this
    have e2 : IntKind.i64.wrap (n + 16) = n + 16 := wrap_i64 (by omega) (by omega)
    simp only [h, decide_true, cond_true, e1, e2]
    obtain ⟨r, h1, h2, h3⟩ := len_j7 fu (fun q => k1 q) (x / 65536) (n + 16) (by omega) (by omega) (by omega) (by omega)
    exact ⟨r, h1, h2, by omega⟩
  · simp only [h, decide_false, cond_false]
    obtain ⟨r, h1, h2, h3⟩ := len_j7 fu (fun q => k1 q) x n (by omega) (by omega) (by omega) (by omega)
    exact ⟨r, h1, h2, by omega⟩
theorem len64_le (fu : Nat) (n : Int) (h0 : 0 ≤ n) (h1 : n < 18446744073709551616) : ∃ r, bitsLen64 fu n = some (r, ()) ∧ 0 ≤ r ∧ r ≤ 64 := by
  unfold bitsLen64
  by_cases h : n ≥ 4294967296
  · have e1 : sShr .u64 n 32 = n / 4294967296 := by have := shr_eq n 32 (by omega); simpa using this
    simp only [h, decide_true, cond_true, e1]
    obtain ⟨r, h1, h2, h3⟩ := len_j4 fu (fun q => some (q, ())) (n / 4294967296) 32 (by omega) (by omega) (by omega) (by omega)
    exact ⟨r, h1, h2, by omega⟩
  · simp only [h, decide_false, cond_false]
    obtain ⟨r, h1, h2, h3⟩ := len_j4 fu (fun q => some (q, ())) n 0 (by omega) (by omega) (by omega) (by omega)
    exact ⟨r, h1, h2, by omega⟩
theorem size_le (fu : Nat) (n : Int) (h0 : 0 ≤ n) (h1 : n < 18446744073709551616) : ∃ r, packSize fu n = some (r, ()) ∧ 0 ≤ r ∧ r ≤ 10 := by
  unfold packSize
  obtain ⟨r, q1, q2, q3⟩ := len64_le fu n h0 h1
  have e1 : IntKind.i64.wrap (max2 r 1 + 6) = max r 1 + 6 := by rw [max2_eq, wrap_i64 (by omega) (by omega)]
  have e2 : Int.tdiv (max r 1 + 6) 7 = (max r 1 + 6) / 7 := Int.tdiv_eq_ediv_of_nonneg (by omega)
  have e3 : IntKind.i64.wrap ((max r 1 + 6) / 7) = (max r 1 + 6) / 7 := wrap_i64 (by omega) (by omega)
  simp only [q1, Option.bind_some, e1, e2, e3]
  exact ⟨_, rfl, by omega, by omega⟩
theorem own_eq (fu : Nat) (b : List Int) (room : Int) (hl : b.length ≤ 500000) (h0 : 0 ≤ room) (h1 : room ≤ 1000) : packOwn fu b room = some ((b, ()), ()) := by
  unfold packOwn
  have e1 : IntKind.i64.wrap ((b.length : Int) + room) = b.length + room := wrap_i64 (by omega) (by omega)
  have e2 : mkOk 0 ((b.length : Int) + room) 1 = true := by
    have hL : (1000000 : Int) ≤ (LIM : Int) := by decide
    unfold mkOk
    simp only [Bool.and_eq_true, decide_eq_true_eq]
    omega
  have e3 : apOk ([] : List Int) b 1 = true := apOk1 (by simp; omega)
  simp only [e1, e2, chk, cond_true, Int.toNat_zero, List.replicate_zero, e3, List.nil_append]
theorem pow_succ128 (k : Nat) : (128 : Int) ^ (k + 1) = 128 * 128 ^ k := by rw [Int.pow_succ, Int.mul_comm]
theorem putO_rounds (fu : Nat) (k2 : Int → List Int → Option (((List Int) × Unit) × (Unit))) : ∀ (k m : Nat) (n : Int) (out : List Int), k < m → 0 ≤ n → n < 128 ^ (k + 1) → out.length + k ≤ 500000 →
    ∃ last init, putN k n = init ++ [last] ∧ 0 ≤ last ∧ last < 128 ∧ packPut.l2 fu k2 m n out = k2 last (out ++ init) := by
  intro k
  induction k with
  | zero =>
    intro m n out hm h0 h1 hl
    obtain ⟨m, rfl⟩ : ∃ j, m = j + 1 := ⟨m - 1, by omega⟩
    have hn : ¬ n ≥ 128 := by have : (128 : Int) ^ (0 + 1) = 128 := by decide
                              omega
    refine ⟨n, [], by simp [putN], h0, by omega, ?_⟩
    unfold packPut.l2 packPut.b2
    simp [hn]
  | succ k ih =>
    intro m n out hm h0 h1 hl
    obtain ⟨m, rfl⟩ : ∃ j, m = j + 1 := ⟨m - 1, by omega⟩
    unfold packPut.l2 packPut.b2 putN
    by_cases hn : n ≥ 128
    · have e1 : sShr .u64 n 7 = n / 128 := by have := shr_eq n 7 (by omega); simpa using this
      have e2 : bOr .u8 (IntKind.u8.wrap n) 128 = n % 128 + 128 := by rw [wrap_u8, byte_or _ (by omega) (by omega)]; omega
      rw [pow_succ128] at h1
      obtain ⟨last, init, q1, q2, q3, q4⟩ := ih m (n / 128) (out ++ [n % 128 + 128]) (by omega) (by omega) (by omega) (by simp; omega)
      refine ⟨last, (n % 128 + 128) :: init, by rw [if_pos hn, q1]; rfl, q2, q3, ?_⟩
      have e3 : apOk out [n % 128 + 128] 1 = true := apOk1 (by simp; omega)
      simp only [hn, decide_true, cond_true, e1, e2, e3, chk]
      rw [q4, List.append_assoc]
      rfl
    · refine ⟨n, [], by rw [if_neg hn]; rfl, h0, by omega, ?_⟩
      simp [hn]
theorem putD_rounds (fu : Nat) (k2 : Int → List Int → Option ((List Int) × Unit)) : ∀ (k m : Nat) (n : Int) (out : List Int), k < m → 0 ≤ n → n < 128 ^ (k + 1) → out.length + k ≤ 500000 →
    ∃ last init, putN k n = init ++ [last] ∧ 0 ≤ last ∧ last < 128 ∧ packPutDat.l2 fu k2 m n out = k2 last (out ++ init) := by
  intro k
  induction k with
  | zero =>
    intro m n out hm h0 h1 hl
    obtain ⟨m, rfl⟩ : ∃ j, m = j + 1 := ⟨m - 1, by omega⟩
    have hn : ¬ n ≥ 128 := by have : (128 : Int) ^ (0 + 1) = 128 := by decide
                              omega
    refine ⟨n, [], by simp [putN], h0, by omega, ?_⟩
    unfold packPutDat.l2 packPutDat.b2
    simp [hn]
  | succ k ih =>
    intro m n out hm h0 h1 hl
    obtain ⟨m, rfl⟩ : ∃ j, m = j + 1 := ⟨m - 1, by omega⟩
    unfold packPutDat.l2 packPutDat.b2 putN
    by_cases hn : n ≥ 128
    · have e1 : sShr .u64 n 7 = n / 128 := by have := shr_eq n 7 (by omega); simpa using this
      have e2 : bOr .u8 (IntKind.u8.wrap n) 128 = n % 128 + 128 := by rw [wrap_u8, byte_or _ (by omega) (by omega)]; omega
      rw [pow_succ128] at h1
      obtain ⟨last, init, q1, q2, q3, q4⟩ := ih m (n / 128) (out ++ [n % 128 + 128]) (by omega) (by omega) (by omega) (by simp; omega)
      refine ⟨last, (n % 128 + 128) :: init, by rw [if_pos hn, q1]; rfl, q2, q3, ?_⟩
      have e3 : apOk out [n % 128 + 128] 1 = true := apOk1 (by simp; omega)
      simp only [hn, decide_true, cond_true, e1, e2, e3, chk]
      rw [q4, List.append_assoc]
      rfl
    · refine ⟨n, [], by rw [if_neg hn]; rfl, h0, by omega, ?_⟩
      simp [hn]
theorem put_eq (fu : Nat) (hfu : 12 ≤ fu) (b : List Int) (n : Int) (hl : b.length ≤ 400000) (h0 : 0 ≤ n) (h1 : n < 18446744073709551616) : packPut fu b n = some ((b ++ putN 9 n, ()), ()) ∧ packPutDat fu b n = some (b ++ putN 9 n, ()) := by
  obtain ⟨r, q1, q2, q3⟩ := size_le fu n h0 h1
  have hp : (128 : Int) ^ (9 + 1) = 1180591620717411303424 := by decide
  constructor
  · obtain ⟨last, init, p1, p2, p3, p4⟩ := putO_rounds fu (fun nq2 outq2 => 
      chk (apOk outq2 ([IntKind.u8.wrap nq2]) 1) <|
      let t3 := outq2 ++ ([IntKind.u8.wrap nq2])
      some ((t3, ()), (()))) 9 fu n b (by omega) h0 (by omega) (by omega)
    have hlen := putN_len 9 n
    rw [p1] at hlen
    simp only [List.length_append, List.length_cons, List.length_nil] at hlen
    have e1 : IntKind.u8.wrap last = last := by rw [wrap_u8]; omega
    have e2 : apOk (b ++ init) [last] 1 = true := apOk1 (by simp; omega)
    unfold packPut
    simp only [q1, Option.bind_some, own_eq fu b r (by omega) q2 (by omega)]
    refine p4.trans ?_
    simp only [e1, e2, chk, cond_true, p1, List.append_assoc]
  · obtain ⟨last, init, p1, p2, p3, p4⟩ := putD_rounds fu (fun nq2 outq2 => 
      chk (apOk outq2 ([IntKind.u8.wrap nq2]) 1) <|
      let t3 := outq2 ++ ([IntKind.u8.wrap nq2])
      some (t3, ())) 9 fu n b (by omega) h0 (by omega) (by omega)
    have hlen := putN_len 9 n
    rw [p1] at hlen
    simp only [List.length_append, List.length_cons, List.length_nil] at hlen
    have e1 : IntKind.u8.wrap last = last := by rw [wrap_u8]; omega
    have e2 : apOk (b ++ init) [last] 1 = true := apOk1 (by simp; omega)
    unfold packPutDat
    simp only [q1, Option.bind_some, own_eq fu b r (by omega) q2 (by omega)]
    refine p4.trans ?_
    simp only [e1, e2, chk, cond_true, p1, List.append_assoc]
theorem putText_eq (fu : Nat) (hfu : 12 ≤ fu) (b s : List Int) (hl : b.length ≤ 400000) (hs : s.length ≤ 400000) : packPutText fu b s = some (b ++ putN 9 s.length ++ s, ()) := by
  unfold packPutText
  have e1 : IntKind.u64.wrap (s.length : Int) = s.length := wrap_u64 (by omega) (by omega)
  have := putN_len 9 s.length
  have e2 : apOk (b ++ putN 9 s.length) s 1 = true := apOk1 (by rw [List.length_append]; omega)
  simp only [e1, (put_eq fu hfu b s.length hl (by omega) (by omega)).1, Option.bind_some, e2, chk, cond_true]
def isNan (x : Nat) : Prop := x % 9223372036854775808 > 9218868437227405312
instance : DecidablePred isNan := fun x => inferInstanceAs (Decidable (_ > _))
def canon (x : Nat) : Int := if isNan x then 9221120237041090560 else x
theorem nan_iff (x : Nat) : fNeq x x = decide (isNan x) := by
  unfold fNeq
  show (FloatKind.f64.format.order x x != some .eq) = _
  have hsw : FloatKind.f64.format.signWeight = 9223372036854775808 := by decide
  have hir : FloatKind.f64.format.infRung = 9218868437227405312 := by decide
  have hbi : FloatKind.f64.format.binade = 4503599627370496 := by decide
  unfold Ieee.Format.order Ieee.Format.read
  have no : ¬ (x % 9223372036854775808 > 9218868437227405312) → decide (isNan x) = false := fun h => decide_eq_false h
  simp only [hsw, hir, hbi]
  split
  · rename_i h
    rw [no (by omega)]
    simp [Ieee.Datum.order]
  · split
    · rename_i h1 h2
      rw [no (by omega)]
      simp [Ieee.Datum.order]
    · split
      · rename_i h1 h2 h3
        rw [no (by omega)]
        simp [Ieee.Datum.order]
      · rename_i h1 h2 h3
        exact (decide_eq_true (p := isNan x) (show x % 9223372036854775808 > 9218868437227405312 by omega)).symm
theorem realBits_eq (fu : Nat) (x : Nat) (h : x < 18446744073709551616) : realBits fu x = some (canon x, ()) := by
  unfold realBits canon
  rw [nan_iff]
  by_cases hx : isNan x
  · simp [hx]
  · have : extBits.f fu (x, ()) = some ((x : Int), ()) := by
      show (match decide (x < 18446744073709551616) with | true => some ((x : Int), ()) | false => none) = _
      rw [decide_eq_true h]
    simp only [hx, decide_false, cond_false, if_false]
    rw [this]
    rfl
theorem canon_fits (x : Nat) (h : x < 18446744073709551616) : 0 ≤ canon x ∧ canon x < 18446744073709551616 := by
  unfold canon; split <;> omega
def bytes8 (n : Int) : List Int := [n / 72057594037927936 % 256, n / 281474976710656 % 256, n / 1099511627776 % 256, n / 4294967296 % 256, n / 16777216 % 256, n / 65536 % 256, n / 256 % 256, n % 256]
theorem realD_step (fu : Nat) (k2 : List Int → Option ((List Int) × Unit)) (m k : Nat) (hk : k < 64) (out : List Int) (n : Int) (ho : out.length ≤ 900000) :
    packPutRealDat.l4 fu k2 (m + 1) out n (k : Int) = packPutRealDat.l4 fu k2 m (out ++ [n / 2 ^ k % 256]) n ((k : Int) - 8) := by
  have e1 : apOk out [n / 2 ^ k % 256] 1 = true := apOk1 (by simp; omega)
  have e2 : IntKind.i64.wrap ((k : Int) - 8) = k - 8 := wrap_i64 (by omega) (by omega)
  have h1 : decide ((k : Int) ≥ 0) = true := decide_eq_true (by omega)
  have h2 : decide ((k : Int) < 0) = false := decide_eq_false (by omega)
  conv => lhs; unfold packPutRealDat.l4 packPutRealDat.b4
  simp only [h1, h2, cond_true, chk, Bool.not_false, shr_eq n k hk, wrap_u8, e1, e2]
theorem realD_end (fu : Nat) (k2 : List Int → Option ((List Int) × Unit)) (m : Nat) (out : List Int) (n : Int) : packPutRealDat.l4 fu k2 (m + 1) out n (-8) = k2 out := by
  unfold packPutRealDat.l4 packPutRealDat.b4
  rfl
theorem putReal_eq (f : Nat) (b : List Int) (x : Nat) (hl : b.length ≤ 400000) (hx : x < 18446744073709551616) :
    packPutRealDat (f + 9) b x = some (b ++ bytes8 (canon x), ()) := by
  unfold packPutRealDat
  rw [own_eq _ b 8 (by omega) (by omega) (by omega), realBits_eq _ x hx]
  simp only [Option.bind_some]
  generalize canon x = n
  refine (realD_step _ _ (f + 8) 56 (by omega) b n (by omega)).trans ?_
  refine (realD_step _ _ (f + 7) 48 (by omega) _ n (by simp; omega)).trans ?_
  refine (realD_step _ _ (f + 6) 40 (by omega) _ n (by simp; omega)).trans ?_
  refine (realD_step _ _ (f + 5) 32 (by omega) _ n (by simp; omega)).trans ?_
  refine (realD_step _ _ (f + 4) 24 (by omega) _ n (by simp; omega)).trans ?_
  refine (realD_step _ _ (f + 3) 16 (by omega) _ n (by simp; omega)).trans ?_
  refine (realD_step _ _ (f + 2) 8 (by omega) _ n (by simp; omega)).trans ?_
  refine (realD_step _ _ (f + 1) 0 (by omega) _ n (by simp; omega)).trans ?_
  refine (realD_end _ _ f _ n).trans ?_
  simp [bytes8]
def zig (n : Int) : Int := if n ≥ 0 then 2 * n else -2 * n - 1
theorem xor_zero64 (x : Int) (h0 : 0 ≤ x) (h1 : x < 18446744073709551616) : bXor .u64 x 0 = x := by
  obtain ⟨N, rfl⟩ := Int.eq_ofNat_of_zero_le h0
  show IntKind.u64.wrap (((BitVec.ofInt 64 (N : Int) ^^^ BitVec.ofInt 64 (0 : Int)).toNat : Nat) : Int) = _
  rw [show BitVec.ofInt 64 (0 : Int) = 0#64 from rfl, BitVec.xor_zero, BitVec.ofInt_natCast, BitVec.toNat_ofNat, Nat.mod_eq_of_lt (by omega)]
  exact wrap_u64 (by omega) (by omega)
theorem xor_ones64 (x : Int) (h0 : 0 ≤ x) (h1 : x < 18446744073709551616) : bXor .u64 x 18446744073709551615 = 18446744073709551615 - x := by
  obtain ⟨N, rfl⟩ := Int.eq_ofNat_of_zero_le h0
  show IntKind.u64.wrap (((BitVec.ofInt 64 (N : Int) ^^^ BitVec.ofInt 64 (18446744073709551615 : Int)).toNat : Nat) : Int) = _
  rw [show BitVec.ofInt 64 (18446744073709551615 : Int) = BitVec.allOnes 64 by decide, BitVec.xor_allOnes, BitVec.toNat_not, BitVec.ofInt_natCast, BitVec.toNat_ofNat, Nat.mod_eq_of_lt (by omega)]
  rw [wrap_u64 (by omega) (by omega)]
  omega
theorem shr63 (n : Int) (h0 : -9223372036854775808 ≤ n) (h1 : n < 9223372036854775808) : sShr .i64 n 63 = if n ≥ 0 then 0 else -1 := by
  unfold sShr
  have e : min (63 : Int).toNat IntKind.i64.bits = 63 := by decide
  rw [e, show (2 : Int) ^ 63 = 9223372036854775808 by decide, Int.fdiv_eq_ediv_of_nonneg _ (by omega)]
  split <;> omega
theorem putInt_eq (fu : Nat) (hfu : 12 ≤ fu) (b : List Int) (n : Int) (hl : b.length ≤ 400000) (h0 : -9223372036854775808 ≤ n) (h1 : n < 9223372036854775808) : packPutInt fu b n = some (b ++ putN 9 (zig n), ()) := by
  unfold packPutInt zig
  rw [shr63 n h0 h1]
  have hsh : ∀ x : Int, 0 ≤ x → x < 18446744073709551616 → sShl .u64 x 1 = IntKind.u64.wrap (x * 2) := fun x _ _ => by
    unfold sShl
    have e : min (1 : Int).toNat IntKind.u64.bits = 1 := by decide
    rw [e]
    rfl
  by_cases hn : n ≥ 0
  · have e1 : IntKind.u64.wrap n = n := wrap_u64 (by omega) (by omega)
    have e2 : sShl .u64 n 1 = 2 * n := by rw [hsh n hn (by omega), wrap_u64 (by omega) (by omega)]; omega
    have e3 : IntKind.u64.wrap 0 = 0 := by decide
    simp only [hn, if_true, e1, e2, e3, xor_zero64 (2 * n) (by omega) (by omega), (put_eq fu hfu b (2 * n) hl (by omega) (by omega)).2, Option.bind_some]
  · have e1 : IntKind.u64.wrap n = n + 18446744073709551616 := by
      simp only [IntKind.wrap, IntKind.signed, IntKind.bits]
      simp
      omega
    have e2 : sShl .u64 (n + 18446744073709551616) 1 = 2 * n + 18446744073709551616 := by
      rw [hsh _ (by omega) (by omega)]
      simp only [IntKind.wrap, IntKind.signed, IntKind.bits]
      simp
      omega
    have e3 : IntKind.u64.wrap (-1) = 18446744073709551615 := by decide
    have e4 : (18446744073709551615 : Int) - (2 * n + 18446744073709551616) = -2 * n - 1 := by omega
    simp only [hn, if_false, e1, e2, e3, xor_ones64 (2 * n + 18446744073709551616) (by omega) (by omega), e4, (put_eq fu hfu b (-2 * n - 1) hl (by omega) (by omega)).2, Option.bind_some]
theorem partsBits_eq (fu : Nat) (n : Int) (h0 : 0 ≤ n) (h1 : n < 18446744073709551616) : ((ref02OfBits fu n).bind fun r => ref02PartsBits fu r.1) = some (canon n.toNat, ()) := by
  unfold ref02OfBits ref02PartsBits ref02PartsNaN canon
  have t1 : Int.tdiv n 4503599627370496 = n / 4503599627370496 := Int.tdiv_eq_ediv_of_nonneg h0
  have t2 : IntKind.u64.wrap (n / 4503599627370496) = n / 4503599627370496 := wrap_u64 (by omega) (by omega)
  have t3 : Int.tmod (n / 4503599627370496) 2048 = n / 4503599627370496 % 2048 := Int.tmod_eq_emod_of_nonneg (by omega)
  have t4 : IntKind.i64.wrap (n / 4503599627370496 % 2048) = n / 4503599627370496 % 2048 := wrap_i64 (by omega) (by omega)
  have t5 : Int.tmod n 4503599627370496 = n % 4503599627370496 := Int.tmod_eq_emod_of_nonneg h0
  have t6 : IntKind.u64.wrap (n / 4503599627370496 % 2048) = n / 4503599627370496 % 2048 := wrap_u64 (by omega) (by omega)
  have t7 : IntKind.u64.wrap (n / 4503599627370496 % 2048 * 4503599627370496) = n / 4503599627370496 % 2048 * 4503599627370496 := wrap_u64 (by omega) (by omega)
  have t8 : IntKind.u64.wrap (n / 4503599627370496 % 2048 * 4503599627370496 + n % 4503599627370496) = n / 4503599627370496 % 2048 * 4503599627370496 + n % 4503599627370496 := wrap_u64 (by omega) (by omega)
  simp only [t1, t2, t3, t4, t5, t6, t7, t8, Option.bind_some]
  have hnan : isNan n.toNat ↔ n / 4503599627370496 % 2048 = 2047 ∧ n % 4503599627370496 ≠ 0 := by
    unfold isNan
    constructor
    · intro h; omega
    · rintro ⟨h1, h2⟩; omega
  by_cases hx : n / 4503599627370496 % 2048 = 2047
  · by_cases hy : n % 4503599627370496 = 0
    · rw [if_neg (fun h => (hnan.1 h).2 hy)]
      simp only [hx, hy, beq_self_eq_true, bne_self_eq_false, cond_true, cond_false, Option.bind_some]
      by_cases hs : n ≥ 9223372036854775808
      · have : IntKind.u64.wrap (2047 * 4503599627370496 + 0 + 9223372036854775808) = n := by rw [wrap_u64 (by omega) (by omega)]; omega
        simp only [hs, decide_true, cond_true, this]
        congr 2; omega
      · simp only [hs, decide_false, cond_false]
        congr 2; omega
    · rw [if_pos (hnan.2 ⟨hx, hy⟩)]
      have hy' : (n % 4503599627370496 != 0) = true := bne_iff_ne.2 hy
      simp only [hx, hy', beq_self_eq_true, cond_true, Option.bind_some]
  · rw [if_neg (fun h => hx (hnan.1 h).1)]
    have hx' : (n / 4503599627370496 % 2048 == 2047) = false := beq_false_of_ne hx
    simp only [hx', cond_false, Option.bind_some]
    by_cases hs : n ≥ 9223372036854775808
    · have : IntKind.u64.wrap (n / 4503599627370496 % 2048 * 4503599627370496 + n % 4503599627370496 + 9223372036854775808) = n := by rw [wrap_u64 (by omega) (by omega)]; omega
      simp only [hs, decide_true, cond_true, this]
      congr 2; omega
    · simp only [hs, decide_false, cond_false]
      congr 2; omega
theorem u64Of {x : Int} (h : inR .u64 x) : 0 ≤ x ∧ x < 18446744073709551616 := by
  simp [inR, IntKind.min, IntKind.max, IntKind.signed, IntKind.bits] at h
  omega
theorem i64Of {x : Int} (h : inR .i64 x) : -9223372036854775808 ≤ x ∧ x < 9223372036854775808 := by
  simp [inR, IntKind.min, IntKind.max, IntKind.signed, IntKind.bits] at h
  omega
abbrev Va : Type := Int × Int × Nat × List Int × Unit
theorem ne_beq {x y : Int} (h : ¬ x = y) : (x == y) = false := beq_false_of_ne h
def F64 (x : Nat) : Prop := x < 18446744073709551616
theorem extBits_eq (fu : Nat) {x : Nat} (h : F64 x) : extBits.f fu (x, ()) = some ((x : Int), ()) := by
  show (match decide (x < 18446744073709551616) with | true => some ((x : Int), ()) | false => none) = _
  have : decide (x < 18446744073709551616) = true := decide_eq_true (show x < 18446744073709551616 from h)
  rw [this]
theorem bits_bind {β : Type} (fu : Nat) {x : Nat} (h : F64 x) (K : (Kd.struct extBits.rs).T → Option β) : (extBits.f fu (x, ())).bind K = K ((x : Int), ()) := by rw [extBits_eq fu h]; rfl
def mayV (v : Va) : Bool := decide (v.1 ≤ 3) && (decide (v.2.1 = 0) || decide (v.1 = 1)) && (decide (v.2.2.1 = 0) || decide (v.1 = 2)) && (decide (v.2.2.2.1 = []) || decide (v.1 = 3)) && decide (v.2.2.2.1.length ≤ 255)
theorem valueMay_eq (fu : Nat) (v : Va) (h : F64 v.2.2.1) : valueMay fu v = some (mayV v, ()) := by
  obtain ⟨k, i, x, s, u⟩ := v
  have h0 : F64 0 := by unfold F64; omega
  have q1 : ∀ y : Nat, (((0 : Nat) : Int) == (y : Int)) = decide (y = 0) := fun y => by
    by_cases hy : y = 0
    · subst hy; rfl
    · rw [decide_eq_false hy]; exact ne_beq (by omega)
  have q2 : ∀ y : Int, ((0 : Int) == y) = decide (y = 0) := fun y => by
    by_cases hy : y = 0
    · subst hy; rfl
    · rw [decide_eq_false hy]; exact ne_beq (by omega)
  have q3 : ∀ y : List Int, (([] : List Int) == y) = decide (y = []) := fun y => by cases y <;> rfl
  have q4 : decide ((s.length : Int) ≤ 255) = decide (s.length ≤ 255) := by
    by_cases hs : s.length ≤ 255
    · rw [decide_eq_true hs, decide_eq_true (by omega)]
    · rw [decide_eq_false hs, decide_eq_false (by omega)]
  have h' : F64 x := h
  unfold valueMay valueHeld mayV
  by_cases k1 : k = 1
  · subst k1
    simp only [beq_self_eq_true, cond_true, Option.bind_some, bits_bind fu h', bits_bind fu h0, q1, q3, q4]
    cases decide (s.length ≤ 255) <;> cases decide (s = []) <;> cases decide (x = 0) <;> simp
  · by_cases k2 : k = 2
    · subst k2
      simp only [ne_beq (show ¬ (2 : Int) = 1 by decide), beq_self_eq_true, cond_true, cond_false, Option.bind_some, bits_bind fu h', q2, q3, q4]
      cases decide (s.length ≤ 255) <;> cases decide (s = []) <;> cases decide (i = 0) <;> simp
    · by_cases k3 : k = 3
      · subst k3
        simp only [ne_beq (show ¬ (3 : Int) = 1 by decide), ne_beq (show ¬ (3 : Int) = 2 by decide), beq_self_eq_true, cond_true, cond_false, Option.bind_some, bits_bind fu h', bits_bind fu h0, q1, q2, q4]
        cases decide (s.length ≤ 255) <;> cases decide (i = 0) <;> cases decide (x = 0) <;> simp
      · simp only [ne_beq k1, ne_beq k2, ne_beq k3, cond_false, Option.bind_some, bits_bind fu h', bits_bind fu h0, q1, q2, q3, q4, k1, k2, k3, decide_false, Bool.or_false]
        cases decide (k ≤ 3) <;> cases decide (s.length ≤ 255) <;> cases decide (i = 0) <;> cases decide (x = 0) <;> cases decide (s = []) <;> simp
theorem refBits_bind {β : Type} (fu : Nat) {x : Nat} (h : F64 x) (K : Int × Unit → Option β) : ((ref02Of fu x).bind fun r1 => (ref02PartsBits fu r1.1).bind K) = K (canon x, ()) := by
  unfold ref02Of
  rw [bits_bind fu h]
  have h' : x < 18446744073709551616 := h
  have e := partsBits_eq fu (x : Int) (by omega) (by omega)
  rw [Int.toNat_natCast] at e
  show ((((ref02OfBits fu (x : Int)).bind fun r2 => some (r2.1, ())).bind fun r1 => (ref02PartsBits fu r1.1).bind K)) = _
  cases hq : ref02OfBits fu (x : Int) with
  | none => rw [hq] at e; exact absurd e (by simp)
  | some r =>
    rw [hq] at e
    simp only [Option.bind_some] at e ⊢
    rw [e]; rfl
def putV (v : Va) : List Int := v.1 :: (if v.1 = 1 then putN 9 (zig v.2.1) else if v.1 = 2 then bytes8 (canon v.2.2.1) else if v.1 = 3 then putN 9 v.2.2.2.1.length ++ v.2.2.2.1 else [])
def vaOk (v : Va) : Prop := (0 ≤ v.1 ∧ v.1 ≤ 255) ∧ (-9223372036854775808 ≤ v.2.1 ∧ v.2.1 < 9223372036854775808) ∧ F64 v.2.2.1 ∧ By v.2.2.2.1
theorem mkOk0 {n : Int} (h0 : 0 ≤ n) (h1 : n ≤ 500000) : mkOk (0 : Int) n 1 = true := by
  have hL : (1000000 : Int) ≤ (LIM : Int) := by decide
  unfold mkOk
  simp only [Bool.and_eq_true, decide_eq_true_eq]
  omega
theorem mayV_len {v : Va} (h : mayV v = true) : v.2.2.2.1.length ≤ 255 := by
  unfold mayV at h; simp only [Bool.and_eq_true, decide_eq_true_eq] at h; exact h.2
theorem putReal_eq' (fu : Nat) (hfu : 9 ≤ fu) (b : List Int) (x : Nat) (hl : b.length ≤ 400000) (hx : x < 18446744073709551616) : packPutRealDat fu b x = some (b ++ bytes8 (canon x), ()) := by
  have := putReal_eq (fu - 9) b x hl hx
  rwa [show fu - 9 + 9 = fu by omega] at this
theorem valuePut_eq (fu : Nat) (hfu : 12 ≤ fu) (b : List Int) (v : Va) (hl : b.length ≤ 300000) (hv : vaOk v) : valuePut fu b v = some (if mayV v = true then b ++ putV v else [], if mayV v = true then 0 else 1, ()) := by
  unfold valuePut
  simp only [valueMay_eq fu v hv.2.2.1, Option.bind_some]
  by_cases hm : mayV v = true
  · have e1 : IntKind.i64.wrap ((b.length : Int) + 1) = b.length + 1 := wrap_i64 (by omega) (by omega)
    have e2 : mkOk (0 : Int) ((b.length : Int) + 1) 1 = true := mkOk0 (by omega) (by omega)
    have e3 : apOk ([] : List Int) b 1 = true := apOk1 (by simp; omega)
    have e4 : apOk b [v.1] 1 = true := apOk1 (by simp; omega)
    have hlen := mayV_len hm
    simp only [hm, Bool.not_true, cond_false, e1, e2, chk, cond_true, if_true, Int.toNat_zero, List.replicate_zero, e3, List.nil_append, e4]
    unfold putV
    by_cases k1 : v.1 = 1
    · simp only [k1, beq_self_eq_true, cond_true, putInt_eq fu hfu (b ++ [1]) v.2.1 (by simp; omega) hv.2.1.1 hv.2.1.2, Option.bind_some, if_true, List.append_assoc, List.singleton_append]
    · by_cases k2 : v.1 = 2
      · simp only [k2, ne_beq (show ¬ (2 : Int) = 1 by decide), beq_self_eq_true, cond_true, cond_false, putReal_eq' fu (by omega) (b ++ [2]) v.2.2.1 (by simp; omega) hv.2.2.1, Option.bind_some, show ¬ (2 : Int) = 1 by decide, if_false, if_true, List.append_assoc, List.singleton_append]
      · by_cases k3 : v.1 = 3
        · simp only [k3, ne_beq (show ¬ (3 : Int) = 1 by decide), ne_beq (show ¬ (3 : Int) = 2 by decide), beq_self_eq_true, cond_true, cond_false, putText_eq fu hfu (b ++ [3]) v.2.2.2.1 (by simp; omega) (by omega), Option.bind_some, show ¬ (3 : Int) = 1 by decide, show ¬ (3 : Int) = 2 by decide, if_false, if_true, List.append_assoc, List.nil_append, List.cons_append]
        · simp only [ne_beq k1, ne_beq k2, ne_beq k3, cond_false, if_neg k1, if_neg k2, if_neg k3]
  · have hm' : mayV v = false := by simpa using hm
    simp [hm']
theorem refPut_rounds (fu : Nat) (k2 : Int → List Int → Option (((List Int) × Unit) × (Unit))) : ∀ (k m : Nat) (n : Int) (out : List Int), k < m → 0 ≤ n → n < 128 ^ (k + 1) → n < 18446744073709551616 → out.length + k ≤ 500000 →
    ∃ last init, putN k n = init ++ [last] ∧ 0 ≤ last ∧ last < 128 ∧ ref03Put.l3 fu k2 m n out = k2 last (out ++ init) := by
  intro k
  induction k with
  | zero =>
    intro m n out hm h0 h1 _ hl
    obtain ⟨m, rfl⟩ : ∃ j, m = j + 1 := ⟨m - 1, by omega⟩
    have hn : ¬ n ≥ 128 := by have : (128 : Int) ^ (0 + 1) = 128 := by decide
                              omega
    refine ⟨n, [], by simp [putN], h0, by omega, ?_⟩
    unfold ref03Put.l3 ref03Put.b3
    simp [hn]
  | succ k ih =>
    intro m n out hm h0 h1 h64 hl
    obtain ⟨m, rfl⟩ : ∃ j, m = j + 1 := ⟨m - 1, by omega⟩
    unfold ref03Put.l3 ref03Put.b3 putN
    by_cases hn : n ≥ 128
    · have t1 : Int.tmod n 128 = n % 128 := Int.tmod_eq_emod_of_nonneg h0
      have t2 : Int.tdiv n 128 = n / 128 := Int.tdiv_eq_ediv_of_nonneg h0
      have e1 : IntKind.u64.wrap (n / 128) = n / 128 := wrap_u64 (by omega) (by omega)
      have e2 : IntKind.u8.wrap (IntKind.u64.wrap (n % 128 + 128)) = n % 128 + 128 := by rw [wrap_u64 (by omega) (by omega), wrap_u8]; omega
      rw [pow_succ128] at h1
      obtain ⟨last, init, q1, q2, q3, q4⟩ := ih m (n / 128) (out ++ [n % 128 + 128]) (by omega) (by omega) (by omega) (by omega) (by simp; omega)
      refine ⟨last, (n % 128 + 128) :: init, by rw [if_pos hn, q1]; rfl, q2, q3, ?_⟩
      have e3 : apOk out [n % 128 + 128] 1 = true := apOk1 (by simp; omega)
      simp only [hn, decide_true, cond_true, t1, t2, e1, e2, e3, chk]
      rw [q4, List.append_assoc]
      rfl
    · refine ⟨n, [], by rw [if_neg hn]; rfl, h0, by omega, ?_⟩
      simp [hn]
theorem refPut_eq (fu : Nat) (hfu : 12 ≤ fu) (b : List Int) (n : Int) (hl : b.length ≤ 400000) (h0 : 0 ≤ n) (h1 : n < 18446744073709551616) : ref03Put fu b n = some ((b ++ putN 9 n, ()), ()) := by
  have hp : (128 : Int) ^ (9 + 1) = 1180591620717411303424 := by decide
  obtain ⟨last, init, p1, p2, p3, p4⟩ := refPut_rounds fu (fun nq2 outq2 => 
      chk (apOk outq2 ([IntKind.u8.wrap nq2]) 1) <|
      let t3 := outq2 ++ ([IntKind.u8.wrap nq2])
      some ((t3, ()), (()))) 9 fu n b (by omega) h0 (by omega) h1 (by omega)
  have hlen := putN_len 9 n
  rw [p1] at hlen
  simp only [List.length_append, List.length_cons, List.length_nil] at hlen
  have e1 : IntKind.u8.wrap last = last := by rw [wrap_u8]; omega
  have e2 : apOk (b ++ init) [last] 1 = true := apOk1 (by simp; omega)
  have e3 : apOk ([] : List Int) b 1 = true := apOk1 (by simp; omega)
  unfold ref03Put
  simp only [e3, chk, cond_true, List.nil_append]
  refine p4.trans ?_
  simp only [e1, e2, chk, cond_true, p1, List.append_assoc]
theorem refPutD_rounds (fu : Nat) (k2 : Int → List Int → Option ((List Int) × Unit)) : ∀ (k m : Nat) (n : Int) (out : List Int), k < m → 0 ≤ n → n < 128 ^ (k + 1) → n < 18446744073709551616 → out.length + k ≤ 500000 →
    ∃ last init, putN k n = init ++ [last] ∧ 0 ≤ last ∧ last < 128 ∧ ref03PutDat.l3 fu k2 m n out = k2 last (out ++ init) := by
  intro k
  induction k with
  | zero =>
    intro m n out hm h0 h1 _ hl
    obtain ⟨m, rfl⟩ : ∃ j, m = j + 1 := ⟨m - 1, by omega⟩
    have hn : ¬ n ≥ 128 := by have : (128 : Int) ^ (0 + 1) = 128 := by decide
                              omega
    refine ⟨n, [], by simp [putN], h0, by omega, ?_⟩
    unfold ref03PutDat.l3 ref03PutDat.b3
    simp [hn]
  | succ k ih =>
    intro m n out hm h0 h1 h64 hl
    obtain ⟨m, rfl⟩ : ∃ j, m = j + 1 := ⟨m - 1, by omega⟩
    unfold ref03PutDat.l3 ref03PutDat.b3 putN
    by_cases hn : n ≥ 128
    · have t1 : Int.tmod n 128 = n % 128 := Int.tmod_eq_emod_of_nonneg h0
      have t2 : Int.tdiv n 128 = n / 128 := Int.tdiv_eq_ediv_of_nonneg h0
      have e1 : IntKind.u64.wrap (n / 128) = n / 128 := wrap_u64 (by omega) (by omega)
      have e2 : IntKind.u8.wrap (IntKind.u64.wrap (n % 128 + 128)) = n % 128 + 128 := by rw [wrap_u64 (by omega) (by omega), wrap_u8]; omega
      rw [pow_succ128] at h1
      obtain ⟨last, init, q1, q2, q3, q4⟩ := ih m (n / 128) (out ++ [n % 128 + 128]) (by omega) (by omega) (by omega) (by omega) (by simp; omega)
      refine ⟨last, (n % 128 + 128) :: init, by rw [if_pos hn, q1]; rfl, q2, q3, ?_⟩
      have e3 : apOk out [n % 128 + 128] 1 = true := apOk1 (by simp; omega)
      simp only [hn, decide_true, cond_true, t1, t2, e1, e2, e3, chk]
      rw [q4, List.append_assoc]
      rfl
    · refine ⟨n, [], by rw [if_neg hn]; rfl, h0, by omega, ?_⟩
      simp [hn]
theorem refPutD_eq (fu : Nat) (hfu : 12 ≤ fu) (b : List Int) (n : Int) (hl : b.length ≤ 400000) (h0 : 0 ≤ n) (h1 : n < 18446744073709551616) : ref03PutDat fu b n = some (b ++ putN 9 n, ()) := by
  have hp : (128 : Int) ^ (9 + 1) = 1180591620717411303424 := by decide
  obtain ⟨last, init, p1, p2, p3, p4⟩ := refPutD_rounds fu (fun nq2 outq2 => 
      chk (apOk outq2 ([IntKind.u8.wrap nq2]) 1) <|
      let t3 := outq2 ++ ([IntKind.u8.wrap nq2])
      some (t3, ())) 9 fu n b (by omega) h0 (by omega) h1 (by omega)
  have hlen := putN_len 9 n
  rw [p1] at hlen
  simp only [List.length_append, List.length_cons, List.length_nil] at hlen
  have e1 : IntKind.u8.wrap last = last := by rw [wrap_u8]; omega
  have e2 : apOk (b ++ init) [last] 1 = true := apOk1 (by simp; omega)
  have e3 : apOk ([] : List Int) b 1 = true := apOk1 (by simp; omega)
  unfold ref03PutDat
  simp only [e3, chk, cond_true, List.nil_append]
  refine p4.trans ?_
  simp only [e1, e2, chk, cond_true, p1, List.append_assoc]
theorem zig_fits {n : Int} (h0 : -9223372036854775808 ≤ n) (h1 : n < 9223372036854775808) : 0 ≤ zig n ∧ zig n < 18446744073709551616 := by
  unfold zig; split <;> omega
theorem refPutInt_eq (fu : Nat) (hfu : 12 ≤ fu) (b : List Int) (n : Int) (hl : b.length ≤ 400000) (h0 : -9223372036854775808 ≤ n) (h1 : n < 9223372036854775808) : ref03PutInt fu b n = some (b ++ putN 9 (zig n), ()) := by
  unfold ref03PutInt
  by_cases h : n ≥ 0
  · have e1 : IntKind.u64.wrap n = n := wrap_u64 (by omega) (by omega)
    have e2 : IntKind.u64.wrap (2 * n) = zig n := by rw [wrap_u64 (by omega) (by omega)]; unfold zig; rw [if_pos h]
    have hz := zig_fits h0 h1
    simp only [decide_eq_true h, cond_true, e1, e2, refPutD_eq fu hfu b _ hl hz.1 hz.2, Option.bind_some]
  · have e0 : IntKind.i64.wrap (n + 1) = n + 1 := wrap_i64 (by omega) (by omega)
    have e3 : IntKind.i64.wrap (0 - (n + 1)) = -n - 1 := by rw [wrap_i64 (by omega) (by omega)]; omega
    have e1 : IntKind.u64.wrap (-n - 1) = -n - 1 := wrap_u64 (by omega) (by omega)
    have e4 : IntKind.u64.wrap (2 * (-n - 1)) = 2 * (-n - 1) := wrap_u64 (by omega) (by omega)
    have e2 : IntKind.u64.wrap (2 * (-n - 1) + 1) = zig n := by rw [wrap_u64 (by omega) (by omega)]; unfold zig; rw [if_neg h]; omega
    have hz := zig_fits h0 h1
    simp only [decide_eq_false h, cond_false, e0, e3, e1, e4, e2, refPutD_eq fu hfu b _ hl hz.1 hz.2, Option.bind_some]
theorem refPutText_eq (fu : Nat) (hfu : 12 ≤ fu) (b s : List Int) (hl : b.length ≤ 400000) (hs : s.length ≤ 400000) : ref03PutText fu b s = some (b ++ putN 9 s.length ++ s, ()) := by
  unfold ref03PutText
  have e1 : IntKind.u64.wrap (s.length : Int) = s.length := wrap_u64 (by omega) (by omega)
  have := putN_len 9 s.length
  have e2 : apOk (b ++ putN 9 s.length) s 1 = true := apOk1 (by rw [List.length_append]; omega)
  simp only [e1, refPut_eq fu hfu b s.length hl (by omega) (by omega), Option.bind_some, e2, chk, cond_true]
theorem refReal_step (fu : Nat) (k2 : List Int → List Int → Option ((List Int) × Unit)) (m k : Nat) (hk : k < 8) (out : List Int) (n : Int) (h0 : 0 ≤ n) (h1 : n < 18446744073709551616) (c0 : List Int) (hc : c0.length = 8) :
    ref03PutReal.l6 fu k2 (m + 1) out n (k : Int) c0 = ref03PutReal.l6 fu k2 m out (n / 256) ((k : Int) - 1) (c0.set k (n % 256)) := by
  have t1 : Int.tmod n 256 = n % 256 := Int.tmod_eq_emod_of_nonneg h0
  have t2 : Int.tdiv n 256 = n / 256 := Int.tdiv_eq_ediv_of_nonneg h0
  have e1 : IntKind.u8.wrap (n % 256) = n % 256 := by rw [wrap_u8]; omega
  have e2 : IntKind.u64.wrap (n / 256) = n / 256 := wrap_u64 (by omega) (by omega)
  have e3 : IntKind.i64.wrap ((k : Int) - 1) = k - 1 := wrap_i64 (by omega) (by omega)
  have e4 : ixArr 8 (k : Int) = true := by unfold ixArr; simp; omega
  have e5 : nOk c0 8 = true := by unfold nOk; rw [hc]; rfl
  conv => lhs; unfold ref03PutReal.l6 ref03PutReal.b6
  simp only [decide_eq_true (show (k : Int) ≥ 0 by omega), cond_true, t1, t2, e1, e2, e3, e4, e5, chk, stL, Int.toNat_natCast]
theorem refReal_end (fu : Nat) (k2 : List Int → List Int → Option ((List Int) × Unit)) (m : Nat) (out : List Int) (n : Int) (c0 : List Int) : ref03PutReal.l6 fu k2 (m + 1) out n (-1) c0 = k2 out c0 := by
  unfold ref03PutReal.l6 ref03PutReal.b6
  rfl
theorem refReal_rounds8 (fu : Nat) (k2 : List Int → List Int → Option ((List Int) × Unit)) (f : Nat) (out : List Int) (n : Int) (h0 : 0 ≤ n) (h1 : n < 18446744073709551616) :
    ref03PutReal.l6 fu k2 (f + 9) out n 7 (List.replicate 8 0) = k2 out (bytes8 n) := by
  refine (refReal_step _ _ (f + 8) 7 (by omega) out n h0 h1 _ rfl).trans ?_
  refine (refReal_step _ _ (f + 7) 6 (by omega) out _ (by omega) (by omega) _ (by simp)).trans ?_
  refine (refReal_step _ _ (f + 6) 5 (by omega) out _ (by omega) (by omega) _ (by simp)).trans ?_
  refine (refReal_step _ _ (f + 5) 4 (by omega) out _ (by omega) (by omega) _ (by simp)).trans ?_
  refine (refReal_step _ _ (f + 4) 3 (by omega) out _ (by omega) (by omega) _ (by simp)).trans ?_
  refine (refReal_step _ _ (f + 3) 2 (by omega) out _ (by omega) (by omega) _ (by simp)).trans ?_
  refine (refReal_step _ _ (f + 2) 1 (by omega) out _ (by omega) (by omega) _ (by simp)).trans ?_
  refine (refReal_step _ _ (f + 1) 0 (by omega) out _ (by omega) (by omega) _ (by simp)).trans ?_
  refine (refReal_end _ _ f _ _ _).trans ?_
  congr 1
  have d1 : n / 256 / 256 = n / 65536 := by omega
  have d2 : n / 65536 / 256 = n / 16777216 := by omega
  have d3 : n / 16777216 / 256 = n / 4294967296 := by omega
  have d4 : n / 4294967296 / 256 = n / 1099511627776 := by omega
  have d5 : n / 1099511627776 / 256 = n / 281474976710656 := by omega
  have d6 : n / 281474976710656 / 256 = n / 72057594037927936 := by omega
  simp only [d1, d2, d3, d4, d5, d6]
  rfl
theorem refPutReal_eq (fu : Nat) (hfu : 9 ≤ fu) (b : List Int) (x : Nat) (hl : b.length ≤ 400000) (hx : F64 x) : ref03PutReal fu b x = some (b ++ bytes8 (canon x), ()) := by
  obtain ⟨f, rfl⟩ : ∃ f, fu = f + 9 := ⟨fu - 9, by omega⟩
  have hc := canon_fits x hx
  unfold ref03PutReal
  rw [show apOk ([] : List Int) b 1 = true from apOk1 (by simp; omega)]
  simp only [chk, cond_true]
  rw [refBits_bind (f + 9) hx]
  have e1 : mkMut (8 : Int) (8 : Int) 1 = true := by decide
  rw [e1, show (8 : Int).toNat = 8 from rfl]
  simp only [cond_true]
  rw [refReal_rounds8 _ _ f _ _ hc.1 hc.2]
  have e2 : nOk (bytes8 (canon x)) 8 = true := rfl
  have e3 : apOk b (bytes8 (canon x)) 1 = true := apOk1 (by simp [bytes8]; omega)
  simp only [List.nil_append, e2, e3, Bool.and_true, cond_true]
theorem refMay_eq (fu : Nat) (v : Va) (h : F64 v.2.2.1) : ref04May fu v = some (mayV v, ()) := by
  obtain ⟨k, i, x, s, u⟩ := v
  have h' : F64 x := h
  have q1 : ((x : Int) == 0) = decide (x = 0) := by
    by_cases hy : x = 0
    · subst hy; rfl
    · rw [decide_eq_false hy]; exact ne_beq (by omega)
  have q2 : ∀ a b : Int, (a == b) = decide (a = b) := fun _ _ => rfl
  have q3 : (s == ([] : List Int)) = decide (s = []) := by cases s <;> rfl
  have q4 : decide ((s.length : Int) ≤ 255) = decide (s.length ≤ 255) := by
    by_cases hs : s.length ≤ 255
    · rw [decide_eq_true hs, decide_eq_true (by omega)]
    · rw [decide_eq_false hs, decide_eq_false (by omega)]
  have q5 : decide (k < 4) = decide (k ≤ 3) := by
    by_cases hs : k ≤ 3
    · rw [decide_eq_true hs, decide_eq_true (by omega)]
    · rw [decide_eq_false hs, decide_eq_false (by omega)]
  unfold ref04May mayV
  unfold ref04May.j2
  rw [bits_bind fu h', bits_bind fu h']
  simp only [ref04May.j3, ref04May.j4, q1, q2, q3, q4, q5]
  cases decide (k ≤ 3) <;> cases decide (s.length ≤ 255) <;> cases decide (i = 0) <;> cases decide (x = 0) <;> cases decide (s = []) <;> cases decide (k = 1) <;> cases decide (k = 2) <;> cases decide (k = 3) <;> rfl
theorem refVPut_eq (fu : Nat) (hfu : 12 ≤ fu) (b : List Int) (v : Va) (hl : b.length ≤ 300000) (hv : vaOk v) : ref04Put fu b v = some (if mayV v = true then b ++ putV v else [], if mayV v = true then 0 else 1, ()) := by
  unfold ref04Put
  simp only [refMay_eq fu v hv.2.2.1, Option.bind_some]
  by_cases hm : mayV v = true
  · have e3 : apOk ([] : List Int) b 1 = true := apOk1 (by simp; omega)
    have e4 : apOk b [v.1] 1 = true := apOk1 (by simp; omega)
    have hlen := mayV_len hm
    simp only [hm, Bool.not_true, cond_false, chk, cond_true, if_true, e3, List.nil_append, e4]
    unfold putV
    by_cases k1 : v.1 = 1
    · simp only [k1, beq_self_eq_true, cond_true, refPutInt_eq fu hfu (b ++ [1]) v.2.1 (by simp; omega) hv.2.1.1 hv.2.1.2, Option.bind_some, if_true, List.append_assoc, List.singleton_append]
    · by_cases k2 : v.1 = 2
      · simp only [k2, ne_beq (show ¬ (2 : Int) = 1 by decide), beq_self_eq_true, cond_true, cond_false, refPutReal_eq fu (by omega) (b ++ [2]) v.2.2.1 (by simp; omega) hv.2.2.1, Option.bind_some, show ¬ (2 : Int) = 1 by decide, if_false, if_true, List.append_assoc, List.singleton_append]
      · by_cases k3 : v.1 = 3
        · simp only [k3, ne_beq (show ¬ (3 : Int) = 1 by decide), ne_beq (show ¬ (3 : Int) = 2 by decide), beq_self_eq_true, cond_true, cond_false, refPutText_eq fu hfu (b ++ [3]) v.2.2.2.1 (by simp; omega) (by omega), Option.bind_some, show ¬ (3 : Int) = 1 by decide, show ¬ (3 : Int) = 2 by decide, if_false, if_true, List.append_assoc, List.nil_append, List.cons_append]
        · simp only [ne_beq k1, ne_beq k2, ne_beq k3, cond_false, if_neg k1, if_neg k2, if_neg k3]
  · have hm' : mayV v = false := by simpa using hm
    simp [hm']
theorem bytes8_len (n : Int) : (bytes8 n).length = 8 := rfl
theorem putV_len {v : Va} (hm : mayV v = true) : (putV v).length ≤ 300 := by
  have := mayV_len hm
  have h1 := putN_len 9 (zig v.2.1)
  have h2 := putN_len 9 (v.2.2.2.1.length)
  unfold putV
  split
  · simp only [List.length_cons]; omega
  · split
    · simp only [List.length_cons, bytes8_len]; omega
    · split
      · simp only [List.length_cons, List.length_append]; omega
      · simp
abbrev Ev : Type := Int × List Va × Unit
theorem apOk40 {xs ys : List Va} (h : xs.length + ys.length ≤ 100000) : apOk xs ys 40 = true := by
  have hL : (10000000 : Nat) ≤ LIM := by decide
  unfold apOk
  exact decide_eq_true (by omega)
def putVs (l : List Va) : List Int := l.flatMap putV
def mayE (e : Ev) : Bool := decide (e.2.1.length ≤ 8) && e.2.1.all mayV
def putE (e : Ev) : List Int := e.1 :: (e.2.1.length : Int) :: putVs e.2.1
def evOk (e : Ev) : Prop := (0 ≤ e.1 ∧ e.1 ≤ 255) ∧ ∀ v ∈ e.2.1, vaOk v
theorem ixV {l : List Va} {i : Nat} (h : i < l.length) : ixL ((0 : Int), (0 : Int), (0 : Nat), ([] : List Int), ()) l i = l[i] := by
  unfold ixL
  simp [List.getElem?_eq_getElem h]
theorem ixOkN {α : Type} {l : List α} {i : Nat} (h : i < l.length) : ixOk l (i : Int) = true := by unfold ixOk; simp; omega
theorem drop_one {α : Type} {l : List α} {i : Nat} (h : i < l.length) : l.drop i = l[i] :: l.drop (i + 1) := List.drop_eq_getElem_cons h
theorem index_rounds (fu : Nat) (k1 : Int → Option ((Int × Unit) × (Unit))) (k2 : Unit → Option ((Int × Unit) × (Unit))) (l : List Va) (hv : ∀ v ∈ l, vaOk v) (hl : l.length ≤ 1000) : ∀ (k m i : Nat), i + k = l.length → k < m →
    ((l.drop i).all mayV = true → slicesIndexFunc.l2 fu k1 k2 m l l.length i = k2 ()) ∧ ((l.drop i).all mayV = false → ∃ j : Nat, slicesIndexFunc.l2 fu k1 k2 m l l.length i = k1 j) := by
  intro k
  induction k with
  | zero =>
    intro m i h1 h2
    obtain ⟨m, rfl⟩ : ∃ j, m = j + 1 := ⟨m - 1, by omega⟩
    rw [List.drop_eq_nil_of_le (by omega)]
    refine ⟨fun _ => ?_, fun h => absurd h (by decide)⟩
    unfold slicesIndexFunc.l2 slicesIndexFunc.b2
    rw [decide_eq_false (by omega), cond_false]
  | succ k ih =>
    intro m i h1 h2
    obtain ⟨m, rfl⟩ : ∃ j, m = j + 1 := ⟨m - 1, by omega⟩
    have hi : i < l.length := by omega
    have e1 : IntKind.i64.wrap ((i : Int) + 1) = ((i + 1 : Nat) : Int) := wrap_i64 (by omega) (by omega)
    have := ih m (i + 1) (by omega) (by omega)
    rw [drop_one hi]
    unfold slicesIndexFunc.l2 slicesIndexFunc.b2 eventMay1
    rw [decide_eq_true (by omega), cond_true, ixOkN hi, ixV hi]
    simp only [valueMay_eq fu _ (hv _ (List.getElem_mem hi)).2.2.1, chk, cond_true, Option.bind_some, e1, List.all_cons]
    cases hm : mayV l[i] with
    | true => simpa using this
    | false => simp only [Bool.false_and, Bool.not_false, cond_true]; exact ⟨fun h => (nomatch h), fun _ => ⟨i, rfl⟩⟩
theorem mayE_eq (fu : Nat) (hfu : 10 ≤ fu) (e : Ev) (he : evOk e) : eventMay fu e = some (mayE e, ()) := by
  unfold eventMay mayE
  by_cases hl : e.2.1.length ≤ 8
  · have := index_rounds fu (fun vq3 => some ((vq3, ()), (()))) (fun _ => some (((-1 : Int), ()), (()))) e.2.1 he.2 (by omega) e.2.1.length fu 0 (by omega) (by omega)
    rw [List.drop_zero] at this
    unfold slicesContainsFunc slicesIndexFunc
    simp only [decide_eq_true (show (e.2.1.length : Int) ≤ 8 by omega), decide_eq_true hl, cond_true, Bool.true_and]
    cases hm : e.2.1.all mayV with
    | true =>
      rw [show ((0 : Int)) = ((0 : Nat) : Int) from rfl]
      rw [this.1 hm]; rfl
    | false =>
      obtain ⟨j, hj⟩ := this.2 hm
      rw [show ((0 : Int)) = ((0 : Nat) : Int) from rfl]
      rw [hj]
      simp only [Option.bind_some, decide_eq_true (show (j : Int) ≥ ((0 : Nat) : Int) by omega), Bool.not_true]
  · simp only [decide_eq_false (show ¬ (e.2.1.length : Int) ≤ 8 by omega), decide_eq_false hl, cond_false, Bool.false_and]
theorem clone_eq (fu : Nat) (b : List Int) (hl : b.length ≤ 500000) : slicesClone fu b = some ((b, ()), ()) := by
  have e1 : apOk ([] : List Int) b 1 = true := apOk1 (by simp; omega)
  unfold slicesClone
  simp only [e1, chk, cond_true, List.nil_append]
  cases b with
  | nil => unfold nilQ both; simp
  | cons x q => rfl
theorem putVs_cons (v : Va) (l : List Va) : putVs (v :: l) = putV v ++ putVs l := by simp [putVs]
theorem put_rounds5 (fu : Nat) (hfu : 12 ≤ fu) (k2 : List Int → Option ((List Int) × Int × Unit)) (l : List Va) (hv : ∀ v ∈ l, vaOk v ∧ mayV v = true) (hl : l.length ≤ 8) : ∀ (k m i : Nat) (out : List Int), i + k = l.length → k < m → out.length + 300 * k ≤ 200000 →
    eventPut.l5 fu k2 m out l l.length i = k2 (out ++ putVs (l.drop i)) := by
  intro k
  induction k with
  | zero =>
    intro m i out h1 h2 h3
    obtain ⟨m, rfl⟩ : ∃ j, m = j + 1 := ⟨m - 1, by omega⟩
    rw [List.drop_eq_nil_of_le (by omega)]
    unfold eventPut.l5 eventPut.b5
    rw [decide_eq_false (by omega), cond_false]
    simp [putVs]
  | succ k ih =>
    intro m i out h1 h2 h3
    obtain ⟨m, rfl⟩ : ∃ j, m = j + 1 := ⟨m - 1, by omega⟩
    have hi : i < l.length := by omega
    have e1 : IntKind.i64.wrap ((i : Int) + 1) = ((i + 1 : Nat) : Int) := wrap_i64 (by omega) (by omega)
    obtain ⟨q1, q2⟩ := hv _ (List.getElem_mem hi)
    have hp := putV_len q2
    rw [drop_one hi]
    unfold eventPut.l5 eventPut.b5
    rw [decide_eq_true (by omega), cond_true, ixOkN hi, ixV hi]
    simp only [valuePut_eq fu hfu out _ (show out.length ≤ 300000 by omega) q1, chk, cond_true, Option.bind_some, e1, if_pos q2]
    rw [ih m (i + 1) _ (by omega) (by omega) (by rw [List.length_append]; omega), putVs_cons, List.append_assoc]
theorem mayE_len {e : Ev} (h : mayE e = true) : e.2.1.length ≤ 8 := by
  unfold mayE at h; rw [Bool.and_eq_true] at h; exact of_decide_eq_true h.1
theorem mayE_all {e : Ev} (h : mayE e = true) : ∀ v ∈ e.2.1, mayV v = true := by
  unfold mayE at h; rw [Bool.and_eq_true] at h; exact List.all_eq_true.1 h.2
theorem eventPut_eq (fu : Nat) (hfu : 12 ≤ fu) (b : List Int) (e : Ev) (hl : b.length ≤ 100000) (he : evOk e) : eventPut fu b e = some (if mayE e = true then b ++ putE e else [], if mayE e = true then 0 else 1, ()) := by
  unfold eventPut
  rw [mayE_eq fu (by omega) e he]
  simp only [Option.bind_some]
  cases hm : mayE e with
  | false => rfl
  | true =>
    have h8 := mayE_len hm
    have e2 : IntKind.u8.wrap (e.2.1.length : Int) = e.2.1.length := by rw [wrap_u8]; omega
    have e3 : apOk b [e.1, (e.2.1.length : Int)] 1 = true := apOk1 (by simp; omega)
    simp only [Bool.not_true, cond_false, clone_eq fu b (by omega), Option.bind_some, e2, e3, chk, cond_true, if_true]
    have := put_rounds5 fu hfu (fun outq2 => some (outq2, (0 : Int), ())) e.2.1 (fun v hv => ⟨he.2 v hv, mayE_all hm v hv⟩) h8 e.2.1.length fu 0 (b ++ [e.1, (e.2.1.length : Int)]) (by omega) (by omega) (by simp; omega)
    rw [List.drop_zero] at this
    refine this.trans ?_
    unfold putE
    simp
theorem wrap_u32 {x : Int} (h0 : 0 ≤ x) (h1 : x ≤ 4294967295) : IntKind.u32.wrap x = x := by
  simp only [IntKind.wrap, IntKind.signed, IntKind.bits]
  simp
  omega
abbrev Rw : Type := Int × Int × Int × List Int × Unit
def rawV (x : Rw) : Va := (x.1, x.2.1, x.2.2.1.toNat, x.2.2.2.1, ())
theorem raw_eq (fu : Nat) (x : Rw) : law04RawValue fu x = some (rawV x, ()) := rfl
theorem ixR {l : List Rw} {i : Nat} (h : i < l.length) : ixL ((0 : Int), (0 : Int), (0 : Int), ([] : List Int), ()) l i = l[i] := by
  unfold ixL
  simp [List.getElem?_eq_getElem h]
theorem raw_rounds (fu : Nat) (k2 : Int → List Va → Int → List Va → Option (Ev × Unit)) (l : List Rw) (hl : l.length ≤ 140737488355328) (c1 c2 : Int) (c1x : List Va) : ∀ (k m i : Nat), i + k = l.length → k < m →
    law05RawEvent.l3 fu k2 m l l.length i c1 c1x c2 ((l.take (min i 30)).map rawV) = k2 c1 c1x c2 ((l.take 30).map rawV) := by
  intro k
  induction k with
  | zero =>
    intro m i h1 h2
    obtain ⟨m, rfl⟩ : ∃ j, m = j + 1 := ⟨m - 1, by omega⟩
    unfold law05RawEvent.l3 law05RawEvent.b3
    rw [decide_eq_false (by omega), cond_false]
    congr 2
    by_cases h : i ≤ 30
    · rw [show min i 30 = i by omega, List.take_of_length_le (by omega), List.take_of_length_le (by omega)]
    · rw [show min i 30 = 30 by omega]
  | succ k ih =>
    intro m i h1 h2
    obtain ⟨m, rfl⟩ : ∃ j, m = j + 1 := ⟨m - 1, by omega⟩
    have hi : i < l.length := by omega
    have e1 : IntKind.i64.wrap ((i : Int) + 1) = ((i + 1 : Nat) : Int) := wrap_i64 (by omega) (by omega)
    have := ih m (i + 1) (by omega) (by omega)
    unfold law05RawEvent.l3 law05RawEvent.b3
    rw [decide_eq_true (by omega), cond_true, ixOkN hi, ixR hi]
    simp only [raw_eq, chk, cond_true, Option.bind_some, e1]
    by_cases h30 : (i : Int) < 30
    · have e2 : apOk ((l.take (min i 30)).map rawV) [rawV l[i]] 40 = true := apOk40 (by simp; omega)
      simp only [decide_eq_true h30, cond_true, e2]
      rw [show min (i + 1) 30 = i + 1 by omega, List.take_succ_eq_append_getElem hi, List.map_append] at this
      rw [show min i 30 = i by omega]
      exact this
    · simp only [decide_eq_false h30, cond_false]
      rw [show min (i + 1) 30 = 30 by omega] at this
      rw [show min i 30 = 30 by omega]
      exact this
def rawE (x : Int × List Rw × Unit) : Ev := (x.1, (x.2.1.take 30).map rawV, ())
theorem rawE_eq (fu : Nat) (x : Int × List Rw × Unit) (hl : x.2.1.length ≤ 140737488355328) (hfu : x.2.1.length < fu) : law05RawEvent fu x = some (rawE x, ()) := by
  unfold law05RawEvent
  have := raw_rounds fu (fun c1q2 c1q2x2 c2q2 c2q2x2 => some ((c2q2, c2q2x2, ()), ())) x.2.1 hl 0 x.1 [] x.2.1.length fu 0 (by omega) hfu
  rw [show min 0 30 = 0 from rfl, List.take_zero, List.map_nil] at this
  exact this
theorem great_rounds (fu : Nat) (k2 : Int → Option (Bool × Unit)) (e : Ev) (hl : e.2.1.length ≤ 40) : ∀ (k m i : Nat) (n : Int), i + k = e.2.1.length → k < m → ∃ n', ref05Great.l5 fu k2 m n e.2.1.length i e = k2 n' := by
  intro k
  induction k with
  | zero =>
    intro m i n h1 h2
    obtain ⟨m, rfl⟩ : ∃ j, m = j + 1 := ⟨m - 1, by omega⟩
    unfold ref05Great.l5 ref05Great.b5
    rw [decide_eq_false (by omega), cond_false]
    exact ⟨n, rfl⟩
  | succ k ih =>
    intro m i n h1 h2
    obtain ⟨m, rfl⟩ : ∃ j, m = j + 1 := ⟨m - 1, by omega⟩
    have hi : i < e.2.1.length := by omega
    have e1 : IntKind.i64.wrap ((i : Int) + 1) = ((i + 1 : Nat) : Int) := wrap_i64 (by omega) (by omega)
    unfold ref05Great.l5 ref05Great.b5
    rw [decide_eq_true (by omega), cond_true, ixOkN hi, ixV hi]
    simp only [chk, cond_true, e1]
    exact ih m (i + 1) _ (by omega) (by omega)
theorem great_eq (fu : Nat) (hfu : 50 ≤ fu) (e : Ev) : ∃ g, ref05Great fu e = some (g, ()) := by
  unfold ref05Great
  by_cases h : (e.2.1.length : Int) > 40
  · exact ⟨true, by simp only [decide_eq_true h, cond_true]⟩
  · obtain ⟨n', hn⟩ := great_rounds fu (fun nq2 => some (decide (nq2 > (3000 : Int)), ())) e (by omega) e.2.1.length fu 0 e.2.1.length (by omega) (by omega)
    refine ⟨decide (n' > (3000 : Int)), ?_⟩
    simp only [decide_eq_false h, cond_false]
    exact hn
theorem refMay_rounds (fu : Nat) (k1 : Bool → Option (Bool × Unit)) (k2 : Ev → Option (Bool × Unit)) (e : Ev) (hv : ∀ v ∈ e.2.1, vaOk v) (hl : e.2.1.length ≤ 1000) : ∀ (k m i : Nat), i + k = e.2.1.length → k < m →
    ref05May.l2 fu k1 k2 m e.2.1.length i e = if (e.2.1.drop i).all mayV = true then k2 e else k1 false := by
  intro k
  induction k with
  | zero =>
    intro m i h1 h2
    obtain ⟨m, rfl⟩ : ∃ j, m = j + 1 := ⟨m - 1, by omega⟩
    rw [List.drop_eq_nil_of_le (by omega)]
    unfold ref05May.l2 ref05May.b2
    rw [decide_eq_false (by omega), cond_false]
    rfl
  | succ k ih =>
    intro m i h1 h2
    obtain ⟨m, rfl⟩ : ∃ j, m = j + 1 := ⟨m - 1, by omega⟩
    have hi : i < e.2.1.length := by omega
    have e1 : IntKind.i64.wrap ((i : Int) + 1) = ((i + 1 : Nat) : Int) := wrap_i64 (by omega) (by omega)
    have := ih m (i + 1) (by omega) (by omega)
    rw [drop_one hi]
    unfold ref05May.l2 ref05May.b2
    rw [decide_eq_true (by omega), cond_true, ixOkN hi, ixV hi]
    simp only [refMay_eq fu _ (hv _ (List.getElem_mem hi)).2.2.1, chk, cond_true, Option.bind_some, e1, List.all_cons]
    by_cases hm : mayV e.2.1[i] = true
    · simp only [hm, Bool.not_true, cond_false, Bool.true_and]; exact this
    · have hm' : mayV e.2.1[i] = false := by simpa using hm
      simp [hm']
theorem refMayE_eq (fu : Nat) (hfu : 50 ≤ fu) (e : Ev) (he : evOk e) (hl : e.2.1.length ≤ 30) : ref05May fu e = some (mayE e, ()) := by
  unfold ref05May mayE
  have := refMay_rounds fu (fun vq3 => some (vq3, ())) (fun b0q4 => some (decide ((b0q4.2.1.length : Int) ≤ (8 : Int)), ())) e he.2 (by omega) e.2.1.length fu 0 (by omega) (by omega)
  rw [List.drop_zero] at this
  refine Eq.trans this ?_
  have q : decide ((e.2.1.length : Int) ≤ 8) = decide (e.2.1.length ≤ 8) := by
    by_cases hs : e.2.1.length ≤ 8
    · rw [decide_eq_true hs, decide_eq_true (by omega)]
    · rw [decide_eq_false hs, decide_eq_false (by omega)]
  cases hm : e.2.1.all mayV with
  | true => simp only [if_true, q, Bool.and_true]
  | false => simp
theorem refPut_rounds5 (fu : Nat) (hfu : 12 ≤ fu) (k2 : List Int → Option ((List Int) × Int × Unit)) (e : Ev) (hv : ∀ v ∈ e.2.1, vaOk v ∧ mayV v = true) (hl : e.2.1.length ≤ 8) : ∀ (k m i : Nat) (out : List Int), i + k = e.2.1.length → k < m → out.length + 300 * k ≤ 200000 →
    ref05Put.l7 fu k2 m out e.2.1.length i e = k2 (out ++ putVs (e.2.1.drop i)) := by
  intro k
  induction k with
  | zero =>
    intro m i out h1 h2 h3
    obtain ⟨m, rfl⟩ : ∃ j, m = j + 1 := ⟨m - 1, by omega⟩
    rw [List.drop_eq_nil_of_le (by omega)]
    unfold ref05Put.l7 ref05Put.b7
    rw [decide_eq_false (by omega), cond_false]
    simp [putVs]
  | succ k ih =>
    intro m i out h1 h2 h3
    obtain ⟨m, rfl⟩ : ∃ j, m = j + 1 := ⟨m - 1, by omega⟩
    have hi : i < e.2.1.length := by omega
    have e1 : IntKind.i64.wrap ((i : Int) + 1) = ((i + 1 : Nat) : Int) := wrap_i64 (by omega) (by omega)
    obtain ⟨q1, q2⟩ := hv _ (List.getElem_mem hi)
    have hp := putV_len q2
    rw [drop_one hi]
    unfold ref05Put.l7 ref05Put.b7
    rw [decide_eq_true (by omega), cond_true, ixOkN hi, ixV hi]
    simp only [refVPut_eq fu hfu out _ (show out.length ≤ 300000 by omega) q1, chk, cond_true, Option.bind_some, e1, if_pos q2]
    rw [ih m (i + 1) _ (by omega) (by omega) (by rw [List.length_append]; omega), putVs_cons, List.append_assoc]
theorem refEPut_eq (fu : Nat) (hfu : 50 ≤ fu) (b : List Int) (e : Ev) (hl : b.length ≤ 100000) (he : evOk e) (hn : e.2.1.length ≤ 30) : ref05Put fu b e = some (if mayE e = true then b ++ putE e else [], if mayE e = true then 0 else 1, ()) := by
  unfold ref05Put
  rw [refMayE_eq fu hfu e he hn]
  simp only [Option.bind_some]
  cases hm : mayE e with
  | false => rfl
  | true =>
    have h8 := mayE_len hm
    have e1 : apOk ([] : List Int) b 1 = true := apOk1 (by simp; omega)
    have e2 : IntKind.u8.wrap (e.2.1.length : Int) = e.2.1.length := by rw [wrap_u8]; omega
    have e3 : apOk b [e.1, (e.2.1.length : Int)] 1 = true := apOk1 (by simp; omega)
    simp only [Bool.not_true, cond_false, e1, e2, List.nil_append, e3, chk, cond_true, if_true]
    have := refPut_rounds5 fu (by omega) (fun outq2 => some (outq2, (0 : Int), ())) e (fun v hv => ⟨he.2 v hv, mayE_all hm v hv⟩) h8 e.2.1.length fu 0 (b ++ [e.1, (e.2.1.length : Int)]) (by omega) (by omega) (by simp; omega)
    rw [List.drop_zero] at this
    refine this.trans ?_
    unfold putE
    simp
theorem putVs_len : ∀ (l : List Va), (∀ v ∈ l, mayV v = true) → (putVs l).length ≤ 300 * l.length := by
  intro l
  induction l with
  | nil => intro _; simp [putVs]
  | cons v l ih =>
    intro h
    have h1 := putV_len (h v (List.mem_cons_self ..))
    have h2 := ih fun w hw => h w (List.mem_cons_of_mem _ hw)
    rw [putVs_cons, List.length_append, List.length_cons]
    omega
theorem putE_len {e : Ev} (hm : mayE e = true) : (putE e).length ≤ 2500 := by
  have h8 := mayE_len hm
  have := putVs_len e.2.1 (mayE_all hm)
  unfold putE
  simp only [List.length_cons]; omega
theorem rawE_ok {x : Int × List Rw × Unit} (h : kS7.ok x) : evOk (rawE x) ∧ (rawE x).2.1.length ≤ 30 ∧ x.2.1.length ≤ 140737488355328 := by
  obtain ⟨h1, h2, -⟩ := h
  have h1 : inR .u8 x.1 := h1
  refine ⟨⟨by simpa [rawE, inR, IntKind.min, IntKind.max, IntKind.signed, IntKind.bits] using h1, ?_⟩, by simp [rawE]; omega, ?_⟩
  · intro v hv
    obtain ⟨w, hw, rfl⟩ := List.mem_map.1 hv
    obtain ⟨k1, k2, k3, k4, -⟩ := h2.2 w (List.mem_of_mem_take hw)
    have k1 : inR .u8 w.1 := k1
    have k2 := i64Of k2
    have k3 : 0 ≤ w.2.2.1 ∧ w.2.2.1 < 18446744073709551616 := u64Of k3
    exact ⟨by simpa [rawV, inR, IntKind.min, IntKind.max, IntKind.signed, IntKind.bits] using k1, k2, by show w.2.2.1.toNat < _; omega, fun c hc => k4.2 c hc⟩
  · have := h2.1
    have hb : x.2.1.length * 1 ≤ x.2.1.length * (Kd.bytes kS6) := Nat.mul_le_mul_left _ (by decide)
    have hr : reachBytes = 140737488351232 + 4096 - 4096 := by decide
    have : x.2.1.length * (Kd.bytes kS6) ≤ reachBytes := this
    omega
theorem u32Of {x : Int} (h : inR .u32 x) : 0 ≤ x ∧ x < 4294967296 := by
  simp [inR, IntKind.min, IntKind.max, IntKind.signed, IntKind.bits] at h
  omega
def may23 (b : S0) : Bool := decide (1 ≤ b.1 ∧ b.1 ≤ 65536 ∧ b.1 ≤ b.2.1 ∧ b.2.1 ≤ 1048576 ∧ 1 ≤ b.2.2.1 ∧ b.2.2.1 ≤ 64)
theorem backMay_eq (fu : Nat) (b : S0) : backMay fu b = some (may23 b, ()) := by
  unfold backMay may23
  by_cases h1 : 1 ≤ b.1 <;> by_cases h2 : b.1 ≤ 65536 <;> by_cases h3 : b.1 ≤ b.2.1 <;> by_cases h4 : b.2.1 ≤ 1048576 <;> by_cases h5 : 1 ≤ b.2.2.1 <;> by_cases h6 : b.2.2.1 ≤ 64 <;> simp [h1, h2, h3, h4, h5, h6]
theorem ref23May_eq (fu : Nat) (b : S0) : ref23May fu b = some (may23 b, ()) := by
  unfold ref23May may23
  have e1 : (b.1 > 0) = (1 ≤ b.1) := propext (by omega)
  have e2 : (b.2.2.1 > 0) = (1 ≤ b.2.2.1) := propext (by omega)
  simp only [e1, e2]
  by_cases h1 : 1 ≤ b.1 <;> by_cases h2 : b.1 ≤ 65536 <;> by_cases h3 : b.1 ≤ b.2.1 <;> by_cases h4 : b.2.1 ≤ 1048576 <;> by_cases h5 : 1 ≤ b.2.2.1 <;> by_cases h6 : b.2.2.1 ≤ 64 <;> simp [h1, h2, h3, h4, h5, h6]
def pause23 (b : S0) (n : Int) : Int := if may23 b = false ∨ n = 0 then 0 else min2 (b.1 * 2 ^ (min (n - 1).toNat 20)) b.2.1
theorem may23Of {b : S0} (h : may23 b = true) : 1 ≤ b.1 ∧ b.1 ≤ 65536 ∧ b.1 ≤ b.2.1 ∧ b.2.1 ≤ 1048576 ∧ 1 ≤ b.2.2.1 ∧ b.2.2.1 ≤ 64 := of_decide_eq_true h
theorem pow20 (m : Nat) : (1 : Int) ≤ 2 ^ (min m 20) ∧ (2 : Int) ^ (min m 20) ≤ 1048576 := by
  have h1 : (2 : Int) ^ (min m 20) ≤ 2 ^ 20 := by exact_mod_cast Nat.pow_le_pow_right (by omega) (Nat.min_le_right m 20)
  have h0 : (0 : Int) < 2 ^ (min m 20) := Int.pow_pos (by omega)
  constructor
  · omega
  · simpa using h1
theorem backPause_eq (fu : Nat) (b : S0) (n : Int) (hn : inR .u32 n) : backPause fu b n = some (pause23 b n, ()) := by
  unfold backPause pause23
  rw [backMay_eq]
  simp only [Option.bind_some]
  cases hm : may23 b with
  | false => simp
  | true =>
    obtain ⟨h1, h2, h3, h4, h5, h6⟩ := may23Of hm
    have hn' := u32Of hn
    by_cases h0 : n = 0
    · simp [h0]
    · have e1 : IntKind.u32.wrap (n - 1) = n - 1 := wrap_u32 (by omega) (by omega)
      have e2 : (0 : Int) ≤ min2 (n - 1) 20 := by unfold min2; split <;> omega
      have e3 : (min2 (n - 1) 20).toNat = min (n - 1).toNat 20 := by unfold min2; split <;> omega
      have e4 : IntKind.u64.wrap b.1 = b.1 := wrap_u64 (by omega) (by omega)
      have e5 : IntKind.u64.wrap b.2.1 = b.2.1 := wrap_u64 (by omega) (by omega)
      have hp := pow20 (n - 1).toNat
      have e6 : sShl .u64 b.1 (min2 (n - 1) 20) = b.1 * 2 ^ (min (n - 1).toNat 20) := by
        unfold sShl
        rw [e3]
        have : min (min (n - 1).toNat 20) IntKind.u64.bits = min (n - 1).toNat 20 := by simp only [IntKind.bits]; omega
        rw [this]
        refine wrap_u64 (Int.mul_nonneg (by omega) (by omega)) ?_
        calc b.1 * 2 ^ (min (n - 1).toNat 20) ≤ 65536 * 1048576 := Int.mul_le_mul h2 hp.2 (by omega) (by omega)
          _ < _ := by decide
      simp only [show (n == (0 : Int)) = false from beq_false_of_ne h0, e1, e4, e5, e6, chk, show decide (min2 (n - 1) 20 < 0) = false from decide_eq_false (by omega), Bool.not_true, Bool.not_false, cond_false, cond_true, h0, or_false, Bool.true_eq_false, if_false]
theorem over_eq (fu : Nat) (t : O1) : backTriesOver fu t = some ((decide (t.2.2.1 ≥ t.1.2.2.1), ()), (t, ())) := rfl
def due23 (t : O1) (now : Int) : Bool := decide (t.2.1 = true ∧ t.2.2.1 < t.1.2.2.1 ∧ t.2.2.2.1 ≤ now)
theorem due_eq (fu : Nat) (t : O1) (now : Int) : backTriesDue fu t now = some ((due23 t now, ()), (t, ())) := by
  unfold backTriesDue due23
  obtain ⟨b, p, c, nx, u⟩ := t
  simp only [over_eq, Option.bind_some]
  cases p with
  | false => simp
  | true =>
    have e : (c < b.2.2.1) = ¬ (b.2.2.1 ≤ c) := propext (by omega)
    by_cases h1 : b.2.2.1 ≤ c <;> by_cases h2 : nx ≤ now <;> simp [h1, h2, e]
def try23 (t : O1) (now : Int) : Bool × O1 :=
  if due23 t now then (true, (t.1, t.2.1, IntKind.u32.wrap (t.2.2.1 + 1), IntKind.u64.wrap (now + pause23 t.1 (IntKind.u32.wrap (t.2.2.1 + 1))), ())) else (false, t)
theorem try_eq (fu : Nat) (t : O1) (now : Int) : backTriesTry fu t now = some (((try23 t now).1, ()), ((try23 t now).2, ())) := by
  unfold backTriesTry try23
  simp only [due_eq, Option.bind_some, backPause_eq fu _ _ (inR_wrap .u32 _)]
  cases due23 t now <;> simp
theorem new_eq (fu : Nat) (b : S0) : backNew fu b = if may23 b then some ((some (b, false, (0 : Int), (0 : Int), ()), (0 : Int), ()), (())) else some ((none, (1 : Int), ()), (())) := by
  unfold backNew
  rw [backMay_eq]
  cases may23 b <;> simp
abbrev Fr : Type := Int × Int × Int × Int × Int × List Int × Unit
theorem apOk24 {xs ys : List (List Int)} (h : xs.length + ys.length ≤ 100000) : apOk xs ys 24 = true := by
  have hL : (10000000 : Nat) ≤ LIM := by decide
  unfold apOk
  exact decide_eq_true (by omega)
theorem apOk16 {xs ys : List (List Int)} (h : xs.length + ys.length ≤ 100000) : apOk xs ys 16 = true := by
  have hL : (10000000 : Nat) ≤ LIM := by decide
  unfold apOk
  exact decide_eq_true (by omega)
theorem cloneDat_eq (fu : Nat) (b : List Int) (hl : b.length ≤ 500000) : slicesCloneDat fu b = some (b, ()) := by
  have e1 : apOk ([] : List Int) b 1 = true := apOk1 (by simp; omega)
  unfold slicesCloneDat
  simp only [e1, chk, cond_true, List.nil_append]
  cases b with
  | nil => unfold nilQ both; simp
  | cons x q => rfl
theorem begin_some (fu : Nat) (t : O1) (now : Int) : ∃ t', backTriesBegin fu t now = some ((()), (t', ())) := ⟨_, rfl⟩
theorem add_eq (fu : Nat) (hfu : 12 ≤ fu) (s : O2) (e : Ev) (now : Int) (he : evOk e) (hl : s.2.2.2.1.length ≤ 1000) :
    ∃ c s', sourceSourceAdd fu s e now = some ((c, ()), (s', ())) ∧ ((c ≠ 0 ∧ s' = s) ∨ (c = 0 ∧ mayE e = true ∧ ∃ t', s' = (s.1, t', s.2.2.1, s.2.2.2.1 ++ [putE e], ()))) ∧
      (now ≤ 1099511627776 → mayE e = true → c = if s.2.2.2.1.length < 512 then 0 else 7) ∧ (1099511627776 < now → c = 1) := by
  unfold sourceSourceAdd
  by_cases hn : now > 1099511627776
  · simp only [decide_eq_true hn, cond_true]
    exact ⟨1, s, rfl, .inl ⟨by decide, rfl⟩, fun h => by omega, fun _ => rfl⟩
  · simp only [decide_eq_false hn, cond_false]
    rw [eventPut_eq fu hfu [] e (by simp) he]
    simp only [Option.bind_some]
    cases hm : mayE e with
    | false =>
      simp only [Bool.false_eq_true, if_false]
      exact ⟨1, s, rfl, .inl ⟨by decide, rfl⟩, ⟨fun _ h => h.elim, fun h => by omega⟩⟩
    | true =>
      have hlen := putE_len hm
      simp only [if_true, List.nil_append]
      rw [show ((0 : Int) != 0) = false from rfl, cond_false, decide_eq_false (show ¬ ((putE e).length : Int) > 4096 by omega), cond_false]
      by_cases h5 : s.2.2.2.1.length < 512
      · simp only [decide_eq_false (show ¬ (s.2.2.2.1.length : Int) ≥ 512 by omega), cond_false, apOk24 (show s.2.2.2.1.length + [putE e].length ≤ 100000 by simp; omega), chk, cond_true]
        obtain ⟨t', ht⟩ := begin_some fu s.2.1 now
        rw [ht]
        cases hz : ((s.2.2.2.1.length : Int) == 0) with
        | true => exact ⟨0, _, rfl, .inr ⟨rfl, trivial, t', rfl⟩, fun _ _ => (if_pos h5).symm, fun h => by omega⟩
        | false => exact ⟨0, _, rfl, .inr ⟨rfl, trivial, s.2.1, rfl⟩, fun _ _ => (if_pos h5).symm, fun h => by omega⟩
      · simp only [decide_eq_true (show (s.2.2.2.1.length : Int) ≥ 512 by omega), cond_true]
        exact ⟨7, s, rfl, .inl ⟨by decide, rfl⟩, fun _ _ => (if_neg h5).symm, fun h => by omega⟩
theorem backOver_eq (fu : Nat) (t : O1) : backTriesOver fu t = some ((decide (t.2.2.1 ≥ t.1.2.2.1), ()), (t, ())) := rfl
theorem backNext_eq (fu : Nat) (t : O1) : backTriesNext fu t = some ((t.2.2.2.1, ()), (t, ())) := rfl
theorem sendj_eq (fu : Nat) (k1 : List Fr → Int → Int → List (List Int) → S0 → Bool → Int → Int → Option ((List Fr × Unit) × (O2 × Unit))) (now pub seq : Int) (x : List Int) (r : List (List Int)) (t : O1) (hx : x.length ≤ 500000) :
    ∃ t' fr, sourceSourceSend.j5 fu k1 now pub seq (x :: r) t.1 t.2.1 t.2.2.1 t.2.2.2.1 = k1 fr pub seq (x :: r) (t' : O1).1 t'.2.1 t'.2.2.1 t'.2.2.2.1 ∧ (fr = [] ∨ fr = [((3 : Int), pub, (0 : Int), seq, (0 : Int), x, ())]) := by
  unfold sourceSourceSend.j5
  rw [try_eq]
  simp only [Option.bind_some]
  cases (try23 (t.1, t.2.1, t.2.2.1, t.2.2.2.1, ()) now).1 with
  | false => exact ⟨_, [], rfl, .inl rfl⟩
  | true =>
    have h1 : ixOk (x :: r) (0 : Int) = true := by unfold ixOk; simp
    have h2 : ixL ([] : List Int) (x :: r) (0 : Int) = x := rfl
    simp only [h1, h2, chk, cond_true, Bool.not_true, cond_false, cloneDat_eq fu x hx, Option.bind_some]
    exact ⟨_, _, rfl, .inr rfl⟩
theorem send_eq (fu : Nat) (s : O2) (now : Int) (hb : ∀ x ∈ s.2.2.2.1, x.length ≤ 500000) :
    ∃ t' fr, sourceSourceSend fu s now = some ((fr, ()), ((s.1, t', s.2.2.1, s.2.2.2.1, ()), ())) ∧ (fr = [] ∨ ∃ x r, s.2.2.2.1 = x :: r ∧ fr = [((3 : Int), s.1, (0 : Int), s.2.2.1, (0 : Int), x, ())]) := by
  obtain ⟨pub, t, seq, l, _⟩ := s
  simp only at hb ⊢
  unfold sourceSourceSend
  cases l with
  | nil => exact ⟨t, [], rfl, .inl rfl⟩
  | cons x r =>
    have hz : (((x :: r).length : Int) == 0) = false := by
      refine beq_false_of_ne ?_
      rw [List.length_cons]; omega
    simp only [hz, cond_false]
    by_cases hn : now > 1099511627776
    · simp only [decide_eq_true hn, cond_true]
      exact ⟨t, [], rfl, .inl rfl⟩
    · simp only [decide_eq_false hn, cond_false, backOver_eq, Option.bind_some]
      have fin : ∀ t0 : O1, ∃ t' fr, sourceSourceSend.j5 fu (fun vq1 c0q1 c0q1x2 c0q1x3 b1q1 c1q1 c1q1x2 c1q1x3 => some ((vq1, ()), ((c0q1, (b1q1, c1q1, c1q1x2, c1q1x3, ()), c0q1x2, c0q1x3, ()), ()))) now pub seq (x :: r) t0.1 t0.2.1 t0.2.2.1 t0.2.2.2.1 = some ((fr, ()), ((pub, t', seq, x :: r, ()), ())) ∧ (fr = [] ∨ ∃ x' r', x :: r = x' :: r' ∧ fr = [((3 : Int), pub, (0 : Int), seq, (0 : Int), x', ())]) := fun t0 => by
        obtain ⟨t', fr, h1, h2⟩ := sendj_eq fu (fun vq1 c0q1 c0q1x2 c0q1x3 b1q1 c1q1 c1q1x2 c1q1x3 => some ((vq1, ()), ((c0q1, (b1q1, c1q1, c1q1x2, c1q1x3, ()), c0q1x2, c0q1x3, ()), ()))) now pub seq x r t0 (hb x (by simp))
        exact ⟨t', fr, h1, h2.imp id fun h => ⟨x, r, rfl, h⟩⟩
      cases decide (t.2.2.1 ≥ t.1.2.2.1) with
      | false => exact fin t
      | true =>
        simp only [cond_true, backNext_eq, Option.bind_some]
        cases decide (t.2.2.2.1 ≤ now) with
        | false => exact fin t
        | true =>
          obtain ⟨t', ht⟩ := begin_some fu t now
          simp only [cond_true, ht, Option.bind_some]
          exact fin t'
theorem hear_eq (fu : Nat) (s : O2) (f : Fr) (now : Int) :
    ∃ b s', sourceSourceHear fu s f now = some ((b, ()), (s', ())) ∧ ((b = false ∧ s' = s) ∨ (b = true ∧ ∃ x r t', s.2.2.2.1 = x :: r ∧ f.2.1 = s.1 ∧ f.2.2.2.1 = s.2.2.1 ∧ s' = (s.1, t', IntKind.u64.wrap (s.2.2.1 + 1), r, ()))) := by
  obtain ⟨pub, t, seq, l, _⟩ := s
  unfold sourceSourceHear
  cases l with
  | nil => exact ⟨false, _, rfl, .inl ⟨rfl, rfl⟩⟩
  | cons x r =>
    have hz : (((x :: r).length : Int) == 0) = false := by
      refine beq_false_of_ne ?_
      rw [List.length_cons]; omega
    simp only [hz, cond_false]
    cases decide (now > 1099511627776) with
    | true => exact ⟨false, _, rfl, .inl ⟨rfl, rfl⟩⟩
    | false =>
      cases h1 : (f.1 != (4 : Int)) with
      | true => exact ⟨false, _, rfl, .inl ⟨rfl, rfl⟩⟩
      | false =>
        cases h2 : (f.2.1 != pub) with
        | true => exact ⟨false, _, rfl, .inl ⟨rfl, rfl⟩⟩
        | false =>
          cases h3 : (f.2.2.2.1 != seq) with
          | true => exact ⟨false, _, rfl, .inl ⟨rfl, rfl⟩⟩
          | false =>
            have e2 : f.2.1 = pub := by simpa using h2
            have e3 : f.2.2.2.1 = seq := by simpa using h3
            have ht : tailOk (x :: r) (1 : Int) = true := by unfold tailOk; simp; omega
            have hl : tailL (x :: r) (1 : Int) = r := rfl
            simp only [cond_false, ht, hl, chk, cond_true]
            cases decide ((r.length : Int) > 0) with
            | true =>
              obtain ⟨t', hb⟩ := begin_some fu t now
              simp only [cond_true, hb, Option.bind_some]
              exact ⟨true, _, rfl, .inr ⟨rfl, x, r, t', rfl, e2, e3, rfl⟩⟩
            | false => exact ⟨true, _, rfl, .inr ⟨rfl, x, r, t, rfl, e2, e3, rfl⟩⟩
theorem fixed26 (m : Nat) : law26Fixed (m + 100) = some (true, ()) := by
  have hp : eventPut (m + 100) [] ((2 : Int), ([] : List Va), ()) = some ([2, 0], 0, ()) := by
    rw [eventPut_eq (m + 100) (by omega) [] _ (by simp) ⟨by decide, fun v hv => by cases hv⟩]
    rfl
  unfold law26Fixed sourceSourceAdd
  simp only [hp]
  rfl
theorem sourceNew_eq (fu : Nat) (pub : Int) (b : S0) : sourceNew fu pub b = if may23 b then some ((some (pub, (b, false, (0 : Int), (0 : Int), ()), (1 : Int), [], ()), (0 : Int), ()), (())) else some ((none, (1 : Int), ()), (())) := by
  unfold sourceNew
  rw [new_eq]
  cases may23 b <;> rfl
abbrev Op26 : Type := Int × Int × (Int × List Rw × Unit) × Int × Int × Int × Unit
def flen26 : List Op26 → Nat
  | [] => 0
  | o :: r => o.2.2.1.2.1.length + flen26 r
theorem flen26_mem : ∀ {l : List Op26} {o : Op26}, o ∈ l → o.2.2.1.2.1.length ≤ flen26 l
  | [], o, h => by cases h
  | x :: r, o, h => by
    unfold flen26
    rcases List.mem_cons.1 h with rfl | h
    · omega
    · have := flen26_mem h; omega
theorem ixO {l : List Op26} {i : Nat} (h : i < l.length) : ixL ((0 : Int), (0 : Int), ((0 : Int), ([] : List Rw), ()), (0 : Int), (0 : Int), (0 : Int), ()) l i = l[i] := by
  unfold ixL
  simp [List.getElem?_eq_getElem h]
theorem cut0 {α : Type} (l : List α) (i : Nat) : cutL l 0 (i : Int) = l.take i := by
  unfold cutL
  simp
theorem cut_rounds (fu : Nat) (hfu : 50 ≤ fu) (l : List Op26) (hl : ∀ o ∈ l, o.2.2.1.2.1.length ≤ 140737488355328 ∧ o.2.2.1.2.1.length < fu) : ∀ (k m i : Nat), i + k = 152 → 1 ≤ k → k < m →
    ∃ l', law26Cut.l2 fu (fun vq3 => some (vq3, ())) (fun lq4 => some (lq4, ())) m l l l.length i = some (l', ()) ∧ l'.length ≤ 151 ∧ ∀ o ∈ l', o ∈ l := by
  intro k
  induction k with
  | zero => intro m i h1 h2; omega
  | succ k ih =>
    intro m i h1 h2 h3
    obtain ⟨m, rfl⟩ : ∃ j, m = j + 1 := ⟨m - 1, by omega⟩
    have e1 : IntKind.i64.wrap ((i : Int) + 1) = ((i + 1 : Nat) : Int) := wrap_i64 (by omega) (by omega)
    unfold law26Cut.l2 law26Cut.b2
    by_cases hi : i < l.length
    · rw [decide_eq_true (show (i : Int) < (l.length : Int) by omega), cond_true, ixOkN hi, ixO hi]
      have hcut : cutOk l (0 : Int) (i : Int) = true := by unfold cutOk; simp; omega
      have hres : ∃ l', some (cutL l (0 : Int) (i : Int), ()) = some (l', ()) ∧ l'.length ≤ 151 ∧ ∀ o ∈ l', o ∈ l := by
        rw [cut0]
        exact ⟨_, rfl, by rw [List.length_take]; omega, fun o ho => List.mem_of_mem_take ho⟩
      simp only [chk, cond_true, hcut, e1]
      by_cases h150 : (i : Int) > 150
      · rw [decide_eq_true h150]; exact hres
      · rw [decide_eq_false h150, cond_false]
        obtain ⟨q1, q2⟩ := hl _ (List.getElem_mem hi)
        obtain ⟨g, hg⟩ := great_eq fu hfu (rawE l[i].2.2.1)
        simp only [rawE_eq fu _ q1 q2, Option.bind_some, hg]
        cases g with
        | true => exact hres
        | false => exact ih m (i + 1) (by omega) (by omega) (by omega)
    · rw [decide_eq_false (show ¬ (i : Int) < (l.length : Int) by omega), cond_false]
      exact ⟨l, rfl, by omega, fun o ho => ho⟩
theorem ixF (f : Fr) : ixL ((0 : Int), (0 : Int), (0 : Int), (0 : Int), (0 : Int), ([] : List Int), ()) [f] (0 : Int) = f := rfl
theorem wrap64 {n : Nat} (h : n ≤ 1000) : IntKind.u64.wrap (n : Int) = (n : Int) := wrap_u64 (by omega) (by omega)
theorem drop_head {α : Type} {l : List α} {g : Nat} {x : α} {r : List α} (h : l.drop g = x :: r) : ∃ hg : g < l.length, l[g] = x ∧ l.drop (g + 1) = r := by
  have hg : g < l.length := by
    rcases Nat.lt_or_ge g l.length with h' | h'
    · exact h'
    · rw [List.drop_eq_nil_of_le h'] at h; cases h
  rw [List.drop_eq_getElem_cons hg] at h
  injection h with h1 h2
  exact ⟨hg, h1, h2⟩
theorem frames_eq (fu m : Nat) (k1 : Bool → Option (Bool × Unit)) (k5 : Int → List (List Int) → Int → List Op26 → Int → Int → Int → Int → List (List Int) → S0 → Bool → Int → Int → Option (Bool × Unit)) (pub : Int) (all : List (List Int)) (g : Nat) (v : List Op26) (n i : Int) (c1 c2 : Int) (c3 : List (List Int)) (t : O1) (fr : List Fr)
    (hf : fr = [] ∨ ∃ x r, all.drop g = x :: r ∧ fr = [((3 : Int), pub, (0 : Int), ((g : Int) + 1), (0 : Int), x, ())]) (ha : all.length ≤ 500) :
    law26SourceOrder.l22 fu k1 k5 (m + 2) pub all (g : Int) v n i fr (fr.length : Int) 0 c1 c2 c3 t.1 t.2.1 t.2.2.1 t.2.2.2.1 = k5 pub all g v n i c1 c2 c3 t.1 t.2.1 t.2.2.1 t.2.2.2.1 := by
  rcases hf with rfl | ⟨x, r, hd, rfl⟩
  · rfl
  · obtain ⟨hg, hx, -⟩ := drop_head hd
    have w1 : IntKind.u64.wrap ((g : Int) + 1) = (g : Int) + 1 := wrap_u64 (by omega) (by omega)
    have hix : ixL ([] : List Int) all (g : Int) = x := by
      unfold ixL
      simp [List.getElem?_eq_getElem hg, hx]
    have hok : ixOk [((3 : Int), pub, (0 : Int), ((g : Int) + 1), (0 : Int), x, ())] (0 : Int) = true := by unfold ixOk; simp
    unfold law26SourceOrder.l22 law26SourceOrder.b22
    rw [show decide ((0 : Int) < (([((3 : Int), pub, (0 : Int), ((g : Int) + 1), (0 : Int), x, ())].length : Nat) : Int)) = true from rfl]
    simp only [cond_true, hok, chk, ixF, w1, wrap64 (show all.length ≤ 1000 by omega), ixOkN hg, hix, bne_self_eq_false, cond_false, decide_eq_false (show ¬ (g : Int) ≥ (all.length : Int) by omega)]
    rfl
theorem order_rounds (fu : Nat) (hfu : 100 ≤ fu) (k1 : Bool → Option (Bool × Unit)) (k2 : List (List Int) → Int → Int → Int → List (List Int) → S0 → Bool → Int → Int → Option (Bool × Unit)) (pub : Int) (ops : List Op26) (hn : ops.length ≤ 151)
    (ho : ∀ o ∈ ops, o.2.2.1.2.1.length ≤ 140737488355328 ∧ o.2.2.1.2.1.length < fu ∧ evOk (rawE o.2.2.1) ∧ (rawE o.2.2.1).2.1.length ≤ 30) : ∀ (k m i : Nat) (all : List (List Int)) (g : Nat) (t : O1), i + k = ops.length → k < m → g ≤ all.length → all.length ≤ i → (∀ x ∈ all, x.length ≤ 5000) →
    ∃ (all' : List (List Int)) (g' : Nat) (t' : O1), g' ≤ all'.length ∧ all'.length ≤ 151 ∧ law26SourceOrder.l7 fu k1 k2 m pub all g ops ops.length i pub ((g : Int) + 1) (all.drop g) t.1 t.2.1 t.2.2.1 t.2.2.2.1 = k2 all' g' pub ((g' : Int) + 1) (all'.drop g') t'.1 t'.2.1 t'.2.2.1 t'.2.2.2.1 := by
  intro k
  induction k with
  | zero =>
    intro m i all g t h1 h2 h3 h4 h5
    obtain ⟨m, rfl⟩ : ∃ j, m = j + 1 := ⟨m - 1, by omega⟩
    refine ⟨all, g, t, h3, by omega, ?_⟩
    unfold law26SourceOrder.l7 law26SourceOrder.b7
    rw [decide_eq_false (by omega), cond_false]
  | succ k ih =>
    intro m i all g t h1 h2 h3 h4 h5
    obtain ⟨m, rfl⟩ : ∃ j, m = j + 1 := ⟨m - 1, by omega⟩
    have hi : i < ops.length := by omega
    have e1 : IntKind.i64.wrap ((i : Int) + 1) = ((i + 1 : Nat) : Int) := wrap_i64 (by omega) (by omega)
    obtain ⟨o1, o2, o3, o4⟩ := ho _ (List.getElem_mem hi)
    have hdl : (all.drop g).length ≤ 1000 := by rw [List.length_drop]; omega
    have hdm : ∀ x ∈ all.drop g, x.length ≤ 500000 := fun x hx => by have := h5 x (List.mem_of_mem_drop hx); omega
    unfold law26SourceOrder.l7 law26SourceOrder.b7
    rw [decide_eq_true (by omega), cond_true, ixOkN hi, ixO hi]
    generalize ops[i] = o at o1 o2 o3 o4
    simp only [chk, cond_true, e1, rawE_eq fu _ o1 o2, Option.bind_some]
    by_cases k0 : o.1 = 0
    · -- it is added
      simp only [k0, beq_self_eq_true, cond_true, refEPut_eq fu (by omega) [] _ (by simp) o3 o4, Option.bind_some]
      obtain ⟨c, s', q1, q2, -, -⟩ := add_eq fu (by omega) (pub, t, (g : Int) + 1, all.drop g, ()) (rawE o.2.2.1) o.2.1 o3 hdl
      have q1 : sourceSourceAdd fu (pub, (t.1, t.2.1, t.2.2.1, t.2.2.2.1, ()), (g : Int) + 1, all.drop g, ()) (rawE o.2.2.1) o.2.1 = some ((c, ()), (s', ())) := q1
      rw [q1]
      simp only [Option.bind_some]
      rcases q2 with ⟨q2, q3⟩ | ⟨q2, q3, t', q4⟩
      · simp only [beq_false_of_ne q2, cond_false, q3]
        exact ih m (i + 1) all g t (by omega) (by omega) h3 (by omega) h5
      · subst q2
        have hlen := putE_len q3
        simp only [beq_self_eq_true, cond_true, q3, if_true, bne_self_eq_false, cond_false, List.nil_append, apOk16 (show all.length + [putE (rawE o.2.2.1)].length ≤ 100000 by simp; omega), q4]
        have hd : all.drop g ++ [putE (rawE o.2.2.1)] = (all ++ [putE (rawE o.2.2.1)]).drop g := by rw [List.drop_append_of_le_length h3]
        rw [hd]
        refine ih m (i + 1) (all ++ [putE (rawE o.2.2.1)]) g t' (by omega) (by omega) (by rw [List.length_append]; omega) (by rw [List.length_append, List.length_singleton]; omega) (fun x hx => ?_)
        rcases List.mem_append.1 hx with hx | hx
        · exact h5 x hx
        · rw [List.mem_singleton.1 hx]; omega
    · simp only [beq_false_of_ne k0, cond_false]
      by_cases k1' : o.1 = 1
      · -- it is sent
        simp only [k1', beq_self_eq_true, cond_true]
        obtain ⟨t', fr, q1, q2⟩ := send_eq fu (pub, t, (g : Int) + 1, all.drop g, ()) o.2.1 hdm
        have q1 : sourceSourceSend fu (pub, (t.1, t.2.1, t.2.2.1, t.2.2.2.1, ()), (g : Int) + 1, all.drop g, ()) o.2.1 = some ((fr, ()), ((pub, t', (g : Int) + 1, all.drop g, ()), ())) := q1
        rw [q1]
        simp only [Option.bind_some]
        obtain ⟨f2, rfl⟩ : ∃ j, fu = j + 2 := ⟨fu - 2, by omega⟩
        rw [frames_eq (f2 + 2) f2 _ _ pub all g ops ops.length i pub ((g : Int) + 1) (all.drop g) t' fr q2 (by omega)]
        simp only [e1]
        exact ih m (i + 1) all g t' (by omega) (by omega) h3 (by omega) h5
      · -- it hears
        simp only [beq_false_of_ne k1', cond_false]
        obtain ⟨b, s', q1, q2⟩ := hear_eq fu (pub, t, (g : Int) + 1, all.drop g, ()) (o.2.2.2.1, o.2.2.2.2.1, (0 : Int), o.2.2.2.2.2.1, (0 : Int), [], ()) o.2.1
        have q1 : sourceSourceHear fu (pub, (t.1, t.2.1, t.2.2.1, t.2.2.2.1, ()), (g : Int) + 1, all.drop g, ()) (o.2.2.2.1, o.2.2.2.2.1, (0 : Int), o.2.2.2.2.2.1, (0 : Int), [], ()) o.2.1 = some ((b, ()), (s', ())) := q1
        rw [q1]
        simp only [Option.bind_some]
        rcases q2 with ⟨rfl, rfl⟩ | ⟨rfl, x, r, t', d1, d2, d3, rfl⟩
        · simp only [cond_false]
          exact ih m (i + 1) all g t (by omega) (by omega) h3 (by omega) h5
        · obtain ⟨hg, -, hr⟩ := drop_head (show all.drop g = x :: r from d1)
          have w1 : IntKind.u64.wrap ((g : Int) + 1) = (g : Int) + 1 := wrap_u64 (by omega) (by omega)
          have w2 : IntKind.u64.wrap ((g : Int) + 1 + 1) = (g : Int) + 1 + 1 := wrap_u64 (by omega) (by omega)
          have d2 : o.2.2.2.2.1 = pub := d2
          have d3 : o.2.2.2.2.2.1 = (g : Int) + 1 := d3
          simp only [cond_true, w1, w2, d2, d3, bne_self_eq_false, cond_false, wrap64 (show all.length ≤ 1000 by omega), decide_eq_false (show ¬ (g : Int) + 1 > (all.length : Int) by omega), ← hr]
          have := ih m (i + 1) all (g + 1) t' (by omega) (by omega) (by omega) (by omega) h5
          rw [show ((g + 1 : Nat) : Int) = (g : Int) + 1 by omega] at this
          exact this
/-- THE LAW: events are sent in their order. -/
theorem lawSourceOrder (pub : Int) (b : S0) (ops : List Op26) (h : okAll law26SourceOrder.con.ps (pub, b, ops, ())) : law26SourceOrder (flen26 ops + 3000) pub b ops = some (true, ()) := by
  have hops := h.2.2.1.2
  have hf := fixed26 (flen26 ops + 2900)
  rw [show flen26 ops + 2900 + 100 = flen26 ops + 3000 by omega] at hf
  have hall : ∀ o ∈ ops, o.2.2.1.2.1.length ≤ 140737488355328 ∧ o.2.2.1.2.1.length < flen26 ops + 3000 ∧ evOk (rawE o.2.2.1) ∧ (rawE o.2.2.1).2.1.length ≤ 30 := fun o ho => by
    obtain ⟨k1, k2, k3⟩ := rawE_ok (hops o ho).2.2.1
    exact ⟨k3, by have := flen26_mem ho; omega, k1, k2⟩
  generalize hfu : flen26 ops + 3000 = fu at hf hall
  unfold law26SourceOrder
  rw [sourceNew_eq]
  cases hm : may23 b with
  | false => simp only [Bool.false_eq_true, if_false, Option.bind_some, oc, hf, cond_true, ref23May_eq, hm]; rfl
  | true =>
    obtain ⟨l', c1, c2, c3⟩ := cut_rounds fu (by omega) ops (fun o ho => ⟨(hall o ho).1, (hall o ho).2.1⟩) 152 fu 0 (by omega) (by omega) (by omega)
    have c1 : law26Cut fu ops = some (l', ()) := c1
    obtain ⟨all', g', t', g1, g2, g3⟩ := order_rounds fu (by omega) (fun vq7 => some (vq7, ())) (fun allq8 goneq8 c1q8 c1q8x2 c1q8x3 b2q8 c2q8 c2q8x2 c2q8x3 =>
        (law26Fixed fu).bind fun r8 =>
        cond r8.1 (
          (sourceSourceWaits fu (c1q8, (b2q8, c2q8, c2q8x2, c2q8x3, ()), c1q8x2, c1q8x3, ())).bind fun r9 =>
          let t10 := IntKind.i64.wrap ((allq8.length : Int) - IntKind.i64.wrap goneq8)
          some (r9.1.1 == t10, ())) (
          some (false, ()))) pub l' c2 (fun o ho => hall o (c3 o ho)) l'.length fu 0 [] 0 (b, false, 0, 0, ()) (by omega) (by omega) (by simp) (by simp) (fun x hx => by cases hx)
    simp only [if_true, Option.bind_some, oc, c1]
    rw [show ((0 : Int) != 0) = false from rfl, cond_false]
    refine Eq.trans g3 ?_
    have w1 : IntKind.i64.wrap (g' : Int) = (g' : Int) := wrap_i64 (by omega) (by omega)
    have w2 : IntKind.i64.wrap ((all'.length : Int) - (g' : Int)) = (all'.length : Int) - (g' : Int) := wrap_i64 (by omega) (by omega)
    have hd : (((all'.drop g').length : Int) == (all'.length : Int) - (g' : Int)) = true := by
      rw [List.length_drop]
      exact beq_iff_eq.2 (by omega)
    simp only [hf, Option.bind_some, cond_true, sourceSourceWaits, w1, w2, hd]

end Go.Shal.Pr
