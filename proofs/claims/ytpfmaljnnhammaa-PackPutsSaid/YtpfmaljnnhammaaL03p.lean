/- PackPuts: what is put behind any bytes is the document's, in new memory. By an AI agent. -/
import Derived.Test.YtpfmaljnnhammaaGen03p
set_option linter.unusedVariables false
namespace Go.Shal.Pr
open Go Go.Shal Go.Proofs

theorem wrap_u64 {x : Int} (h0 : 0 ≤ x) (h1 : x < 18446744073709551616) : IntKind.u64.wrap x = x := by
  simp only [IntKind.wrap, IntKind.signed, IntKind.bits]
  simp
  omega
theorem wrap_i64 {x : Int} (h0 : -9223372036854775808 ≤ x) (h1 : x < 9223372036854775808) : IntKind.i64.wrap x = x := by
  simp only [IntKind.wrap, IntKind.signed, IntKind.bits]
  simp
  omega
theorem wrap_u8 (x : Int) : IntKind.u8.wrap x = x % 256 := by
  simp only [IntKind.wrap, IntKind.signed, IntKind.bits]
  simp
theorem max2_eq (x y : Int) : max2 x y = max x y := by unfold max2; split <;> omega
def By (l : List Int) : Prop := ∀ b ∈ l, (0 : Int) ≤ b ∧ b ≤ 255
theorem shr_eq (x : Int) (k : Nat) (hk : k < 64) : sShr .u64 x (k : Int) = x / 2 ^ k := by
  unfold sShr
  have e : min (k : Int).toNat IntKind.u64.bits = k := by simp only [IntKind.bits]; omega
  rw [e, Int.fdiv_eq_ediv_of_nonneg]
  exact_mod_cast Nat.zero_le _
theorem byte_or (c : Int) (h0 : 0 ≤ c) (h : c ≤ 255) : bOr .u8 c 128 = c % 128 + 128 := by
  have key : ∀ m : Fin 256, bOr .u8 (m.val : Int) 128 = (m.val : Int) % 128 + 128 := by decide +kernel
  have := key ⟨c.toNat, by omega⟩
  simp only at this
  rw [show (c.toNat : Int) = c by omega] at this
  exact this
def putN : Nat → Int → List Int
  | 0, n => [n]
  | k + 1, n => if n ≥ 128 then (n % 128 + 128) :: putN k (n / 128) else [n]
theorem putN_len : ∀ (k : Nat) (n : Int), (putN k n).length ≤ k + 1 ∧ 0 < (putN k n).length
  | 0, n => by simp [putN]
  | k + 1, n => by
    unfold putN
    split
    · have := putN_len k (n / 128)
      simp only [List.length_cons]
      omega
    · simp
theorem apOk1 {xs ys : List Int} (h : xs.length + ys.length ≤ 1000000) : apOk xs ys 1 = true := by
  unfold apOk
  exact decide_eq_true (Nat.le_trans (Nat.mul_le_mul_right 1 h) (by decide))
def tab8 : List Int := ([0, 1, 2, 2, 3, 3, 3, 3, 4, 4, 4, 4, 4, 4, 4, 4, 5, 5, 5, 5, 5, 5, 5, 5, 5, 5, 5, 5, 5, 5, 5, 5, 6, 6, 6, 6, 6, 6, 6, 6, 6, 6, 6, 6, 6, 6, 6, 6, 6, 6, 6, 6, 6, 6, 6, 6, 6, 6, 6, 6, 6, 6, 6, 6, 7, 7, 7, 7, 7, 7, 7, 7, 7, 7, 7, 7, 7, 7, 7, 7, 7, 7, 7, 7, 7, 7, 7, 7, 7, 7, 7, 7, 7, 7, 7, 7, 7, 7, 7, 7, 7, 7, 7, 7, 7, 7, 7, 7, 7, 7, 7, 7, 7, 7, 7, 7, 7, 7, 7, 7, 7, 7, 7, 7, 7, 7, 7, 7, 8, 8, 8, 8, 8, 8, 8, 8, 8, 8, 8, 8, 8, 8, 8, 8, 8, 8, 8, 8, 8, 8, 8, 8, 8, 8, 8, 8, 8, 8, 8, 8, 8, 8, 8, 8, 8, 8, 8, 8, 8, 8, 8, 8, 8, 8, 8, 8, 8, 8, 8, 8, 8, 8, 8, 8, 8, 8, 8, 8, 8, 8, 8, 8, 8, 8, 8, 8, 8, 8, 8, 8, 8, 8, 8, 8, 8, 8, 8, 8, 8, 8, 8, 8, 8, 8, 8, 8, 8, 8, 8, 8, 8, 8, 8, 8, 8, 8, 8, 8, 8, 8, 8, 8, 8, 8, 8, 8, 8, 8, 8, 8, 8, 8, 8, 8, 8, 8, 8, 8, 8, 8, 8, 8, 8, 8, 8, 8] : List Int)
theorem tab8_ok (x : Int) (h0 : 0 ≤ x) (h1 : x < 256) : ixOk tab8 x = true ∧ 0 ≤ ixL 0 tab8 x ∧ ixL 0 tab8 x ≤ 8 := by
  have key : ∀ m : Fin 256, ixOk tab8 (m.val : Int) = true ∧ 0 ≤ ixL 0 tab8 (m.val : Int) ∧ ixL 0 tab8 (m.val : Int) ≤ 8 := by decide +kernel
  have := key ⟨x.toNat, by omega⟩
  simp only at this
  rw [show (x.toNat : Int) = x by omega] at this
  exact this
theorem len_j7 (fu : Nat) k1 (x n : Int) (h0 : 0 ≤ x) (h1 : x < 65536) (hn : 0 ≤ n) (hn1 : n ≤ 100) : ∃ r, bitsLen64.j7 fu k1 x n = k1 r ∧ 0 ≤ r ∧ r ≤ n + 16 := by
  unfold bitsLen64.j7
  rw [show ([0, 1, 2, 2, 3, 3, 3, 3, 4, 4, 4, 4, 4, 4, 4, 4, 5, 5, 5, 5, 5, 5, 5, 5, 5, 5, 5, 5, 5, 5, 5, 5, 6, 6, 6, 6, 6, 6, 6, 6, 6, 6, 6, 6, 6, 6, 6, 6, 6, 6, 6, 6, 6, 6, 6, 6, 6, 6, 6, 6, 6, 6, 6, 6, 7, 7, 7, 7, 7, 7, 7, 7, 7, 7, 7, 7, 7, 7, 7, 7, 7, 7, 7, 7, 7, 7, 7, 7, 7, 7, 7, 7, 7, 7, 7, 7, 7, 7, 7, 7, 7, 7, 7, 7, 7, 7, 7, 7, 7, 7, 7, 7, 7, 7, 7, 7, 7, 7, 7, 7, 7, 7, 7, 7, 7, 7, 7, 7, 8, 8, 8, 8, 8, 8, 8, 8, 8, 8, 8, 8, 8, 8, 8, 8, 8, 8, 8, 8, 8, 8, 8, 8, 8, 8, 8, 8, 8, 8, 8, 8, 8, 8, 8, 8, 8, 8, 8, 8, 8, 8, 8, 8, 8, 8, 8, 8, 8, 8, 8, 8, 8, 8, 8, 8, 8, 8, 8, 8, 8, 8, 8, 8, 8, 8, 8, 8, 8, 8, 8, 8, 8, 8, 8, 8, 8, 8, 8, 8, 8, 8, 8, 8, 8, 8, 8, 8, 8, 8, 8, 8, 8, 8, 8, 8, 8, 8, 8, 8, 8, 8, 8, 8, 8, 8, 8, 8, 8, 8, 8, 8, 8, 8, 8, 8, 8, 8, 8, 8, 8, 8, 8, 8, 8, 8, 8, 8] : List Int) = tab8 from rfl]
  have fits : ∀ y : Int, 0 ≤ y → y ≤ 1000 → IntKind.i64.wrap y = y := fun y a b => wrap_i64 (by omega) (by omega)
  by_cases h : x ≥ 256
  · have e1 : sShr .u64 x 8 = x / 256 := by have := shr_eq x 8 (by omega); simpa using this
    have e2 : IntKind.u8.wrap (x / 256) = x / 256 := by rw [wrap_u8]; omega
    obtain ⟨q1, q2, q3⟩ := tab8_ok (x / 256) (by omega) (by omega)
    simp only [h, decide_true, cond_true, e1, e2, q1, chk]
    rw [fits (n + 8) (by omega) (by omega), fits (ixL 0 tab8 (x / 256)) q2 (by omega), fits _ (by omega) (by omega)]
    exact ⟨_, rfl, by omega, by omega⟩
  · obtain ⟨q1, q2, q3⟩ := tab8_ok x (by omega) (by omega)
    have e2 : IntKind.u8.wrap x = x := by rw [wrap_u8]; omega
    simp only [h, decide_false, cond_false, e2, q1, chk, cond_true]
    rw [fits (ixL 0 tab8 x) q2 (by omega), fits _ (by omega) (by omega)]
    exact ⟨_, rfl, by omega, by omega⟩
theorem len_j4 (fu : Nat) k1 (x n : Int) (h0 : 0 ≤ x) (h1 : x < 4294967296) (hn : 0 ≤ n) (hn1 : n ≤ 64) : ∃ r, bitsLen64.j4 fu k1 x n = k1 r ∧ 0 ≤ r ∧ r ≤ n + 32 := by
  unfold bitsLen64.j4
  by_cases h : x ≥ 65536
  · have e1 : sShr .u64 x 16 = x / 65536 := by have := shr_eq x 16 (by omega); simpa using this
    have e2 : IntKind.i64.wrap (n + 16) = n + 16 := wrap_i64 (by omega) (by omega)
    simp only [h, decide_true, cond_true, e1, e2]
    obtain ⟨r, h1, h2, h3⟩ := len_j7 fu (fun q => k1 q) (x / 65536) (n + 16) (by omega) (by omega) (by omega) (by omega)
    exact ⟨r, h1, h2, by omega⟩
  · simp only [h, decide_false, cond_false]
    obtain ⟨r, h1, h2, h3⟩ := len_j7 fu (fun q => k1 q) x n (by omega) (by omega) (by omega) (by omega)
    exact ⟨r, h1, h2, by omega⟩
theorem len64_le (fu : Nat) (n : Int) (h0 : 0 ≤ n) (h1 : n < 18446744073709551616) : ∃ r, bitsLen64 fu n = some (r, ()) ∧ 0 ≤ r ∧ r ≤ 64 := by
  unfold bitsLen64
  by_cases h : n ≥ 4294967296
  · have e1 : sShr .u64 n 32 = n / 4294967296 := by have := shr_eq n 32 (by omega); simpa using this
    simp only [h, decide_true, cond_true, e1]
    obtain ⟨r, h1, h2, h3⟩ := len_j4 fu (fun q => some (q, ())) (n / 4294967296) 32 (by omega) (by omega) (by omega) (by omega)
    exact ⟨r, h1, h2, by omega⟩
  · simp only [h, decide_false, cond_false]
    obtain ⟨r, h1, h2, h3⟩ := len_j4 fu (fun q => some (q, ())) n 0 (by omega) (by omega) (by omega) (by omega)
    exact ⟨r, h1, h2, by omega⟩
theorem size_le (fu : Nat) (n : Int) (h0 : 0 ≤ n) (h1 : n < 18446744073709551616) : ∃ r, packSize fu n = some (r, ()) ∧ 0 ≤ r ∧ r ≤ 10 := by
  unfold packSize
  obtain ⟨r, q1, q2, q3⟩ := len64_le fu n h0 h1
  have e1 : IntKind.i64.wrap (max2 r 1 + 6) = max r 1 + 6 := by rw [max2_eq, wrap_i64 (by omega) (by omega)]
  have e2 : Int.tdiv (max r 1 + 6) 7 = (max r 1 + 6) / 7 := Int.tdiv_eq_ediv_of_nonneg (by omega)
  have e3 : IntKind.i64.wrap ((max r 1 + 6) / 7) = (max r 1 + 6) / 7 := wrap_i64 (by omega) (by omega)
  simp only [q1, Option.bind_some, e1, e2, e3]
  exact ⟨_, rfl, by omega, by omega⟩
theorem own_eq (fu : Nat) (b : List Int) (room : Int) (hl : b.length ≤ 500000) (h0 : 0 ≤ room) (h1 : room ≤ 1000) : packOwn fu b room = some ((b, ()), ()) := by
  unfold packOwn
  have e1 : IntKind.i64.wrap ((b.length : Int) + room) = b.length + room := wrap_i64 (by omega) (by omega)
  have e2 : mkOk 0 ((b.length : Int) + room) 1 = true := by
    have hL : (1000000 : Int) ≤ (LIM : Int) := by decide
    unfold mkOk
    simp only [Bool.and_eq_true, decide_eq_true_eq]
    omega
  have e3 : apOk ([] : List Int) b 1 = true := apOk1 (by simp; omega)
  simp only [e1, e2, chk, cond_true, Int.toNat_zero, List.replicate_zero, e3, List.nil_append]
theorem pow_succ128 (k : Nat) : (128 : Int) ^ (k + 1) = 128 * 128 ^ k := by rw [Int.pow_succ, Int.mul_comm]
theorem putO_rounds (fu : Nat) (k2 : Int → List Int → Option (((List Int) × Unit) × (Unit))) : ∀ (k m : Nat) (n : Int) (out : List Int), k < m → 0 ≤ n → n < 128 ^ (k + 1) → out.length + k ≤ 500000 →
    ∃ last init, putN k n = init ++ [last] ∧ 0 ≤ last ∧ last < 128 ∧ packPut.l2 fu k2 m n out = k2 last (out ++ init) := by
  intro k
  induction k with
  | zero =>
    intro m n out hm h0 h1 hl
    obtain ⟨m, rfl⟩ : ∃ j, m = j + 1 := ⟨m - 1, by omega⟩
    have hn : ¬ n ≥ 128 := by have : (128 : Int) ^ (0 + 1) = 128 := by decide
                              omega
    refine ⟨n, [], by simp [putN], h0, by omega, ?_⟩
    unfold packPut.l2 packPut.b2
    simp [hn]
  | succ k ih =>
    intro m n out hm h0 h1 hl
    obtain ⟨m, rfl⟩ : ∃ j, m = j + 1 := ⟨m - 1, by omega⟩
    unfold packPut.l2 packPut.b2 putN
    by_cases hn : n ≥ 128
    · have e1 : sShr .u64 n 7 = n / 128 := by have := shr_eq n 7 (by omega); simpa using this
      have e2 : bOr .u8 (IntKind.u8.wrap n) 128 = n % 128 + 128 := by rw [wrap_u8, byte_or _ (by omega) (by omega)]; omega
      rw [pow_succ128] at h1
      obtain ⟨last, init, q1, q2, q3, q4⟩ := ih m (n / 128) (out ++ [n % 128 + 128]) (by omega) (by omega) (by omega) (by simp; omega)
      refine ⟨last, (n % 128 + 128) :: init, by rw [if_pos hn, q1]; rfl, q2, q3, ?_⟩
      have e3 : apOk out [n % 128 + 128] 1 = true := apOk1 (by simp; omega)
      simp only [hn, decide_true, cond_true, e1, e2, e3, chk]
      rw [q4, List.append_assoc]
      rfl
    · refine ⟨n, [], by rw [if_neg hn]; rfl, h0, by omega, ?_⟩
      simp [hn]
theorem putD_rounds (fu : Nat) (k2 : Int → List Int → Option ((List Int) × Unit)) : ∀ (k m : Nat) (n : Int) (out : List Int), k < m → 0 ≤ n → n < 128 ^ (k + 1) → out.length + k ≤ 500000 →
    ∃ last init, putN k n = init ++ [last] ∧ 0 ≤ last ∧ last < 128 ∧ packPutDat.l2 fu k2 m n out = k2 last (out ++ init) := by
  intro k
  induction k with
  | zero =>
    intro m n out hm h0 h1 hl
    obtain ⟨m, rfl⟩ : ∃ j, m = j + 1 := ⟨m - 1, by omega⟩
    have hn : ¬ n ≥ 128 := by have : (128 : Int) ^ (0 + 1) = 128 := by decide
                              omega
    refine ⟨n, [], by simp [putN], h0, by omega, ?_⟩
    unfold packPutDat.l2 packPutDat.b2
    simp [hn]
  | succ k ih =>
    intro m n out hm h0 h1 hl
    obtain ⟨m, rfl⟩ : ∃ j, m = j + 1 := ⟨m - 1, by omega⟩
    unfold packPutDat.l2 packPutDat.b2 putN
    by_cases hn : n ≥ 128
    · have e1 : sShr .u64 n 7 = n / 128 := by have := shr_eq n 7 (by omega); simpa using this
      have e2 : bOr .u8 (IntKind.u8.wrap n) 128 = n % 128 + 128 := by rw [wrap_u8, byte_or _ (by omega) (by omega)]; omega
      rw [pow_succ128] at h1
      obtain ⟨last, init, q1, q2, q3, q4⟩ := ih m (n / 128) (out ++ [n % 128 + 128]) (by omega) (by omega) (by omega) (by simp; omega)
      refine ⟨last, (n % 128 + 128) :: init, by rw [if_pos hn, q1]; rfl, q2, q3, ?_⟩
      have e3 : apOk out [n % 128 + 128] 1 = true := apOk1 (by simp; omega)
      simp only [hn, decide_true, cond_true, e1, e2, e3, chk]
      rw [q4, List.append_assoc]
      rfl
    · refine ⟨n, [], by rw [if_neg hn]; rfl, h0, by omega, ?_⟩
      simp [hn]
theorem put_eq (fu : Nat) (hfu : 12 ≤ fu) (b : List Int) (n : Int) (hl : b.length ≤ 400000) (h0 : 0 ≤ n) (h1 : n < 18446744073709551616) : packPut fu b n = some ((b ++ putN 9 n, ()), ()) ∧ packPutDat fu b n = some (b ++ putN 9 n, ()) := by
  obtain ⟨r, q1, q2, q3⟩ := size_le fu n h0 h1
  have hp : (128 : Int) ^ (9 + 1) = 1180591620717411303424 := by decide
  constructor
  · obtain ⟨last, init, p1, p2, p3, p4⟩ := putO_rounds fu (fun nq2 outq2 => 
      chk (apOk outq2 ([IntKind.u8.wrap nq2]) 1) <|
      let t3 := outq2 ++ ([IntKind.u8.wrap nq2])
      some ((t3, ()), (()))) 9 fu n b (by omega) h0 (by omega) (by omega)
    have hlen := putN_len 9 n
    rw [p1] at hlen
    simp only [List.length_append, List.length_cons, List.length_nil] at hlen
    have e1 : IntKind.u8.wrap last = last := by rw [wrap_u8]; omega
    have e2 : apOk (b ++ init) [last] 1 = true := apOk1 (by simp; omega)
    unfold packPut
    simp only [q1, Option.bind_some, own_eq fu b r (by omega) q2 (by omega)]
    refine p4.trans ?_
    simp only [e1, e2, chk, cond_true, p1, List.append_assoc]
  · obtain ⟨last, init, p1, p2, p3, p4⟩ := putD_rounds fu (fun nq2 outq2 => 
      chk (apOk outq2 ([IntKind.u8.wrap nq2]) 1) <|
      let t3 := outq2 ++ ([IntKind.u8.wrap nq2])
      some (t3, ())) 9 fu n b (by omega) h0 (by omega) (by omega)
    have hlen := putN_len 9 n
    rw [p1] at hlen
    simp only [List.length_append, List.length_cons, List.length_nil] at hlen
    have e1 : IntKind.u8.wrap last = last := by rw [wrap_u8]; omega
    have e2 : apOk (b ++ init) [last] 1 = true := apOk1 (by simp; omega)
    unfold packPutDat
    simp only [q1, Option.bind_some, own_eq fu b r (by omega) q2 (by omega)]
    refine p4.trans ?_
    simp only [e1, e2, chk, cond_true, p1, List.append_assoc]
theorem cutOk_of {b : List Int} {x y : Int} (h0 : 0 ≤ x) (h1 : x ≤ y) (h2 : y ≤ b.length) : cutOk b x y = true := by simp [cutOk, h0, h1, h2]
theorem putText_eq (fu : Nat) (hfu : 12 ≤ fu) (b s : List Int) (hl : b.length ≤ 400000) (hs : s.length ≤ 400000) : packPutTextDat fu b s = some (b ++ putN 9 s.length ++ s, ()) := by
  unfold packPutTextDat
  have e1 : IntKind.u64.wrap (s.length : Int) = s.length := wrap_u64 (by omega) (by omega)
  have := putN_len 9 s.length
  have e2 : apOk (b ++ putN 9 s.length) s 1 = true := apOk1 (by rw [List.length_append]; omega)
  simp only [e1, (put_eq fu hfu b s.length hl (by omega) (by omega)).1, Option.bind_some, e2, chk, cond_true]
def isNan (x : Nat) : Prop := x % 9223372036854775808 > 9218868437227405312
instance : DecidablePred isNan := fun x => inferInstanceAs (Decidable (_ > _))
def canon (x : Nat) : Int := if isNan x then 9221120237041090560 else x
theorem nan_iff (x : Nat) : fNeq x x = decide (isNan x) := by
  unfold fNeq
  show (FloatKind.f64.format.order x x != some .eq) = _
  have hsw : FloatKind.f64.format.signWeight = 9223372036854775808 := by decide
  have hir : FloatKind.f64.format.infRung = 9218868437227405312 := by decide
  have hbi : FloatKind.f64.format.binade = 4503599627370496 := by decide
  unfold Ieee.Format.order Ieee.Format.read
  have no : ¬ (x % 9223372036854775808 > 9218868437227405312) → decide (isNan x) = false := fun h => decide_eq_false h
  simp only [hsw, hir, hbi]
  split
  · rename_i h
    rw [no (by omega)]
    simp [Ieee.Datum.order]
  · split
    · rename_i h1 h2
      rw [no (by omega)]
      simp [Ieee.Datum.order]
    · split
      · rename_i h1 h2 h3
        rw [no (by omega)]
        simp [Ieee.Datum.order]
      · rename_i h1 h2 h3
        exact (decide_eq_true (p := isNan x) (show x % 9223372036854775808 > 9218868437227405312 by omega)).symm
theorem realBits_eq (fu : Nat) (x : Nat) (h : x < 18446744073709551616) : realBits fu x = some (canon x, ()) := by
  unfold realBits canon
  rw [nan_iff]
  by_cases hx : isNan x
  · simp [hx]
  · have : extBits.f fu (x, ()) = some ((x : Int), ()) := by
      show (match decide (x < 18446744073709551616) with | true => some ((x : Int), ()) | false => none) = _
      rw [decide_eq_true h]
    simp only [hx, decide_false, cond_false, if_false]
    rw [this]
    rfl
theorem canon_fits (x : Nat) (h : x < 18446744073709551616) : 0 ≤ canon x ∧ canon x < 18446744073709551616 := by
  unfold canon; split <;> omega
def bytes8 (n : Int) : List Int := [n / 72057594037927936 % 256, n / 281474976710656 % 256, n / 1099511627776 % 256, n / 4294967296 % 256, n / 16777216 % 256, n / 65536 % 256, n / 256 % 256, n % 256]
theorem realD_step (fu : Nat) (k2 : List Int → Option ((List Int) × Unit)) (m k : Nat) (hk : k < 64) (out : List Int) (n : Int) (ho : out.length ≤ 900000) :
    packPutRealDat.l4 fu k2 (m + 1) out n (k : Int) = packPutRealDat.l4 fu k2 m (out ++ [n / 2 ^ k % 256]) n ((k : Int) - 8) := by
  have e1 : apOk out [n / 2 ^ k % 256] 1 = true := apOk1 (by simp; omega)
  have e2 : IntKind.i64.wrap ((k : Int) - 8) = k - 8 := wrap_i64 (by omega) (by omega)
  have h1 : decide ((k : Int) ≥ 0) = true := decide_eq_true (by omega)
  have h2 : decide ((k : Int) < 0) = false := decide_eq_false (by omega)
  conv => lhs; unfold packPutRealDat.l4 packPutRealDat.b4
  simp only [h1, h2, cond_true, chk, Bool.not_false, shr_eq n k hk, wrap_u8, e1, e2]
theorem realD_end (fu : Nat) (k2 : List Int → Option ((List Int) × Unit)) (m : Nat) (out : List Int) (n : Int) : packPutRealDat.l4 fu k2 (m + 1) out n (-8) = k2 out := by
  unfold packPutRealDat.l4 packPutRealDat.b4
  rfl
theorem putReal_eq (f : Nat) (b : List Int) (x : Nat) (hl : b.length ≤ 400000) (hx : x < 18446744073709551616) :
    packPutRealDat (f + 9) b x = some (b ++ bytes8 (canon x), ()) := by
  unfold packPutRealDat
  rw [own_eq _ b 8 (by omega) (by omega) (by omega), realBits_eq _ x hx]
  simp only [Option.bind_some]
  generalize canon x = n
  refine (realD_step _ _ (f + 8) 56 (by omega) b n (by omega)).trans ?_
  refine (realD_step _ _ (f + 7) 48 (by omega) _ n (by simp; omega)).trans ?_
  refine (realD_step _ _ (f + 6) 40 (by omega) _ n (by simp; omega)).trans ?_
  refine (realD_step _ _ (f + 5) 32 (by omega) _ n (by simp; omega)).trans ?_
  refine (realD_step _ _ (f + 4) 24 (by omega) _ n (by simp; omega)).trans ?_
  refine (realD_step _ _ (f + 3) 16 (by omega) _ n (by simp; omega)).trans ?_
  refine (realD_step _ _ (f + 2) 8 (by omega) _ n (by simp; omega)).trans ?_
  refine (realD_step _ _ (f + 1) 0 (by omega) _ n (by simp; omega)).trans ?_
  refine (realD_end _ _ f _ n).trans ?_
  simp [bytes8]
def zig (n : Int) : Int := if n ≥ 0 then 2 * n else -2 * n - 1
theorem xor_zero64 (x : Int) (h0 : 0 ≤ x) (h1 : x < 18446744073709551616) : bXor .u64 x 0 = x := by
  obtain ⟨N, rfl⟩ := Int.eq_ofNat_of_zero_le h0
  show IntKind.u64.wrap (((BitVec.ofInt 64 (N : Int) ^^^ BitVec.ofInt 64 (0 : Int)).toNat : Nat) : Int) = _
  rw [show BitVec.ofInt 64 (0 : Int) = 0#64 from rfl, BitVec.xor_zero, BitVec.ofInt_natCast, BitVec.toNat_ofNat, Nat.mod_eq_of_lt (by omega)]
  exact wrap_u64 (by omega) (by omega)
theorem xor_ones64 (x : Int) (h0 : 0 ≤ x) (h1 : x < 18446744073709551616) : bXor .u64 x 18446744073709551615 = 18446744073709551615 - x := by
  obtain ⟨N, rfl⟩ := Int.eq_ofNat_of_zero_le h0
  show IntKind.u64.wrap (((BitVec.ofInt 64 (N : Int) ^^^ BitVec.ofInt 64 (18446744073709551615 : Int)).toNat : Nat) : Int) = _
  rw [show BitVec.ofInt 64 (18446744073709551615 : Int) = BitVec.allOnes 64 by decide, BitVec.xor_allOnes, BitVec.toNat_not, BitVec.ofInt_natCast, BitVec.toNat_ofNat, Nat.mod_eq_of_lt (by omega)]
  rw [wrap_u64 (by omega) (by omega)]
  omega
theorem shr63 (n : Int) (h0 : -9223372036854775808 ≤ n) (h1 : n < 9223372036854775808) : sShr .i64 n 63 = if n ≥ 0 then 0 else -1 := by
  unfold sShr
  have e : min (63 : Int).toNat IntKind.i64.bits = 63 := by decide
  rw [e, show (2 : Int) ^ 63 = 9223372036854775808 by decide, Int.fdiv_eq_ediv_of_nonneg _ (by omega)]
  split <;> omega
theorem putInt_eq (fu : Nat) (hfu : 12 ≤ fu) (b : List Int) (n : Int) (hl : b.length ≤ 400000) (h0 : -9223372036854775808 ≤ n) (h1 : n < 9223372036854775808) : packPutIntDat fu b n = some (b ++ putN 9 (zig n), ()) := by
  unfold packPutIntDat zig
  rw [shr63 n h0 h1]
  have hsh : ∀ x : Int, 0 ≤ x → x < 18446744073709551616 → sShl .u64 x 1 = IntKind.u64.wrap (x * 2) := fun x _ _ => by
    unfold sShl
    have e : min (1 : Int).toNat IntKind.u64.bits = 1 := by decide
    rw [e]
    rfl
  by_cases hn : n ≥ 0
  · have e1 : IntKind.u64.wrap n = n := wrap_u64 (by omega) (by omega)
    have e2 : sShl .u64 n 1 = 2 * n := by rw [hsh n hn (by omega), wrap_u64 (by omega) (by omega)]; omega
    have e3 : IntKind.u64.wrap 0 = 0 := by decide
    simp only [hn, if_true, e1, e2, e3, xor_zero64 (2 * n) (by omega) (by omega), (put_eq fu hfu b (2 * n) hl (by omega) (by omega)).2, Option.bind_some]
  · have e1 : IntKind.u64.wrap n = n + 18446744073709551616 := by
      simp only [IntKind.wrap, IntKind.signed, IntKind.bits]
      simp
      omega
    have e2 : sShl .u64 (n + 18446744073709551616) 1 = 2 * n + 18446744073709551616 := by
      rw [hsh _ (by omega) (by omega)]
      simp only [IntKind.wrap, IntKind.signed, IntKind.bits]
      simp
      omega
    have e3 : IntKind.u64.wrap (-1) = 18446744073709551615 := by decide
    have e4 : (18446744073709551615 : Int) - (2 * n + 18446744073709551616) = -2 * n - 1 := by omega
    simp only [hn, if_false, e1, e2, e3, xor_ones64 (2 * n + 18446744073709551616) (by omega) (by omega), e4, (put_eq fu hfu b (-2 * n - 1) hl (by omega) (by omega)).2, Option.bind_some]
theorem partsBits_eq (fu : Nat) (n : Int) (h0 : 0 ≤ n) (h1 : n < 18446744073709551616) : ((ref02OfBits fu n).bind fun r => ref02PartsBits fu r.1) = some (canon n.toNat, ()) := by
  unfold ref02OfBits ref02PartsBits ref02PartsNaN canon
  have t1 : Int.tdiv n 4503599627370496 = n / 4503599627370496 := Int.tdiv_eq_ediv_of_nonneg h0
  have t2 : IntKind.u64.wrap (n / 4503599627370496) = n / 4503599627370496 := wrap_u64 (by omega) (by omega)
  have t3 : Int.tmod (n / 4503599627370496) 2048 = n / 4503599627370496 % 2048 := Int.tmod_eq_emod_of_nonneg (by omega)
  have t4 : IntKind.i64.wrap (n / 4503599627370496 % 2048) = n / 4503599627370496 % 2048 := wrap_i64 (by omega) (by omega)
  have t5 : Int.tmod n 4503599627370496 = n % 4503599627370496 := Int.tmod_eq_emod_of_nonneg h0
  have t6 : IntKind.u64.wrap (n / 4503599627370496 % 2048) = n / 4503599627370496 % 2048 := wrap_u64 (by omega) (by omega)
  have t7 : IntKind.u64.wrap (n / 4503599627370496 % 2048 * 4503599627370496) = n / 4503599627370496 % 2048 * 4503599627370496 := wrap_u64 (by omega) (by omega)
  have t8 : IntKind.u64.wrap (n / 4503599627370496 % 2048 * 4503599627370496 + n % 4503599627370496) = n / 4503599627370496 % 2048 * 4503599627370496 + n % 4503599627370496 := wrap_u64 (by omega) (by omega)
  simp only [t1, t2, t3, t4, t5, t6, t7, t8, Option.bind_some]
  have hnan : isNan n.toNat ↔ n / 4503599627370496 % 2048 = 2047 ∧ n % 4503599627370496 ≠ 0 := by
    unfold isNan
    constructor
    · intro h; omega
    · rintro ⟨h1, h2⟩; omega
  by_cases hx : n / 4503599627370496 % 2048 = 2047
  · by_cases hy : n % 4503599627370496 = 0
    · rw [if_neg (fun h => (hnan.1 h).2 hy)]
      simp only [hx, hy, beq_self_eq_true, bne_self_eq_false, cond_true, cond_false, Option.bind_some]
      by_cases hs : n ≥ 9223372036854775808
      · have : IntKind.u64.wrap (2047 * 4503599627370496 + 0 + 9223372036854775808) = n := by rw [wrap_u64 (by omega) (by omega)]; omega
        simp only [hs, decide_true, cond_true, this]
        congr 2; omega
      · simp only [hs, decide_false, cond_false]
        congr 2; omega
    · rw [if_pos (hnan.2 ⟨hx, hy⟩)]
      have hy' : (n % 4503599627370496 != 0) = true := bne_iff_ne.2 hy
      simp only [hx, hy', beq_self_eq_true, cond_true, Option.bind_some]
  · rw [if_neg (fun h => hx (hnan.1 h).1)]
    have hx' : (n / 4503599627370496 % 2048 == 2047) = false := beq_false_of_ne hx
    simp only [hx', cond_false, Option.bind_some]
    by_cases hs : n ≥ 9223372036854775808
    · have : IntKind.u64.wrap (n / 4503599627370496 % 2048 * 4503599627370496 + n % 4503599627370496 + 9223372036854775808) = n := by rw [wrap_u64 (by omega) (by omega)]; omega
      simp only [hs, decide_true, cond_true, this]
      congr 2; omega
    · simp only [hs, decide_false, cond_false]
      congr 2; omega
theorem u64Of {x : Int} (h : inR .u64 x) : 0 ≤ x ∧ x < 18446744073709551616 := by
  simp [inR, IntKind.min, IntKind.max, IntKind.signed, IntKind.bits] at h
  omega
theorem i64Of {x : Int} (h : inR .i64 x) : -9223372036854775808 ≤ x ∧ x < 9223372036854775808 := by
  simp [inR, IntKind.min, IntKind.max, IntKind.signed, IntKind.bits] at h
  omega
theorem byOf {l : List Int} (h : (Kd.slice (.int .u8)).ok l) : By l := fun x hx => by
  have := h.2 x hx
  simp [Kd.ok, inR, IntKind.min, IntKind.max, IntKind.signed, IntKind.bits] at this
  omega
def F64 (x : Nat) : Prop := x < 18446744073709551616
theorem extBits_eq (fu : Nat) {x : Nat} (h : F64 x) : extBits.f fu (x, ()) = some ((x : Int), ()) := by
  show (match decide (x < 18446744073709551616) with | true => some ((x : Int), ()) | false => none) = _
  have : decide (x < 18446744073709551616) = true := decide_eq_true (show x < 18446744073709551616 from h)
  rw [this]
theorem bits_bind {β : Type} (fu : Nat) {x : Nat} (h : F64 x) (K : (Kd.struct extBits.rs).T → Option β) : (extBits.f fu (x, ())).bind K = K ((x : Int), ()) := by rw [extBits_eq fu h]; rfl
theorem refBits_bind {β : Type} (fu : Nat) {x : Nat} (h : F64 x) (K : Int × Unit → Option β) : ((ref02Of fu x).bind fun r1 => (ref02PartsBits fu r1.1).bind K) = K (canon x, ()) := by
  unfold ref02Of
  rw [bits_bind fu h]
  have h' : x < 18446744073709551616 := h
  have e := partsBits_eq fu (x : Int) (by omega) (by omega)
  rw [Int.toNat_natCast] at e
  show ((((ref02OfBits fu (x : Int)).bind fun r2 => some (r2.1, ())).bind fun r1 => (ref02PartsBits fu r1.1).bind K)) = _
  cases hq : ref02OfBits fu (x : Int) with
  | none => rw [hq] at e; exact absurd e (by simp)
  | some r =>
    rw [hq] at e
    simp only [Option.bind_some] at e ⊢
    rw [e]; rfl
theorem putReal_eq' (fu : Nat) (hfu : 9 ≤ fu) (b : List Int) (x : Nat) (hl : b.length ≤ 400000) (hx : x < 18446744073709551616) : packPutRealDat fu b x = some (b ++ bytes8 (canon x), ()) := by
  have := putReal_eq (fu - 9) b x hl hx
  rwa [show fu - 9 + 9 = fu by omega] at this
theorem refPut_rounds (fu : Nat) (k2 : Int → List Int → Option (((List Int) × Unit) × (Unit))) : ∀ (k m : Nat) (n : Int) (out : List Int), k < m → 0 ≤ n → n < 128 ^ (k + 1) → n < 18446744073709551616 → out.length + k ≤ 500000 →
    ∃ last init, putN k n = init ++ [last] ∧ 0 ≤ last ∧ last < 128 ∧ ref03Put.l3 fu k2 m n out = k2 last (out ++ init) := by
  intro k
  induction k with
  | zero =>
    intro m n out hm h0 h1 _ hl
    obtain ⟨m, rfl⟩ : ∃ j, m = j + 1 := ⟨m - 1, by omega⟩
    have hn : ¬ n ≥ 128 := by have : (128 : Int) ^ (0 + 1) = 128 := by decide
                              omega
    refine ⟨n, [], by simp [putN], h0, by omega, ?_⟩
    unfold ref03Put.l3 ref03Put.b3
    simp [hn]
  | succ k ih =>
    intro m n out hm h0 h1 h64 hl
    obtain ⟨m, rfl⟩ : ∃ j, m = j + 1 := ⟨m - 1, by omega⟩
    unfold ref03Put.l3 ref03Put.b3 putN
    by_cases hn : n ≥ 128
    · have t1 : Int.tmod n 128 = n % 128 := Int.tmod_eq_emod_of_nonneg h0
      have t2 : Int.tdiv n 128 = n / 128 := Int.tdiv_eq_ediv_of_nonneg h0
      have e1 : IntKind.u64.wrap (n / 128) = n / 128 := wrap_u64 (by omega) (by omega)
      have e2 : IntKind.u8.wrap (IntKind.u64.wrap (n % 128 + 128)) = n % 128 + 128 := by rw [wrap_u64 (by omega) (by omega), wrap_u8]; omega
      rw [pow_succ128] at h1
      obtain ⟨last, init, q1, q2, q3, q4⟩ := ih m (n / 128) (out ++ [n % 128 + 128]) (by omega) (by omega) (by omega) (by omega) (by simp; omega)
      refine ⟨last, (n % 128 + 128) :: init, by rw [if_pos hn, q1]; rfl, q2, q3, ?_⟩
      have e3 : apOk out [n % 128 + 128] 1 = true := apOk1 (by simp; omega)
      simp only [hn, decide_true, cond_true, t1, t2, e1, e2, e3, chk]
      rw [q4, List.append_assoc]
      rfl
    · refine ⟨n, [], by rw [if_neg hn]; rfl, h0, by omega, ?_⟩
      simp [hn]
theorem refPut_eq (fu : Nat) (hfu : 12 ≤ fu) (b : List Int) (n : Int) (hl : b.length ≤ 400000) (h0 : 0 ≤ n) (h1 : n < 18446744073709551616) : ref03Put fu b n = some ((b ++ putN 9 n, ()), ()) := by
  have hp : (128 : Int) ^ (9 + 1) = 1180591620717411303424 := by decide
  obtain ⟨last, init, p1, p2, p3, p4⟩ := refPut_rounds fu (fun nq2 outq2 => 
      chk (apOk outq2 ([IntKind.u8.wrap nq2]) 1) <|
      let t3 := outq2 ++ ([IntKind.u8.wrap nq2])
      some ((t3, ()), (()))) 9 fu n b (by omega) h0 (by omega) h1 (by omega)
  have hlen := putN_len 9 n
  rw [p1] at hlen
  simp only [List.length_append, List.length_cons, List.length_nil] at hlen
  have e1 : IntKind.u8.wrap last = last := by rw [wrap_u8]; omega
  have e2 : apOk (b ++ init) [last] 1 = true := apOk1 (by simp; omega)
  have e3 : apOk ([] : List Int) b 1 = true := apOk1 (by simp; omega)
  unfold ref03Put
  simp only [e3, chk, cond_true, List.nil_append]
  refine p4.trans ?_
  simp only [e1, e2, chk, cond_true, p1, List.append_assoc]
theorem refPutD_rounds (fu : Nat) (k2 : Int → List Int → Option ((List Int) × Unit)) : ∀ (k m : Nat) (n : Int) (out : List Int), k < m → 0 ≤ n → n < 128 ^ (k + 1) → n < 18446744073709551616 → out.length + k ≤ 500000 →
    ∃ last init, putN k n = init ++ [last] ∧ 0 ≤ last ∧ last < 128 ∧ ref03PutDat.l3 fu k2 m n out = k2 last (out ++ init) := by
  intro k
  induction k with
  | zero =>
    intro m n out hm h0 h1 _ hl
    obtain ⟨m, rfl⟩ : ∃ j, m = j + 1 := ⟨m - 1, by omega⟩
    have hn : ¬ n ≥ 128 := by have : (128 : Int) ^ (0 + 1) = 128 := by decide
                              omega
    refine ⟨n, [], by simp [putN], h0, by omega, ?_⟩
    unfold ref03PutDat.l3 ref03PutDat.b3
    simp [hn]
  | succ k ih =>
    intro m n out hm h0 h1 h64 hl
    obtain ⟨m, rfl⟩ : ∃ j, m = j + 1 := ⟨m - 1, by omega⟩
    unfold ref03PutDat.l3 ref03PutDat.b3 putN
    by_cases hn : n ≥ 128
    · have t1 : Int.tmod n 128 = n % 128 := Int.tmod_eq_emod_of_nonneg h0
      have t2 : Int.tdiv n 128 = n / 128 := Int.tdiv_eq_ediv_of_nonneg h0
      have e1 : IntKind.u64.wrap (n / 128) = n / 128 := wrap_u64 (by omega) (by omega)
      have e2 : IntKind.u8.wrap (IntKind.u64.wrap (n % 128 + 128)) = n % 128 + 128 := by rw [wrap_u64 (by omega) (by omega), wrap_u8]; omega
      rw [pow_succ128] at h1
      obtain ⟨last, init, q1, q2, q3, q4⟩ := ih m (n / 128) (out ++ [n % 128 + 128]) (by omega) (by omega) (by omega) (by omega) (by simp; omega)
      refine ⟨last, (n % 128 + 128) :: init, by rw [if_pos hn, q1]; rfl, q2, q3, ?_⟩
      have e3 : apOk out [n % 128 + 128] 1 = true := apOk1 (by simp; omega)
      simp only [hn, decide_true, cond_true, t1, t2, e1, e2, e3, chk]
      rw [q4, List.append_assoc]
      rfl
    · refine ⟨n, [], by rw [if_neg hn]; rfl, h0, by omega, ?_⟩
      simp [hn]
theorem refPutD_eq (fu : Nat) (hfu : 12 ≤ fu) (b : List Int) (n : Int) (hl : b.length ≤ 400000) (h0 : 0 ≤ n) (h1 : n < 18446744073709551616) : ref03PutDat fu b n = some (b ++ putN 9 n, ()) := by
  have hp : (128 : Int) ^ (9 + 1) = 1180591620717411303424 := by decide
  obtain ⟨last, init, p1, p2, p3, p4⟩ := refPutD_rounds fu (fun nq2 outq2 => 
      chk (apOk outq2 ([IntKind.u8.wrap nq2]) 1) <|
      let t3 := outq2 ++ ([IntKind.u8.wrap nq2])
      some (t3, ())) 9 fu n b (by omega) h0 (by omega) h1 (by omega)
  have hlen := putN_len 9 n
  rw [p1] at hlen
  simp only [List.length_append, List.length_cons, List.length_nil] at hlen
  have e1 : IntKind.u8.wrap last = last := by rw [wrap_u8]; omega
  have e2 : apOk (b ++ init) [last] 1 = true := apOk1 (by simp; omega)
  have e3 : apOk ([] : List Int) b 1 = true := apOk1 (by simp; omega)
  unfold ref03PutDat
  simp only [e3, chk, cond_true, List.nil_append]
  refine p4.trans ?_
  simp only [e1, e2, chk, cond_true, p1, List.append_assoc]
theorem zig_fits {n : Int} (h0 : -9223372036854775808 ≤ n) (h1 : n < 9223372036854775808) : 0 ≤ zig n ∧ zig n < 18446744073709551616 := by
  unfold zig; split <;> omega
theorem refPutInt_eq (fu : Nat) (hfu : 12 ≤ fu) (b : List Int) (n : Int) (hl : b.length ≤ 400000) (h0 : -9223372036854775808 ≤ n) (h1 : n < 9223372036854775808) : ref03PutIntDat fu b n = some (b ++ putN 9 (zig n), ()) := by
  unfold ref03PutIntDat
  by_cases h : n ≥ 0
  · have e1 : IntKind.u64.wrap n = n := wrap_u64 (by omega) (by omega)
    have e2 : IntKind.u64.wrap (2 * n) = zig n := by rw [wrap_u64 (by omega) (by omega)]; unfold zig; rw [if_pos h]
    have hz := zig_fits h0 h1
    simp only [decide_eq_true h, cond_true, e1, e2, refPutD_eq fu hfu b _ hl hz.1 hz.2, Option.bind_some]
  · have e0 : IntKind.i64.wrap (n + 1) = n + 1 := wrap_i64 (by omega) (by omega)
    have e3 : IntKind.i64.wrap (0 - (n + 1)) = -n - 1 := by rw [wrap_i64 (by omega) (by omega)]; omega
    have e1 : IntKind.u64.wrap (-n - 1) = -n - 1 := wrap_u64 (by omega) (by omega)
    have e4 : IntKind.u64.wrap (2 * (-n - 1)) = 2 * (-n - 1) := wrap_u64 (by omega) (by omega)
    have e2 : IntKind.u64.wrap (2 * (-n - 1) + 1) = zig n := by rw [wrap_u64 (by omega) (by omega)]; unfold zig; rw [if_neg h]; omega
    have hz := zig_fits h0 h1
    simp only [decide_eq_false h, cond_false, e0, e3, e1, e4, e2, refPutD_eq fu hfu b _ hl hz.1 hz.2, Option.bind_some]
theorem refPutText_eq (fu : Nat) (hfu : 12 ≤ fu) (b s : List Int) (hl : b.length ≤ 400000) (hs : s.length ≤ 400000) : ref03PutTextDat fu b s = some (b ++ putN 9 s.length ++ s, ()) := by
  unfold ref03PutTextDat
  have e1 : IntKind.u64.wrap (s.length : Int) = s.length := wrap_u64 (by omega) (by omega)
  have := putN_len 9 s.length
  have e2 : apOk (b ++ putN 9 s.length) s 1 = true := apOk1 (by rw [List.length_append]; omega)
  simp only [e1, refPut_eq fu hfu b s.length hl (by omega) (by omega), Option.bind_some, e2, chk, cond_true]
theorem refReal_step (fu : Nat) (k2 : List Int → List Int → Option ((List Int) × Unit)) (m k : Nat) (hk : k < 8) (out : List Int) (n : Int) (h0 : 0 ≤ n) (h1 : n < 18446744073709551616) (c0 : List Int) (hc : c0.length = 8) :
    ref03PutRealDat.l6 fu k2 (m + 1) out n (k : Int) c0 = ref03PutRealDat.l6 fu k2 m out (n / 256) ((k : Int) - 1) (c0.set k (n % 256)) := by
  have t1 : Int.tmod n 256 = n % 256 := Int.tmod_eq_emod_of_nonneg h0
  have t2 : Int.tdiv n 256 = n / 256 := Int.tdiv_eq_ediv_of_nonneg h0
  have e1 : IntKind.u8.wrap (n % 256) = n % 256 := by rw [wrap_u8]; omega
  have e2 : IntKind.u64.wrap (n / 256) = n / 256 := wrap_u64 (by omega) (by omega)
  have e3 : IntKind.i64.wrap ((k : Int) - 1) = k - 1 := wrap_i64 (by omega) (by omega)
  have e4 : ixArr 8 (k : Int) = true := by unfold ixArr; simp; omega
  have e5 : nOk c0 8 = true := by unfold nOk; rw [hc]; rfl
  conv => lhs; unfold ref03PutRealDat.l6 ref03PutRealDat.b6
  simp only [decide_eq_true (show (k : Int) ≥ 0 by omega), cond_true, t1, t2, e1, e2, e3, e4, e5, chk, stL, Int.toNat_natCast]
theorem refReal_end (fu : Nat) (k2 : List Int → List Int → Option ((List Int) × Unit)) (m : Nat) (out : List Int) (n : Int) (c0 : List Int) : ref03PutRealDat.l6 fu k2 (m + 1) out n (-1) c0 = k2 out c0 := by
  unfold ref03PutRealDat.l6 ref03PutRealDat.b6
  rfl
theorem refReal_rounds8 (fu : Nat) (k2 : List Int → List Int → Option ((List Int) × Unit)) (f : Nat) (out : List Int) (n : Int) (h0 : 0 ≤ n) (h1 : n < 18446744073709551616) :
    ref03PutRealDat.l6 fu k2 (f + 9) out n 7 (List.replicate 8 0) = k2 out (bytes8 n) := by
  refine (refReal_step _ _ (f + 8) 7 (by omega) out n h0 h1 _ rfl).trans ?_
  refine (refReal_step _ _ (f + 7) 6 (by omega) out _ (by omega) (by omega) _ (by simp)).trans ?_
  refine (refReal_step _ _ (f + 6) 5 (by omega) out _ (by omega) (by omega) _ (by simp)).trans ?_
  refine (refReal_step _ _ (f + 5) 4 (by omega) out _ (by omega) (by omega) _ (by simp)).trans ?_
  refine (refReal_step _ _ (f + 4) 3 (by omega) out _ (by omega) (by omega) _ (by simp)).trans ?_
  refine (refReal_step _ _ (f + 3) 2 (by omega) out _ (by omega) (by omega) _ (by simp)).trans ?_
  refine (refReal_step _ _ (f + 2) 1 (by omega) out _ (by omega) (by omega) _ (by simp)).trans ?_
  refine (refReal_step _ _ (f + 1) 0 (by omega) out _ (by omega) (by omega) _ (by simp)).trans ?_
  refine (refReal_end _ _ f _ _ _).trans ?_
  congr 1
  have d1 : n / 256 / 256 = n / 65536 := by omega
  have d2 : n / 65536 / 256 = n / 16777216 := by omega
  have d3 : n / 16777216 / 256 = n / 4294967296 := by omega
  have d4 : n / 4294967296 / 256 = n / 1099511627776 := by omega
  have d5 : n / 1099511627776 / 256 = n / 281474976710656 := by omega
  have d6 : n / 281474976710656 / 256 = n / 72057594037927936 := by omega
  simp only [d1, d2, d3, d4, d5, d6]
  rfl
theorem refPutReal_eq (fu : Nat) (hfu : 9 ≤ fu) (b : List Int) (x : Nat) (hl : b.length ≤ 400000) (hx : F64 x) : ref03PutRealDat fu b x = some (b ++ bytes8 (canon x), ()) := by
  obtain ⟨f, rfl⟩ : ∃ f, fu = f + 9 := ⟨fu - 9, by omega⟩
  have hc := canon_fits x hx
  unfold ref03PutRealDat
  rw [show apOk ([] : List Int) b 1 = true from apOk1 (by simp; omega)]
  simp only [chk, cond_true]
  rw [refBits_bind (f + 9) hx]
  have e1 : mkMut (8 : Int) (8 : Int) 1 = true := by decide
  rw [e1, show (8 : Int).toNat = 8 from rfl]
  simp only [cond_true]
  rw [refReal_rounds8 _ _ f _ _ hc.1 hc.2]
  have e2 : nOk (bytes8 (canon x)) 8 = true := rfl
  have e3 : apOk b (bytes8 (canon x)) 1 = true := apOk1 (by simp [bytes8]; omega)
  simp only [List.nil_append, e2, e3, Bool.and_true, cond_true]
theorem putNat_eq (fu : Nat) (hfu : 12 ≤ fu) (b : List Int) (n : Int) (hl : b.length ≤ 400000) (h0 : 0 ≤ n) (h1 : n < 18446744073709551616) : packPutDat fu b n = some (b ++ putN 9 n, ()) := (put_eq fu hfu b n hl h0 h1).2
/-! ### How long a number's writing is -/
def Bl (x : Nat) (t : Nat) : Prop := (x = 0 ∧ t = 0) ∨ (1 ≤ t ∧ 2 ^ (t - 1) ≤ x ∧ x < 2 ^ t)
theorem Bl.up {x t : Nat} (k : Nat) (h : Bl (x / 2 ^ k) t) (hx : 2 ^ k ≤ x) : Bl x (t + k) := by
  have hp : 0 < 2 ^ k := Nat.pos_of_ne_zero (by simp)
  rcases h with ⟨h1, _⟩ | ⟨h1, h2, h3⟩
  · have := Nat.div_pos hx hp; omega
  · refine .inr ⟨by omega, ?_, ?_⟩
    · rw [show t + k - 1 = (t - 1) + k by omega, Nat.pow_add]
      exact (Nat.le_div_iff_mul_le hp).1 h2
    · rw [Nat.pow_add]
      exact (Nat.div_lt_iff_lt_mul hp).1 h3
theorem tab8_bl (m : Fin 256) : ∃ t : Nat, ixL 0 tab8 (m.val : Int) = (t : Int) ∧ t ≤ 8 ∧ Bl m.val t := by
  have key : ∀ m : Fin 256, ixL 0 tab8 (m.val : Int) = ((ixL 0 tab8 (m.val : Int)).toNat : Int) ∧ (ixL 0 tab8 (m.val : Int)).toNat ≤ 8 ∧ ((m.val = 0 ∧ (ixL 0 tab8 (m.val : Int)).toNat = 0) ∨ (1 ≤ (ixL 0 tab8 (m.val : Int)).toNat ∧ 2 ^ ((ixL 0 tab8 (m.val : Int)).toNat - 1) ≤ m.val ∧ m.val < 2 ^ (ixL 0 tab8 (m.val : Int)).toNat)) := by decide +kernel
  exact ⟨_, (key m).1, (key m).2.1, (key m).2.2⟩
theorem blen_j7 (fu : Nat) k1 (x n : Nat) (h1 : x < 65536) (hn1 : n ≤ 100) : ∃ r : Nat, bitsLen64.j7 fu k1 (x : Int) (n : Int) = k1 ((n + r : Nat) : Int) ∧ r ≤ 16 ∧ Bl x r := by
  unfold bitsLen64.j7
  rw [show ([0, 1, 2, 2, 3, 3, 3, 3, 4, 4, 4, 4, 4, 4, 4, 4, 5, 5, 5, 5, 5, 5, 5, 5, 5, 5, 5, 5, 5, 5, 5, 5, 6, 6, 6, 6, 6, 6, 6, 6, 6, 6, 6, 6, 6, 6, 6, 6, 6, 6, 6, 6, 6, 6, 6, 6, 6, 6, 6, 6, 6, 6, 6, 6, 7, 7, 7, 7, 7, 7, 7, 7, 7, 7, 7, 7, 7, 7, 7, 7, 7, 7, 7, 7, 7, 7, 7, 7, 7, 7, 7, 7, 7, 7, 7, 7, 7, 7, 7, 7, 7, 7, 7, 7, 7, 7, 7, 7, 7, 7, 7, 7, 7, 7, 7, 7, 7, 7, 7, 7, 7, 7, 7, 7, 7, 7, 7, 7, 8, 8, 8, 8, 8, 8, 8, 8, 8, 8, 8, 8, 8, 8, 8, 8, 8, 8, 8, 8, 8, 8, 8, 8, 8, 8, 8, 8, 8, 8, 8, 8, 8, 8, 8, 8, 8, 8, 8, 8, 8, 8, 8, 8, 8, 8, 8, 8, 8, 8, 8, 8, 8, 8, 8, 8, 8, 8, 8, 8, 8, 8, 8, 8, 8, 8, 8, 8, 8, 8, 8, 8, 8, 8, 8, 8, 8, 8, 8, 8, 8, 8, 8, 8, 8, 8, 8, 8, 8, 8, 8, 8, 8, 8, 8, 8, 8, 8, 8, 8, 8, 8, 8, 8, 8, 8, 8, 8, 8, 8, 8, 8, 8, 8, 8, 8, 8, 8, 8, 8, 8, 8, 8, 8, 8, 8, 8, 8] : List Int) = tab8 from rfl]
  have fits : ∀ y : Int, 0 ≤ y → y ≤ 1000 → IntKind.i64.wrap y = y := fun y a b => wrap_i64 (by omega) (by omega)
  have tab : ∀ y : Nat, y < 256 → ∃ t : Nat, ixL 0 tab8 (y : Int) = (t : Int) ∧ t ≤ 8 ∧ Bl y t := fun y hy => tab8_bl ⟨y, hy⟩
  by_cases h : (x : Int) ≥ 256
  · have e1 : sShr .u64 (x : Int) 8 = ((x / 256 : Nat) : Int) := by have := shr_eq (x : Int) 8 (by omega); rw [show ((8 : Nat) : Int) = 8 from rfl] at this; rw [this]; omega
    have e2 : IntKind.u8.wrap ((x / 256 : Nat) : Int) = ((x / 256 : Nat) : Int) := by rw [wrap_u8]; omega
    obtain ⟨q1, q2, q3⟩ := tab8_ok ((x / 256 : Nat) : Int) (by omega) (by omega)
    obtain ⟨t, t1, t2, t3⟩ := tab (x / 256) (by omega)
    simp only [h, decide_true, cond_true, e1, e2, q1, t1, chk]
    rw [fits ((n : Int) + 8) (by omega) (by omega), fits (t : Int) (by omega) (by omega), fits _ (by omega) (by omega)]
    refine ⟨t + 8, ?_, by omega, Bl.up 8 t3 (by omega)⟩
    rw [show (n : Int) + 8 + (t : Int) = ((n + (t + 8) : Nat) : Int) by omega]
  · obtain ⟨q1, q2, q3⟩ := tab8_ok (x : Int) (by omega) (by omega)
    have e2 : IntKind.u8.wrap (x : Int) = x := by rw [wrap_u8]; omega
    obtain ⟨t, t1, t2, t3⟩ := tab x (by omega)
    simp only [h, decide_false, cond_false, e2, q1, t1, chk, cond_true]
    rw [fits (t : Int) (by omega) (by omega), fits _ (by omega) (by omega)]
    exact ⟨t, by rw [show (n : Int) + (t : Int) = ((n + t : Nat) : Int) by omega], by omega, t3⟩
theorem blen_j4 (fu : Nat) k1 (x n : Nat) (h1 : x < 4294967296) (hn1 : n ≤ 64) : ∃ r : Nat, bitsLen64.j4 fu k1 (x : Int) (n : Int) = k1 ((n + r : Nat) : Int) ∧ r ≤ 32 ∧ Bl x r := by
  unfold bitsLen64.j4
  by_cases h : (x : Int) ≥ 65536
  · have e1 : sShr .u64 (x : Int) 16 = ((x / 65536 : Nat) : Int) := by have := shr_eq (x : Int) 16 (by omega); rw [show ((16 : Nat) : Int) = 16 from rfl] at this; rw [this]; omega
    have e2 : IntKind.i64.wrap ((n : Int) + 16) = ((n + 16 : Nat) : Int) := by rw [wrap_i64 (by omega) (by omega)]; omega
    simp only [h, decide_true, cond_true, e1, e2]
    obtain ⟨r, h1, h2, h3⟩ := blen_j7 fu (fun q => k1 q) (x / 65536) (n + 16) (by omega) (by omega)
    refine ⟨r + 16, by rw [h1]; congr 1; omega, by omega, Bl.up 16 h3 (by omega)⟩
  · simp only [h, decide_false, cond_false]
    obtain ⟨r, h1, h2, h3⟩ := blen_j7 fu (fun q => k1 q) x n (by omega) (by omega)
    exact ⟨r, h1, by omega, h3⟩
theorem blen_eq (fu : Nat) (n : Nat) (h1 : n < 18446744073709551616) : ∃ r : Nat, bitsLen64 fu (n : Int) = some ((r : Int), ()) ∧ r ≤ 64 ∧ Bl n r := by
  unfold bitsLen64
  by_cases h : (n : Int) ≥ 4294967296
  · have e1 : sShr .u64 (n : Int) 32 = ((n / 4294967296 : Nat) : Int) := by have := shr_eq (n : Int) 32 (by omega); rw [show ((32 : Nat) : Int) = 32 from rfl] at this; rw [this]; omega
    simp only [h, decide_true, cond_true, e1]
    obtain ⟨r, h1, h2, h3⟩ := blen_j4 fu (fun q => some (q, ())) (n / 4294967296) 32 (by omega) (by omega)
    rw [show ((32 : Nat) : Int) = 32 from rfl] at h1
    refine ⟨32 + r, h1, by omega, ?_⟩
    rw [Nat.add_comm]
    exact Bl.up 32 h3 (by omega)
  · simp only [h, decide_false, cond_false]
    obtain ⟨r, h1, h2, h3⟩ := blen_j4 fu (fun q => some (q, ())) n 0 (by omega) (by omega)
    rw [show ((0 : Nat) : Int) = 0 from rfl, Nat.zero_add] at h1
    exact ⟨r, h1, by omega, h3⟩
theorem putN_exact : ∀ (k n : Nat), n < 128 ^ (k + 1) → n < 128 ^ (putN k (n : Int)).length ∧ 1 ≤ (putN k (n : Int)).length ∧ ((putN k (n : Int)).length = 1 ∨ 128 ^ ((putN k (n : Int)).length - 1) ≤ n)
  | 0, n, h => ⟨by simpa [putN] using h, by simp [putN], .inl (by simp [putN])⟩
  | k + 1, n, h => by
    unfold putN
    by_cases hn : (n : Int) ≥ 128
    · rw [if_pos hn]
      have hd : n / 128 < 128 ^ (k + 1) := by rw [Nat.pow_succ] at h; exact (Nat.div_lt_iff_lt_mul (by omega)).2 h
      obtain ⟨q1, q2, q3⟩ := putN_exact k (n / 128) hd
      rw [show (n : Int) / 128 = ((n / 128 : Nat) : Int) by omega]
      have hlen : (((n : Int) % 128 + 128) :: putN k ((n / 128 : Nat) : Int)).length = (putN k ((n / 128 : Nat) : Int)).length + 1 := rfl
      rw [hlen]
      generalize (putN k ((n / 128 : Nat) : Int)).length = L at q1 q2 q3 ⊢
      refine ⟨?_, by omega, .inr ?_⟩
      · rw [Nat.pow_succ]; exact (Nat.div_lt_iff_lt_mul (by omega)).1 q1
      · rw [Nat.add_sub_cancel]
        rcases q3 with rfl | q3
        · omega
        · rw [show L = (L - 1) + 1 by omega, Nat.pow_succ]
          exact (Nat.le_div_iff_mul_le (by omega)).1 q3
    · rw [if_neg hn]
      exact ⟨by simp; omega, by simp, .inl rfl⟩
theorem size_eq (fu : Nat) (n : Int) (h0 : 0 ≤ n) (h1 : n < 18446744073709551616) : packSize fu n = some (((putN 9 n).length : Int), ()) := by
  obtain ⟨m, rfl⟩ := Int.eq_ofNat_of_zero_le h0
  obtain ⟨r, q1, q2, q3⟩ := blen_eq fu m (by omega)
  obtain ⟨p1, p2, p3⟩ := putN_exact 9 m (by omega)
  unfold packSize
  have e1 : IntKind.i64.wrap (max2 (r : Int) 1 + 6) = ((max r 1 + 6 : Nat) : Int) := by rw [max2_eq, wrap_i64 (by omega) (by omega)]; omega
  have e2 : Int.tdiv ((max r 1 + 6 : Nat) : Int) 7 = (((max r 1 + 6) / 7 : Nat) : Int) := by rw [Int.tdiv_eq_ediv_of_nonneg (by omega)]; omega
  have e3 : IntKind.i64.wrap (((max r 1 + 6) / 7 : Nat) : Int) = (((max r 1 + 6) / 7 : Nat) : Int) := wrap_i64 (by omega) (by omega)
  simp only [q1, Option.bind_some, e1, e2, e3]
  generalize (putN 9 (m : Int)).length = j at p1 p2 p3
  have hj : (max r 1 + 6) / 7 = j := by
    have p7 : ∀ k : Nat, (128 : Nat) ^ k = 2 ^ (7 * k) := fun k => by rw [Nat.pow_mul]
    rcases q3 with ⟨rfl, rfl⟩ | ⟨h1, h2, h3⟩
    · rcases p3 with rfl | p3
      · rfl
      · have : 0 < 128 ^ (j - 1) := Nat.pos_of_ne_zero (by simp)
        omega
    · have a1 : r - 1 < 7 * j := by
        have : 2 ^ (r - 1) < 2 ^ (7 * j) := by rw [← p7]; omega
        exact (Nat.pow_lt_pow_iff_right (by omega)).1 this
      have a2 : j = 1 ∨ 7 * (j - 1) < r := by
        rcases p3 with h | h
        · exact .inl h
        · right
          have : 2 ^ (7 * (j - 1)) < 2 ^ r := by rw [← p7]; omega
          exact (Nat.pow_lt_pow_iff_right (by omega)).1 this
      omega
  rw [hj]
/-! ### The room -/
theorem zeros_rounds (fu : Nat) k1 k2 (b : List Int) (n i : Int) (sv : List Int) (xv : Nat) (o1 o2 o3 o4 : List Int) (N : Nat) (hN : N ≤ 1000) : ∀ (m j : Nat), j ≤ N → N < j + m → law03PackPuts.l8 fu k1 k2 m b n i sv xv o1 o2 o3 o4 (List.replicate N 0) N j = k2 b n i sv xv o1 o2 o3 o4 := by
  intro m
  induction m with
  | zero => intro j h1 h2; omega
  | succ m ih =>
    intro j h1 h2
    unfold law03PackPuts.l8 law03PackPuts.b8
    by_cases h : (j : Int) < (N : Int)
    · have e1 : ixOk (List.replicate N (0 : Int)) (j : Int) = true := by unfold ixOk; simp; omega
      have e2 : ixL (0 : Int) (List.replicate N (0 : Int)) (j : Int) = 0 := by
        unfold ixL
        rw [Int.toNat_natCast]
        simp [List.getD, show j < N by omega]
      have e3 : IntKind.i64.wrap ((j : Int) + 1) = ((j + 1 : Nat) : Int) := by rw [wrap_i64 (by omega) (by omega)]; omega
      simp only [decide_eq_true h, cond_true, e1, e2, chk, bne_self_eq_false, cond_false, e3]
      exact ih (j + 1) (by omega) (by omega)
    · simp only [decide_eq_false h, cond_false]
/-- THE LAW. -/
theorem lawPackPuts (b : List Int) (n i : Int) (s : List Int) (bits : Int) (h : okAll law03PackPuts.con.ps (b, n, i, s, bits, ())) : law03PackPuts 6000 b n i s bits = some (true, ()) := by
  have fixed : law03Fixed 6000 = some (true, ()) := by kernel_rfl
  unfold law03PackPuts
  by_cases h1 : (b.length : Int) > 2000
  · simp only [decide_eq_true h1, cond_true, fixed, Option.bind_some]
  by_cases h2 : (s.length : Int) > 2000
  · simp only [decide_eq_false h1, decide_eq_true h2, cond_true, cond_false, fixed, Option.bind_some]
  have hb := byOf h.1
  have hn : 0 ≤ n ∧ n < 18446744073709551616 := u64Of h.2.1
  have hi : -9223372036854775808 ≤ i ∧ i < 9223372036854775808 := i64Of h.2.2.1
  have hs : By s := h.2.2.2.1.2
  have hbits : 0 ≤ bits ∧ bits < 18446744073709551616 := u64Of h.2.2.2.2.1
  clear h
  have hx : bits.toNat < 18446744073709551616 := by omega
  generalize hxe : bits.toNat = x at hx
  have ef : ∀ {β : Type} (K : (Kd.struct extFrom.rs).T → Option β), (extFrom.f 6000 (bits, ())).bind K = K (x, ()) := fun K => by rw [← hxe]; rfl
  have e6 : IntKind.i64.wrap ((b.length : Int) + 64) = ((b.length + 64 : Nat) : Int) := by rw [wrap_i64 (by omega) (by omega)]; omega
  have em : mkOk 0 ((b.length + 64 : Nat) : Int) 1 = true := by
    have hL : (1000000 : Int) ≤ (LIM : Int) := by decide
    unfold mkOk
    simp only [Bool.and_eq_true, decide_eq_true_eq]
    omega
  have ez : (0 : Int).toNat = 0 := rfl
  simp only [decide_eq_false h1, decide_eq_false h2, cond_false, e6, em, Int.toNat_natCast, ez, Nat.zero_add, List.take_zero, List.nil_append, List.drop_replicate, Nat.add_sub_cancel_left]
  have n1 : nOk (List.replicate (b.length + 64) (0 : Int)) (b.length + 64) = true := by unfold nOk; simp
  have n2 : nOk (b ++ List.replicate 64 (0 : Int)) (b.length + 64) = true := by unfold nOk; simp
  have n3 : Nat.ble b.length (b.length + 64) = true := Nat.ble_eq_true_of_le (by omega)
  have n4 : Nat.ble b.length (b ++ List.replicate 64 (0 : Int)).length = true := Nat.ble_eq_true_of_le (by simp)
  have n5 : Nat.ble 0 (b ++ List.replicate 64 (0 : Int)).length = true := Nat.ble_eq_true_of_le (by omega)
  have n6 : List.take b.length (b ++ List.replicate 64 (0 : Int)) = b := by simp
  have n7 : cutOk (b ++ List.replicate 64 (0 : Int)) (b.length : Int) ((b ++ List.replicate 64 (0 : Int)).length : Int) = true := cutOk_of (by omega) (by simp; omega) (by omega)
  have n8 : cutL (b ++ List.replicate 64 (0 : Int)) (b.length : Int) ((b ++ List.replicate 64 (0 : Int)).length : Int) = List.replicate 64 (0 : Int) := by
    unfold cutL
    rw [Int.toNat_natCast, List.drop_left]
    rw [List.take_of_length_le]
    simp; omega
  rw [ef]
  simp only [n1, n2, n3, n4, n5, n6, n7, n8, chk, Bool.and_self, decide_true, cond_true]
  rw [putNat_eq 6000 (by omega) b n (by omega) hn.1 hn.2, putInt_eq 6000 (by omega) b i (by omega) hi.1 hi.2, putText_eq 6000 (by omega) b s (by omega) (by omega), putReal_eq' 6000 (by omega) b x (by omega) hx]
  simp only [Option.bind_some]
  have := zeros_rounds 6000 (fun vq3 => some (vq3, ())) (fun bq4 nq4 iq4 svq4 xvq4 oneq4 twoq4 threeq4 fourq4 => 
          (law03Fixed 6000).bind fun r17 =>
          cond r17.1 (
            (ref03PutDat 6000 bq4 nq4).bind fun r18 =>
            cond (oneq4 == r18.1) (
              (ref03PutIntDat 6000 bq4 iq4).bind fun r19 =>
              cond (twoq4 == r19.1) (
                (ref03PutTextDat 6000 bq4 svq4).bind fun r20 =>
                cond (threeq4 == r20.1) (
                  (ref03PutRealDat 6000 bq4 xvq4).bind fun r21 =>
                  cond (fourq4 == r21.1) (
                    (packSize 6000 nq4).bind fun r22 =>
                    let t23 := IntKind.i64.wrap ((bq4.length : Int) + r22.1)
                    let t24 := (oneq4.length : Int) == t23
                    some (t24, ())) (
                    some (false, ()))) (
                  some (false, ()))) (
                some (false, ()))) (
              some (false, ()))) (
            some (false, ()))) b n i s x (b ++ putN 9 n) (b ++ putN 9 (zig i)) (b ++ putN 9 s.length ++ s) (b ++ bytes8 (canon x)) 64 (by omega) 6000 0 (by omega) (by omega)
  rw [List.length_replicate]
  refine this.trans ?_
  have hl9 := putN_len 9 n
  rw [fixed, refPutD_eq 6000 (by omega) b n (by omega) hn.1 hn.2, refPutInt_eq 6000 (by omega) b i (by omega) hi.1 hi.2, refPutText_eq 6000 (by omega) b s (by omega) (by omega), refPutReal_eq 6000 (by omega) b x (by omega) hx, size_eq 6000 n hn.1 hn.2]
  have e9 : IntKind.i64.wrap ((b.length : Int) + ((putN 9 n).length : Int)) = ((b ++ putN 9 n).length : Int) := by rw [wrap_i64 (by omega) (by omega)]; simp
  simp only [Option.bind_some, beq_self_eq_true, cond_true, e9]

end Go.Shal.Pr
