/- The plain laws of values. By an AI agent. -/
import Derived.Test.YtfnhgbonlbemhaaGen04
set_option linter.unusedVariables false
namespace Go.Shal.Pr
open Go Go.Shal Go.Proofs
theorem wrap_u64 {x : Int} (h0 : 0 ≤ x) (h1 : x < 18446744073709551616) : IntKind.u64.wrap x = x := by
  simp only [IntKind.wrap, IntKind.signed, IntKind.bits]
  simp
  omega
theorem wrap_i64 {x : Int} (h0 : -9223372036854775808 ≤ x) (h1 : x < 9223372036854775808) : IntKind.i64.wrap x = x := by
  simp only [IntKind.wrap, IntKind.signed, IntKind.bits]
  simp
  omega
theorem wrap_u8 (x : Int) : IntKind.u8.wrap x = x % 256 := by
  simp only [IntKind.wrap, IntKind.signed, IntKind.bits]
  simp
theorem min2_eq (x y : Int) : min2 x y = min x y := by unfold min2; split <;> omega
theorem max2_eq (x y : Int) : max2 x y = max x y := by unfold max2; split <;> omega
/-- Bytes. -/
def By (l : List Int) : Prop := ∀ b ∈ l, (0 : Int) ≤ b ∧ b ≤ 255
theorem by_tail {c : Int} {l : List Int} (h : By (c :: l)) : By l := fun b hb => h b (List.mem_cons_of_mem _ hb)
theorem by_cut {l : List Int} (h : By l) (a e : Int) : By (cutL l a e) := fun b hb => h b (List.mem_of_mem_drop (List.mem_of_mem_take hb))

/-- The bits of a sum that meets no carry. -/
theorem or_add (n a : Nat) (k : Nat) (h : n < 2 ^ k) (ht : n + a * 2 ^ k < 18446744073709551616) : bOr .u64 (n : Int) ((a * 2 ^ k : Nat) : Int) = (n + a * 2 ^ k : Nat) := by
  show IntKind.u64.wrap (((BitVec.ofInt 64 (n : Int) ||| BitVec.ofInt 64 ((a * 2 ^ k : Nat) : Int)).toNat : Nat) : Int) = _
  rw [BitVec.ofInt_natCast, BitVec.ofInt_natCast]
  have h1 : n < 2 ^ 64 := by omega
  have h2 : a * 2 ^ k < 2 ^ 64 := by omega
  rw [BitVec.toNat_or, BitVec.toNat_ofNat, BitVec.toNat_ofNat, Nat.mod_eq_of_lt h1, Nat.mod_eq_of_lt h2, Nat.or_comm, Nat.mul_comm a, ← Nat.two_pow_add_eq_or_of_lt h]
  rw [Nat.mul_comm a] at ht
  rw [wrap_u64 (by omega) (by omega)]
  omega
theorem shl_eq (x : Int) (k : Nat) (hk : k < 64) (h0 : 0 ≤ x) (h : x * 2 ^ k < 18446744073709551616) : sShl .u64 x (k : Int) = x * 2 ^ k := by
  unfold sShl
  have e : min (k : Int).toNat IntKind.u64.bits = k := by simp only [IntKind.bits]; omega
  rw [e]
  exact wrap_u64 (Int.mul_nonneg h0 (by exact_mod_cast Nat.zero_le _)) h
theorem shr_eq (x : Int) (k : Nat) (hk : k < 64) : sShr .u64 x (k : Int) = x / 2 ^ k := by
  unfold sShr
  have e : min (k : Int).toNat IntKind.u64.bits = k := by simp only [IntKind.bits]; omega
  rw [e, Int.fdiv_eq_ediv_of_nonneg]
  exact_mod_cast Nat.zero_le _
theorem byte_or (c : Int) (h0 : 0 ≤ c) (h : c ≤ 255) : bOr .u8 c 128 = c % 128 + 128 := by
  have key : ∀ m : Fin 256, bOr .u8 (m.val : Int) 128 = (m.val : Int) % 128 + 128 := by decide +kernel
  have := key ⟨c.toNat, by omega⟩
  simp only at this
  rw [show (c.toNat : Int) = c by omega] at this
  exact this
theorem byte_and (c : Int) (h0 : 0 ≤ c) (h : c ≤ 255) : bAnd .u8 c 127 = c % 128 := by
  have key : ∀ m : Fin 256, bAnd .u8 (m.val : Int) 127 = (m.val : Int) % 128 := by decide +kernel
  have := key ⟨c.toNat, by omega⟩
  simp only at this
  rw [show (c.toNat : Int) = c by omega] at this
  exact this

/-- What stands in front of a row of bytes: the number, how far it goes, the error. -/
def get1 : List Int → Nat → Int → Int × Int × Int
  | [], _, _ => (0, 0, 3)
  | c :: r, i, n => if i = 9 ∧ c > 1 then (0, 0, 4) else if c ≥ 128 then get1 r (i + 1) (n + (c - 128) * 128 ^ i) else if c = 0 ∧ i > 0 then (0, 0, 2) else (n + c * 128 ^ i, (i : Int) + 1, 0)
/-- An answer from a place on. -/
def from1 (at' : Int) (q : Int × Int × Int) : Int × Int × Int := (q.1, if q.2.2 = 0 then at' + q.2.1 else 0, q.2.2)
def got (b : List Int) (at' : Int) : Int × Int × Int := if at' < 0 ∨ at' > b.length then (0, 0, 3) else from1 at' (get1 (b.drop at'.toNat) 0 0)
theorem pow128 (i : Nat) : (128 : Int) ^ i = ((2 ^ (7 * i) : Nat) : Int) := by
  rw [Nat.pow_mul]; norm_cast
theorem pow128_9 {i : Nat} (h : i ≤ 9) : (1 : Int) ≤ 128 ^ i ∧ (128 : Int) ^ i ≤ 9223372036854775808 := by
  have h1 : 128 ^ i ≤ 128 ^ 9 := Nat.pow_le_pow_right (by omega) h
  have h0 : 0 < 128 ^ i := Nat.pow_pos (by omega)
  have e : (128 : Int) ^ i = ((128 ^ i : Nat) : Int) := by norm_cast
  rw [e]
  have : (128 : Nat) ^ 9 = 9223372036854775808 := by decide
  omega
theorem ixL_get {l : List Int} {i : Nat} (h : i < l.length) : ixL (0 : Int) l i = l[i] := by
  unfold ixL
  simp [List.getElem?_eq_getElem h]

def fin1 (k1 : Int → Int → Int → Option (Int × Int × Int × Unit)) (k2 : Unit → Option (Int × Int × Int × Unit)) (at' : Int) (q : Int × Int × Int) : Option (Int × Int × Int × Unit) :=
  if q.2.2 = 0 then k1 q.1 (at' + q.2.1) 0 else if q.2.2 = 3 then k2 () else k1 0 0 q.2.2
theorem get_rounds (fu : Nat) k1 k2 (at' : Int) (b : List Int) (hb : By b) (ha : 0 ≤ at' ∧ at' ≤ 100000) (hl : b.length ≤ 100000) : ∀ (m i : Nat) (n : Int), i ≤ b.length → b.length < i + m → 0 ≤ n → n < 128 ^ i →
    i ≤ 9 → packGet.l5 fu k1 k2 m at' n b b.length i = fin1 k1 k2 at' (get1 (b.drop i) i n) := by
  intro m
  induction m with
  | zero => intro i n h1 h2; omega
  | succ m ih =>
    intro i n h1 h2 hn0 hn hi9
    unfold packGet.l5 packGet.b5
    by_cases hil : i < b.length
    · have hil' : (i : Int) < b.length := by omega
      have hix : ixOk b i = true := by simp [ixOk, hil]
      have e1 : IntKind.i64.wrap ((i : Int) + 1) = (i + 1 : Nat) := wrap_i64 (by omega) (by omega)
      rw [List.drop_eq_getElem_cons hil]
      have hc := hb _ (List.getElem_mem hil)
      simp only [hil', decide_true, cond_true, chk, hix, ixL_get hil]
      generalize b[i] = c at hc
      have hp := pow128_9 hi9
      have hle : ∀ q : Int, 0 ≤ q → q ≤ 127 → (i = 9 → q ≤ 1) → q * 128 ^ i + n < 18446744073709551616 := fun q h0 h1 h9 => by
        rcases Nat.lt_or_ge i 9 with h | h
        · have h8 : (128 : Int) ^ i ≤ 72057594037927936 := by
            have h1 : 128 ^ i ≤ 128 ^ 8 := Nat.pow_le_pow_right (by omega) (by omega)
            have e : (128 : Int) ^ i = ((128 ^ i : Nat) : Int) := by norm_cast
            rw [e]
            have : (128 : Nat) ^ 8 = 72057594037927936 := by decide
            omega
          have : q * 128 ^ i ≤ 127 * 72057594037927936 := Int.mul_le_mul h1 h8 (by omega) (by omega)
          omega
        · have : i = 9 := by omega
          subst this
          have := h9 rfl
          have : q * 128 ^ 9 ≤ 1 * 9223372036854775808 := Int.mul_le_mul this (by decide) (by decide) (by omega)
          omega
      have j9 : ∀ (c : Int), 0 ≤ c → c ≤ 255 → (i = 9 → c ≤ 1) → ∀ K0 K1, packGet.j9 fu K0 K1 at' n i c b b.length i = (if c ≥ 128 then K0 at' (n + (c - 128) * 128 ^ i) b b.length i else if c = 0 ∧ i > 0 then K1 0 0 2 else K1 (n + c * 128 ^ i) (at' + ((i : Int) + 1)) 0) := by
        intro c hc0 hc1 h9 K0 K1
        unfold packGet.j9 packGet.j50013
        have e2 : IntKind.u64.wrap (bAnd .u8 c 127) = c % 128 := by rw [byte_and c hc0 hc1]; exact wrap_u64 (by omega) (by omega)
        have e3 : IntKind.i64.wrap ((7 : Int) * i) = (7 * i : Nat) := by rw [wrap_i64 (by omega) (by omega)]; omega
        have hq := hle (c % 128) (by omega) (by omega) (fun h => by have := h9 h; omega)
        have hnn : 0 ≤ (c % 128) * 128 ^ i := Int.mul_nonneg (by omega) (by omega)
        have e4 : sShl .u64 (c % 128) ((7 * i : Nat) : Int) = (c % 128) * 128 ^ i := by
          have hpp : (2 : Int) ^ (7 * i) = 128 ^ i := by rw [pow128]; norm_cast
          rw [shl_eq _ (7 * i) (by omega) (by omega) (by rw [hpp]; omega), hpp]
        have e5 : bOr .u64 n ((c % 128) * 128 ^ i) = n + (c % 128) * 128 ^ i := by
          obtain ⟨N, rfl⟩ := Int.eq_ofNat_of_zero_le hn0
          obtain ⟨a, ha⟩ := Int.eq_ofNat_of_zero_le (show 0 ≤ c % 128 by omega)
          rw [ha, pow128] at hq ⊢
          rw [pow128] at hn
          have hq' : N + a * 2 ^ (7 * i) < 18446744073709551616 := by
            have : ((N + a * 2 ^ (7 * i) : Nat) : Int) < 18446744073709551616 := by rw [Int.natCast_add, Int.natCast_mul]; omega
            omega
          have := or_add N a (7 * i) (by omega) hq'
          rw [Int.natCast_add, Int.natCast_mul] at this
          exact this
        have hneg : (decide (((7 * i : Nat) : Int) < 0)) = false := decide_eq_false (by omega)
        have e6 : IntKind.i64.wrap (at' + i) = at' + i := wrap_i64 (by omega) (by omega)
        have e7 : IntKind.i64.wrap (at' + i + 1) = at' + ((i : Int) + 1) := by rw [wrap_i64 (by omega) (by omega)]; omega
        simp only [e2, e3, e4, e5, hneg, chk, Bool.not_false, cond_true, e6, e7]
        by_cases h128 : c ≥ 128
        · have : c % 128 = c - 128 := by omega
          simp only [h128, decide_true, cond_true, this, if_true]
        · have : c % 128 = c := by omega
          simp only [h128, decide_false, cond_false, this, if_false]
          by_cases h0 : c = 0
          · subst h0
            by_cases hi0 : i > 0
            · simp [hi0]
            · simp [hi0]
          · have h0' : (c == 0) = false := beq_false_of_ne h0
            simp [h0, h0']
      unfold get1
      by_cases h9 : i = 9 ∧ c > 1
      · have h9' : ((i : Int) == 9) = true := by rw [h9.1]; rfl
        have h1' : decide (c > 1) = true := decide_eq_true h9.2
        simp [h9', h1', if_pos h9, fin1]
      · have hside : i = 9 → c ≤ 1 := fun h => by
          by_cases hx : c > 1
          · exact absurd ⟨h, hx⟩ h9
          · omega
        rw [if_neg h9]
        have both : ∀ X Y : Option (Int × Int × Int × Unit), (cond ((i : Int) == 9) (cond (decide (c > 1)) X Y) Y) = Y := fun X Y => by
          cases hx : ((i : Int) == 9) with
          | false => rfl
          | true =>
            have : c ≤ 1 := hside (by have := eq_of_beq hx; omega)
            have hd : decide (c > 1) = false := decide_eq_false (by omega)
            simp only [cond_true, hd, cond_false]
        rw [j9 c hc.1 hc.2 hside, both]
        by_cases h128 : c ≥ 128
        · have hi8 : i ≤ 8 := by
            rcases Nat.lt_or_ge i 9 with h | h
            · omega
            · have := hside (by omega); omega
          rw [if_pos h128, if_pos h128]
          simp only [e1]
          have hq : (c - 128) * 128 ^ i + n < 128 ^ (i + 1) := by
            rw [Int.pow_succ]
            have : (c - 128) * 128 ^ i ≤ 127 * 128 ^ i := Int.mul_le_mul_of_nonneg_right (by omega) (by omega)
            omega
          exact ih (i + 1) _ (by omega) (by omega) (by have : 0 ≤ (c - 128) * 128 ^ i := Int.mul_nonneg (by omega) (by omega); omega) (by omega) (by omega)
        · rw [if_neg h128, if_neg h128]
          by_cases h0 : c = 0 ∧ i > 0
          · rw [if_pos h0, if_pos h0]; simp [fin1]
          · rw [if_neg h0, if_neg h0]; simp [fin1]
    · have hx : ¬ (i : Int) < b.length := by omega
      rw [List.drop_of_length_le (by omega)]
      simp [hx, get1, fin1]

theorem get1_err : ∀ (l : List Int) (i : Nat) (n : Int), (get1 l i n).2.2 ≠ 0 → (get1 l i n).1 = 0 ∧ (get1 l i n).2.1 = 0 := by
  intro l
  induction l with
  | nil => intro i n _; exact ⟨rfl, rfl⟩
  | cons c r ih =>
    intro i n
    unfold get1
    split
    · intro _; exact ⟨rfl, rfl⟩
    · split
      · exact ih _ _
      · split
        · intro _; exact ⟨rfl, rfl⟩
        · intro h; exact absurd rfl h
theorem packGet_eq (fu : Nat) (b : List Int) (hb : By b) (hl : b.length ≤ 100000) (hfu : b.length < fu) (at' : Int) : packGet fu b at' = some ((got b at').1, (got b at').2.1, (got b at').2.2, ()) := by
  unfold packGet got
  by_cases h1 : at' < 0
  · simp [h1]
  · by_cases h2 : at' > b.length
    · simp [h1, h2]
    · have hcut : cutOk b at' b.length = true := by simp [cutOk]; omega
      have e : cutL b at' b.length = b.drop at'.toNat := by
        unfold cutL
        rw [List.take_of_length_le]
        rw [List.length_drop]; omega
      have hd : By (b.drop at'.toNat) := fun x hx => hb x (List.mem_of_mem_drop hx)
      have hdl : (b.drop at'.toNat).length ≤ b.length := by rw [List.length_drop]; omega
      have hn : ¬ (at' < 0 ∨ at' > b.length) := by omega
      simp only [h1, h2, or_self, if_false, decide_false, cond_false, hcut, chk, cond_true, e]
      have := get_rounds fu (fun a c d => some (a, c, d, ())) (fun _ => some (0, 0, 3, ())) at' (b.drop at'.toNat) hd (by omega) (by omega) fu 0 0 (by omega) (by omega) (by omega) (by simp) (by omega)
      refine this.trans ?_
      rw [List.drop_zero]
      generalize hq : get1 (b.drop at'.toNat) 0 0 = q
      unfold fin1 from1
      by_cases h0 : q.2.2 = 0
      · simp [h0]
      · by_cases h3 : q.2.2 = 3
        · have hz := get1_err (b.drop at'.toNat) 0 0
          rw [hq] at hz
          simp [h3, hz h0]
        · have hz := get1_err (b.drop at'.toNat) 0 0
          rw [hq] at hz
          simp [h0, h3, hz h0]

/-- A number's writing. -/
def putN : Nat → Int → List Int
  | 0, n => [n]
  | k + 1, n => if n ≥ 128 then (n % 128 + 128) :: putN k (n / 128) else [n]
theorem putN_len : ∀ (k : Nat) (n : Int), (putN k n).length ≤ k + 1 ∧ 0 < (putN k n).length
  | 0, n => by simp [putN]
  | k + 1, n => by
    unfold putN
    split
    · have := putN_len k (n / 128)
      simp only [List.length_cons]
      omega
    · simp
theorem apOk1 {xs ys : List Int} (h : xs.length + ys.length ≤ 1000000) : apOk xs ys 1 = true := by
  unfold apOk
  exact decide_eq_true (Nat.le_trans (Nat.mul_le_mul_right 1 h) (by decide))
def tab8 : List Int := ([0, 1, 2, 2, 3, 3, 3, 3, 4, 4, 4, 4, 4, 4, 4, 4, 5, 5, 5, 5, 5, 5, 5, 5, 5, 5, 5, 5, 5, 5, 5, 5, 6, 6, 6, 6, 6, 6, 6, 6, 6, 6, 6, 6, 6, 6, 6, 6, 6, 6, 6, 6, 6, 6, 6, 6, 6, 6, 6, 6, 6, 6, 6, 6, 7, 7, 7, 7, 7, 7, 7, 7, 7, 7, 7, 7, 7, 7, 7, 7, 7, 7, 7, 7, 7, 7, 7, 7, 7, 7, 7, 7, 7, 7, 7, 7, 7, 7, 7, 7, 7, 7, 7, 7, 7, 7, 7, 7, 7, 7, 7, 7, 7, 7, 7, 7, 7, 7, 7, 7, 7, 7, 7, 7, 7, 7, 7, 7, 8, 8, 8, 8, 8, 8, 8, 8, 8, 8, 8, 8, 8, 8, 8, 8, 8, 8, 8, 8, 8, 8, 8, 8, 8, 8, 8, 8, 8, 8, 8, 8, 8, 8, 8, 8, 8, 8, 8, 8, 8, 8, 8, 8, 8, 8, 8, 8, 8, 8, 8, 8, 8, 8, 8, 8, 8, 8, 8, 8, 8, 8, 8, 8, 8, 8, 8, 8, 8, 8, 8, 8, 8, 8, 8, 8, 8, 8, 8, 8, 8, 8, 8, 8, 8, 8, 8, 8, 8, 8, 8, 8, 8, 8, 8, 8, 8, 8, 8, 8, 8, 8, 8, 8, 8, 8, 8, 8, 8, 8, 8, 8, 8, 8, 8, 8, 8, 8, 8, 8, 8, 8, 8, 8, 8, 8, 8, 8] : List Int)
theorem tab8_ok (x : Int) (h0 : 0 ≤ x) (h1 : x < 256) : ixOk tab8 x = true ∧ 0 ≤ ixL 0 tab8 x ∧ ixL 0 tab8 x ≤ 8 := by
  have key : ∀ m : Fin 256, ixOk tab8 (m.val : Int) = true ∧ 0 ≤ ixL 0 tab8 (m.val : Int) ∧ ixL 0 tab8 (m.val : Int) ≤ 8 := by decide +kernel
  have := key ⟨x.toNat, by omega⟩
  simp only at this
  rw [show (x.toNat : Int) = x by omega] at this
  exact this
theorem len_j7 (fu : Nat) k1 (x n : Int) (h0 : 0 ≤ x) (h1 : x < 65536) (hn : 0 ≤ n) (hn1 : n ≤ 100) : ∃ r, bitsLen64.j7 fu k1 x n = k1 r ∧ 0 ≤ r ∧ r ≤ n + 16 := by
  unfold bitsLen64.j7
  rw [show ([0, 1, 2, 2, 3, 3, 3, 3, 4, 4, 4, 4, 4, 4, 4, 4, 5, 5, 5, 5, 5, 5, 5, 5, 5, 5, 5, 5, 5, 5, 5, 5, 6, 6, 6, 6, 6, 6, 6, 6, 6, 6, 6, 6, 6, 6, 6, 6, 6, 6, 6, 6, 6, 6, 6, 6, 6, 6, 6, 6, 6, 6, 6, 6, 7, 7, 7, 7, 7, 7, 7, 7, 7, 7, 7, 7, 7, 7, 7, 7, 7, 7, 7, 7, 7, 7, 7, 7, 7, 7, 7, 7, 7, 7, 7, 7, 7, 7, 7, 7, 7, 7, 7, 7, 7, 7, 7, 7, 7, 7, 7, 7, 7, 7, 7, 7, 7, 7, 7, 7, 7, 7, 7, 7, 7, 7, 7, 7, 8, 8, 8, 8, 8, 8, 8, 8, 8, 8, 8, 8, 8, 8, 8, 8, 8, 8, 8, 8, 8, 8, 8, 8, 8, 8, 8, 8, 8, 8, 8, 8, 8, 8, 8, 8, 8, 8, 8, 8, 8, 8, 8, 8, 8, 8, 8, 8, 8, 8, 8, 8, 8, 8, 8, 8, 8, 8, 8, 8, 8, 8, 8, 8, 8, 8, 8, 8, 8, 8, 8, 8, 8, 8, 8, 8, 8, 8, 8, 8, 8, 8, 8, 8, 8, 8, 8, 8, 8, 8, 8, 8, 8, 8, 8, 8, 8, 8, 8, 8, 8, 8, 8, 8, 8, 8, 8, 8, 8, 8, 8, 8, 8, 8, 8, 8, 8, 8, 8, 8, 8, 8, 8, 8, 8, 8, 8, 8] : List Int) = tab8 from rfl]
  have fits : ∀ y : Int, 0 ≤ y → y ≤ 1000 → IntKind.i64.wrap y = y := fun y a b => wrap_i64 (by omega) (by omega)
  by_cases h : x ≥ 256
  · have e1 : sShr .u64 x 8 = x / 256 := by have := shr_eq x 8 (by omega); simpa using this
    have e2 : IntKind.u8.wrap (x / 256) = x / 256 := by rw [wrap_u8]; omega
    obtain ⟨q1, q2, q3⟩ := tab8_ok (x / 256) (by omega) (by omega)
    simp only [h, decide_true, cond_true, e1, e2, q1, chk]
    rw [fits (n + 8) (by omega) (by omega), fits (ixL 0 tab8 (x / 256)) q2 (by omega), fits _ (by omega) (by omega)]
    exact ⟨_, rfl, by omega, by omega⟩
  · obtain ⟨q1, q2, q3⟩ := tab8_ok x (by omega) (by omega)
    have e2 : IntKind.u8.wrap x = x := by rw [wrap_u8]; omega
    simp only [h, decide_false, cond_false, e2, q1, chk, cond_true]
    rw [fits (ixL 0 tab8 x) q2 (by omega), fits _ (by omega) (by omega)]
    exact ⟨_, rfl, by omega, by omega⟩
theorem len_j4 (fu : Nat) k1 (x n : Int) (h0 : 0 ≤ x) (h1 : x < 4294967296) (hn : 0 ≤ n) (hn1 : n ≤ 64) : ∃ r, bitsLen64.j4 fu k1 x n = k1 r ∧ 0 ≤ r ∧ r ≤ n + 32 := by
  unfold bitsLen64.j4
  by_cases h : x ≥ 65536
  · have e1 : sShr .u64 x 16 = x / 65536 := by have := shr_eq x 16 (by omega); simpa using this
    have e2 : IntKind.i64.wrap (n + 16) = n + 16 := wrap_i64 (by omega) (by omega)
    simp only [h, decide_true, cond_true, e1, e2]
    obtain ⟨r, h1, h2, h3⟩ := len_j7 fu (fun q => k1 q) (x / 65536) (n + 16) (by omega) (by omega) (by omega) (by omega)
    exact ⟨r, h1, h2, by omega⟩
  · simp only [h, decide_false, cond_false]
    obtain ⟨r, h1, h2, h3⟩ := len_j7 fu (fun q => k1 q) x n (by omega) (by omega) (by omega) (by omega)
    exact ⟨r, h1, h2, by omega⟩
theorem len64_le (fu : Nat) (n : Int) (h0 : 0 ≤ n) (h1 : n < 18446744073709551616) : ∃ r, bitsLen64 fu n = some (r, ()) ∧ 0 ≤ r ∧ r ≤ 64 := by
  unfold bitsLen64
  by_cases h : n ≥ 4294967296
  · have e1 : sShr .u64 n 32 = n / 4294967296 := by have := shr_eq n 32 (by omega); simpa using this
    simp only [h, decide_true, cond_true, e1]
    obtain ⟨r, h1, h2, h3⟩ := len_j4 fu (fun q => some (q, ())) (n / 4294967296) 32 (by omega) (by omega) (by omega) (by omega)
    exact ⟨r, h1, h2, by omega⟩
  · simp only [h, decide_false, cond_false]
    obtain ⟨r, h1, h2, h3⟩ := len_j4 fu (fun q => some (q, ())) n 0 (by omega) (by omega) (by omega) (by omega)
    exact ⟨r, h1, h2, by omega⟩
theorem size_le (fu : Nat) (n : Int) (h0 : 0 ≤ n) (h1 : n < 18446744073709551616) : ∃ r, packSize fu n = some (r, ()) ∧ 0 ≤ r ∧ r ≤ 10 := by
  unfold packSize
  obtain ⟨r, q1, q2, q3⟩ := len64_le fu n h0 h1
  have e1 : IntKind.i64.wrap (max2 r 1 + 6) = max r 1 + 6 := by rw [max2_eq, wrap_i64 (by omega) (by omega)]
  have e2 : Int.tdiv (max r 1 + 6) 7 = (max r 1 + 6) / 7 := Int.tdiv_eq_ediv_of_nonneg (by omega)
  have e3 : IntKind.i64.wrap ((max r 1 + 6) / 7) = (max r 1 + 6) / 7 := wrap_i64 (by omega) (by omega)
  simp only [q1, Option.bind_some, e1, e2, e3]
  exact ⟨_, rfl, by omega, by omega⟩
theorem own_eq (fu : Nat) (b : List Int) (room : Int) (hl : b.length ≤ 500000) (h0 : 0 ≤ room) (h1 : room ≤ 1000) : packOwn fu b room = some ((b, ()), ()) := by
  unfold packOwn
  have e1 : IntKind.i64.wrap ((b.length : Int) + room) = b.length + room := wrap_i64 (by omega) (by omega)
  have e2 : mkOk 0 ((b.length : Int) + room) 1 = true := by
    have hL : (1000000 : Int) ≤ (LIM : Int) := by decide
    unfold mkOk
    simp only [Bool.and_eq_true, decide_eq_true_eq]
    omega
  have e3 : apOk ([] : List Int) b 1 = true := apOk1 (by simp; omega)
  simp only [e1, e2, chk, cond_true, Int.toNat_zero, List.replicate_zero, e3, List.nil_append]
theorem pow_succ128 (k : Nat) : (128 : Int) ^ (k + 1) = 128 * 128 ^ k := by rw [Int.pow_succ, Int.mul_comm]
theorem putO_rounds (fu : Nat) (k2 : Int → List Int → Option (((List Int) × Unit) × (Unit))) : ∀ (k m : Nat) (n : Int) (out : List Int), k < m → 0 ≤ n → n < 128 ^ (k + 1) → out.length + k ≤ 500000 →
    ∃ last init, putN k n = init ++ [last] ∧ 0 ≤ last ∧ last < 128 ∧ packPut.l2 fu k2 m n out = k2 last (out ++ init) := by
  intro k
  induction k with
  | zero =>
    intro m n out hm h0 h1 hl
    obtain ⟨m, rfl⟩ : ∃ j, m = j + 1 := ⟨m - 1, by omega⟩
    have hn : ¬ n ≥ 128 := by have : (128 : Int) ^ (0 + 1) = 128 := by decide
                              omega
    refine ⟨n, [], by simp [putN], h0, by omega, ?_⟩
    unfold packPut.l2 packPut.b2
    simp [hn]
  | succ k ih =>
    intro m n out hm h0 h1 hl
    obtain ⟨m, rfl⟩ : ∃ j, m = j + 1 := ⟨m - 1, by omega⟩
    unfold packPut.l2 packPut.b2 putN
    by_cases hn : n ≥ 128
    · have e1 : sShr .u64 n 7 = n / 128 := by have := shr_eq n 7 (by omega); simpa using this
      have e2 : bOr .u8 (IntKind.u8.wrap n) 128 = n % 128 + 128 := by rw [wrap_u8, byte_or _ (by omega) (by omega)]; omega
      rw [pow_succ128] at h1
      obtain ⟨last, init, q1, q2, q3, q4⟩ := ih m (n / 128) (out ++ [n % 128 + 128]) (by omega) (by omega) (by omega) (by simp; omega)
      refine ⟨last, (n % 128 + 128) :: init, by rw [if_pos hn, q1]; rfl, q2, q3, ?_⟩
      have e3 : apOk out [n % 128 + 128] 1 = true := apOk1 (by simp; omega)
      simp only [hn, decide_true, cond_true, e1, e2, e3, chk]
      rw [q4, List.append_assoc]
      rfl
    · refine ⟨n, [], by rw [if_neg hn]; rfl, h0, by omega, ?_⟩
      simp [hn]
theorem putD_rounds (fu : Nat) (k2 : Int → List Int → Option ((List Int) × Unit)) : ∀ (k m : Nat) (n : Int) (out : List Int), k < m → 0 ≤ n → n < 128 ^ (k + 1) → out.length + k ≤ 500000 →
    ∃ last init, putN k n = init ++ [last] ∧ 0 ≤ last ∧ last < 128 ∧ packPutDat.l2 fu k2 m n out = k2 last (out ++ init) := by
  intro k
  induction k with
  | zero =>
    intro m n out hm h0 h1 hl
    obtain ⟨m, rfl⟩ : ∃ j, m = j + 1 := ⟨m - 1, by omega⟩
    have hn : ¬ n ≥ 128 := by have : (128 : Int) ^ (0 + 1) = 128 := by decide
                              omega
    refine ⟨n, [], by simp [putN], h0, by omega, ?_⟩
    unfold packPutDat.l2 packPutDat.b2
    simp [hn]
  | succ k ih =>
    intro m n out hm h0 h1 hl
    obtain ⟨m, rfl⟩ : ∃ j, m = j + 1 := ⟨m - 1, by omega⟩
    unfold packPutDat.l2 packPutDat.b2 putN
    by_cases hn : n ≥ 128
    · have e1 : sShr .u64 n 7 = n / 128 := by have := shr_eq n 7 (by omega); simpa using this
      have e2 : bOr .u8 (IntKind.u8.wrap n) 128 = n % 128 + 128 := by rw [wrap_u8, byte_or _ (by omega) (by omega)]; omega
      rw [pow_succ128] at h1
      obtain ⟨last, init, q1, q2, q3, q4⟩ := ih m (n / 128) (out ++ [n % 128 + 128]) (by omega) (by omega) (by omega) (by simp; omega)
      refine ⟨last, (n % 128 + 128) :: init, by rw [if_pos hn, q1]; rfl, q2, q3, ?_⟩
      have e3 : apOk out [n % 128 + 128] 1 = true := apOk1 (by simp; omega)
      simp only [hn, decide_true, cond_true, e1, e2, e3, chk]
      rw [q4, List.append_assoc]
      rfl
    · refine ⟨n, [], by rw [if_neg hn]; rfl, h0, by omega, ?_⟩
      simp [hn]
theorem put_eq (fu : Nat) (hfu : 12 ≤ fu) (b : List Int) (n : Int) (hl : b.length ≤ 400000) (h0 : 0 ≤ n) (h1 : n < 18446744073709551616) : packPut fu b n = some ((b ++ putN 9 n, ()), ()) ∧ packPutDat fu b n = some (b ++ putN 9 n, ()) := by
  obtain ⟨r, q1, q2, q3⟩ := size_le fu n h0 h1
  have hp : (128 : Int) ^ (9 + 1) = 1180591620717411303424 := by decide
  constructor
  · obtain ⟨last, init, p1, p2, p3, p4⟩ := putO_rounds fu (fun nq2 outq2 => 
      chk (apOk outq2 ([IntKind.u8.wrap nq2]) 1) <|
      let t3 := outq2 ++ ([IntKind.u8.wrap nq2])
      some ((t3, ()), (()))) 9 fu n b (by omega) h0 (by omega) (by omega)
    have hlen := putN_len 9 n
    rw [p1] at hlen
    simp only [List.length_append, List.length_cons, List.length_nil] at hlen
    have e1 : IntKind.u8.wrap last = last := by rw [wrap_u8]; omega
    have e2 : apOk (b ++ init) [last] 1 = true := apOk1 (by simp; omega)
    unfold packPut
    simp only [q1, Option.bind_some, own_eq fu b r (by omega) q2 (by omega)]
    refine p4.trans ?_
    simp only [e1, e2, chk, cond_true, p1, List.append_assoc]
  · obtain ⟨last, init, p1, p2, p3, p4⟩ := putD_rounds fu (fun nq2 outq2 => 
      chk (apOk outq2 ([IntKind.u8.wrap nq2]) 1) <|
      let t3 := outq2 ++ ([IntKind.u8.wrap nq2])
      some (t3, ())) 9 fu n b (by omega) h0 (by omega) (by omega)
    have hlen := putN_len 9 n
    rw [p1] at hlen
    simp only [List.length_append, List.length_cons, List.length_nil] at hlen
    have e1 : IntKind.u8.wrap last = last := by rw [wrap_u8]; omega
    have e2 : apOk (b ++ init) [last] 1 = true := apOk1 (by simp; omega)
    unfold packPutDat
    simp only [q1, Option.bind_some, own_eq fu b r (by omega) q2 (by omega)]
    refine p4.trans ?_
    simp only [e1, e2, chk, cond_true, p1, List.append_assoc]
/-- What is got is put as it stood. -/
theorem get_put : ∀ (k i : Nat) (l : List Int) (n v e : Int), By l → i + k = 9 → get1 l i n = (v, e, 0) →
    ∃ (m : Int) (j : Nat), v = n + m * 128 ^ i ∧ 0 ≤ m ∧ m < 2 * 128 ^ k ∧ e = i + j ∧ 0 < j ∧ j ≤ l.length ∧ l.take j = putN k m ∧ (i > 0 → 1 ≤ m) := by
  intro k
  induction k with
  | zero =>
    intro i l n v e hb hi h
    cases l with
    | nil => cases h
    | cons c r =>
      have hc := hb c List.mem_cons_self
      unfold get1 at h
      split at h
      · cases h
      · rename_i h9
        have hc1 : ¬ c > 1 := fun hx => h9 ⟨by omega, hx⟩
        rw [if_neg (by omega)] at h
        split at h
        · cases h
        · rename_i h0
          cases h
          refine ⟨c, 1, rfl, hc.1, by omega, by omega, by omega, by simp, by simp [putN], fun hi0 => ?_⟩
          rcases Int.lt_or_le 0 c with hx | hx
          · omega
          · exact absurd ⟨by omega, hi0⟩ h0
  | succ k ih =>
    intro i l n v e hb hi h
    cases l with
    | nil => cases h
    | cons c r =>
      have hc := hb c List.mem_cons_self
      unfold get1 at h
      rw [if_neg (by omega)] at h
      have hpk : (1 : Int) ≤ 128 ^ k := by
        have : 0 < 128 ^ k := Nat.pow_pos (by omega)
        have e : (128 : Int) ^ k = ((128 ^ k : Nat) : Int) := by norm_cast
        omega
      split at h
      · rename_i h128
        obtain ⟨m, j, q1, q2, q3, q4, q5, q6, q7, q8⟩ := ih (i + 1) r _ v e (by_tail hb) (by omega) h
        have hm1 := q8 (by omega)
        refine ⟨c - 128 + 128 * m, j + 1, ?_, by omega, by rw [Int.pow_succ]; omega, by omega, by omega, by simp; omega, ?_, fun _ => by omega⟩
        · rw [q1, Int.pow_succ, Int.add_mul, Int.mul_comm 128 m, Int.mul_assoc m 128, Int.mul_comm 128 (128 ^ i)]; omega
        · rw [List.take_succ_cons, q7]
          conv => rhs; unfold putN
          rw [if_pos (by omega), show (c - 128 + 128 * m) % 128 + 128 = c by omega, show (c - 128 + 128 * m) / 128 = m by omega]
      · rename_i h128
        split at h
        · cases h
        · rename_i h0
          cases h
          refine ⟨c, 1, rfl, hc.1, by rw [Int.pow_succ]; omega, by omega, by omega, by simp, ?_, fun hi0 => ?_⟩
          · conv => rhs; unfold putN
            rw [if_neg (by omega)]; simp
          · rcases Int.lt_or_le 0 c with hx | hx
            · omega
            · exact absurd ⟨by omega, hi0⟩ h0
/-- What is put is got as it was. -/
theorem put_get : ∀ (k i : Nat) (m n : Int) (rest : List Int), i + k = 9 → 0 ≤ m → m < 2 * 128 ^ k → (i > 0 → 1 ≤ m) → get1 (putN k m ++ rest) i n = (n + m * 128 ^ i, (i : Int) + ((putN k m).length : Int), 0) := by
  intro k
  induction k with
  | zero =>
    intro i m n rest hi h0 h1 hp
    have hm1 : m ≤ 1 := by simp at h1; omega
    unfold putN get1
    simp only [List.cons_append, List.nil_append]
    rw [if_neg (by omega), if_neg (by omega), if_neg (fun h => by have := hp h.2; omega)]
    simp
  | succ k ih =>
    intro i m n rest hi h0 h1 hp
    unfold putN
    split
    · rename_i hge
      simp only [List.cons_append]
      unfold get1
      rw [if_neg (by omega), if_pos (by omega)]
      rw [ih (i + 1) (m / 128) _ rest (by omega) (by omega) (by rw [Int.pow_succ] at h1; omega) (fun _ => by omega)]
      simp only [List.length_cons]
      refine Prod.ext ?_ (Prod.ext ?_ rfl)
      · show n + (m % 128 + 128 - 128) * 128 ^ i + m / 128 * 128 ^ (i + 1) = n + m * 128 ^ i
        rw [Int.pow_succ, Int.mul_comm (128 ^ i) 128, ← Int.mul_assoc, Int.add_assoc, ← Int.add_mul]
        congr 2
        omega
      · show ((i + 1 : Nat) : Int) + ((putN k (m / 128)).length : Int) = (i : Int) + (((putN k (m / 128)).length + 1 : Nat) : Int)
        omega
    · rename_i hlt
      simp only [List.cons_append, List.nil_append]
      unfold get1
      rw [if_neg (by omega), if_neg (by omega), if_neg (fun h => by have := hp h.2; omega)]
      simp
theorem got_ok {b : List Int} (hb : By b) {at' v e : Int} (h : got b at' = (v, e, 0)) : 0 ≤ at' ∧ 0 ≤ v ∧ v < 18446744073709551616 ∧ ∃ j : Nat, e = at' + j ∧ 0 < j ∧ at' + j ≤ b.length ∧ cutL b at' e = putN 9 v := by
  unfold got at h
  split at h
  · cases h
  · rename_i hn
    generalize hq : get1 (b.drop at'.toNat) 0 0 = q at h
    obtain ⟨v', e', er⟩ := q
    unfold from1 at h
    simp only [Prod.mk.injEq] at h
    obtain ⟨rfl, h2, rfl⟩ := h
    rw [if_pos rfl] at h2
    obtain ⟨m, j, q1, q2, q3, q4, q5, q6, q7, q8⟩ := get_put 9 0 (b.drop at'.toNat) 0 v' e' (fun x hx => hb x (List.mem_of_mem_drop hx)) rfl hq
    have hv : v' = m := by rw [q1]; simp
    rw [List.length_drop] at q6
    have hp : (2 : Int) * 128 ^ 9 = 18446744073709551616 := by decide
    refine ⟨by omega, by omega, by omega, j, by omega, q5, by omega, ?_⟩
    rw [hv, ← q7]
    unfold cutL
    rw [show (e - at').toNat = j by omega]
/-- A number put and got. -/
theorem got_put (a rest : List Int) (n : Int) (h0 : 0 ≤ n) (h1 : n < 18446744073709551616) : got (a ++ putN 9 n ++ rest) a.length = (n, (a.length : Int) + ((putN 9 n).length : Int), 0) := by
  unfold got
  rw [if_neg (by simp; omega)]
  have hp : (2 : Int) * 128 ^ 9 = 18446744073709551616 := by decide
  have e : (a ++ putN 9 n ++ rest).drop (a.length : Int).toNat = putN 9 n ++ rest := by simp
  rw [e, put_get 9 0 n 0 rest rfl h0 (by omega) (fun h => by omega)]
  unfold from1
  simp
theorem cut_len {b : List Int} {x y : Int} (h0 : 0 ≤ x) (h1 : x ≤ y) (h2 : y ≤ b.length) : (cutL b x y).length = (y - x).toNat := by
  unfold cutL
  rw [List.length_take, List.length_drop]
  omega
theorem cut_app {b : List Int} {x y z : Int} (h0 : 0 ≤ x) (h1 : x ≤ y) (h2 : y ≤ z) (h3 : z ≤ b.length) : cutL b x y ++ cutL b y z = cutL b x z := by
  unfold cutL
  have e : b.drop y.toNat = (b.drop x.toNat).drop (y - x).toNat := by rw [List.drop_drop]; congr 1; omega
  rw [e, show (z - x).toNat = (y - x).toNat + (z - y).toNat by omega, List.take_add]
theorem cutOk_of {b : List Int} {x y : Int} (h0 : 0 ≤ x) (h1 : x ≤ y) (h2 : y ≤ b.length) : cutOk b x y = true := by simp [cutOk, h0, h1, h2]

/-- A text at a place. -/
def text1 (b : List Int) (at' most : Int) : List Int × Int × Int :=
  if (got b at').2.2 ≠ 0 then ([], 0, (got b at').2.2) else if (got b at').1 > max most 0 then ([], 0, 4) else if (got b at').1 > b.length - (got b at').2.1 then ([], 0, 3)
  else (cutL b (got b at').2.1 ((got b at').2.1 + (got b at').1), (got b at').2.1 + (got b at').1, 0)
theorem getText_eq (fu : Nat) (b : List Int) (hb : By b) (hl : b.length ≤ 100000) (hfu : b.length < fu) (at' most : Int) (hm : -9223372036854775808 ≤ most ∧ most < 9223372036854775808) : packGetText fu b at' most = some ((text1 b at' most).1, (text1 b at' most).2.1, (text1 b at' most).2.2, ()) := by
  unfold packGetText text1
  rw [packGet_eq fu b hb hl hfu]
  generalize hq : got b at' = q
  obtain ⟨v, e, er⟩ := q
  simp only [Option.bind_some]
  by_cases h : er = 0
  · subst h
    obtain ⟨g1, g2, g3, j, g4, g5, g6, g7⟩ := got_ok hb hq
    have e1 : IntKind.u64.wrap (max2 most 0) = max most 0 := by rw [max2_eq]; exact wrap_u64 (by omega) (by omega)
    have e2 : IntKind.i64.wrap ((b.length : Int) - e) = b.length - e := wrap_i64 (by omega) (by omega)
    have e3 : IntKind.u64.wrap ((b.length : Int) - e) = b.length - e := wrap_u64 (by omega) (by omega)
    simp only [bne_self_eq_false, cond_false, e1, e2, e3, ne_eq, not_true_eq_false, if_false]
    by_cases h1 : v > max most 0
    · simp [h1]
    · by_cases h2 : v > b.length - e
      · simp only [h1, h2, decide_false, decide_true, cond_false, cond_true, if_false, if_true]
      · have e4 : IntKind.i64.wrap v = v := wrap_i64 (by omega) (by omega)
        have e5 : IntKind.i64.wrap (e + v) = e + v := wrap_i64 (by omega) (by omega)
        simp only [h1, h2, decide_false, cond_false, if_false, e4, e5, cutOk_of (show 0 ≤ e by omega) (show e ≤ e + v by omega) (show e + v ≤ b.length by omega), chk, cond_true]
  · have h' : (er != 0) = true := bne_iff_ne.2 h
    simp [h, h']
theorem text_ok {b : List Int} (hb : By b) {at' most e : Int} {s : List Int} (h : text1 b at' most = (s, e, 0)) : 0 ≤ at' ∧ at' ≤ e ∧ e ≤ b.length ∧ (s.length : Int) ≤ b.length ∧ cutL b at' e = putN 9 s.length ++ s := by
  unfold text1 at h
  generalize hq : got b at' = q at h
  obtain ⟨v, e', er⟩ := q
  simp only at h
  split at h
  · rename_i h0
    simp only [Prod.mk.injEq] at h
    exact absurd h.2.2 h0
  · rename_i h0
    have h0 : er = 0 := by omega
    subst h0
    split at h
    · cases h
    · split at h
      · cases h
      · rename_i h1 h2
        cases h
        obtain ⟨g1, g2, g3, j, g4, g5, g6, g7⟩ := got_ok hb hq
        have hlen : (cutL b e' (e' + v)).length = v.toNat := by rw [cut_len (by omega) (by omega) (by omega)]; omega
        refine ⟨g1, by omega, by omega, by omega, ?_⟩
        rw [hlen, show (v.toNat : Int) = v by omega, ← g7]
        exact (cut_app g1 (by omega) (by omega) (by omega)).symm
theorem putText_eq (fu : Nat) (hfu : 12 ≤ fu) (b s : List Int) (hl : b.length ≤ 400000) (hs : s.length ≤ 400000) : packPutText fu b s = some (b ++ putN 9 s.length ++ s, ()) := by
  unfold packPutText
  have e1 : IntKind.u64.wrap (s.length : Int) = s.length := wrap_u64 (by omega) (by omega)
  have := putN_len 9 s.length
  have e2 : apOk (b ++ putN 9 s.length) s 1 = true := apOk1 (by rw [List.length_append]; omega)
  simp only [e1, (put_eq fu hfu b s.length hl (by omega) (by omega)).1, Option.bind_some, e2, chk, cond_true]

/-- The bits of a number, the one NaN for all. -/
def isNan (x : Nat) : Prop := x % 9223372036854775808 > 9218868437227405312
instance : DecidablePred isNan := fun x => inferInstanceAs (Decidable (_ > _))
def canon (x : Nat) : Int := if isNan x then 9221120237041090560 else x
theorem nan_iff (x : Nat) : fNeq x x = decide (isNan x) := by
  unfold fNeq
  show (FloatKind.f64.format.order x x != some .eq) = _
  have hsw : FloatKind.f64.format.signWeight = 9223372036854775808 := by decide
  have hir : FloatKind.f64.format.infRung = 9218868437227405312 := by decide
  have hbi : FloatKind.f64.format.binade = 4503599627370496 := by decide
  unfold Ieee.Format.order Ieee.Format.read
  have no : ¬ (x % 9223372036854775808 > 9218868437227405312) → decide (isNan x) = false := fun h => decide_eq_false h
  simp only [hsw, hir, hbi]
  split
  · rename_i h
    rw [no (by omega)]
    simp [Ieee.Datum.order]
  · split
    · rename_i h1 h2
      rw [no (by omega)]
      simp [Ieee.Datum.order]
    · split
      · rename_i h1 h2 h3
        rw [no (by omega)]
        simp [Ieee.Datum.order]
      · rename_i h1 h2 h3
        exact (decide_eq_true (p := isNan x) (show x % 9223372036854775808 > 9218868437227405312 by omega)).symm
theorem realBits_eq (fu : Nat) (x : Nat) (h : x < 18446744073709551616) : realBits fu x = some (canon x, ()) := by
  unfold realBits canon
  rw [nan_iff]
  by_cases hx : isNan x
  · simp [hx]
  · have : extBits.f fu (x, ()) = some ((x : Int), ()) := by
      show (match decide (x < 18446744073709551616) with | true => some ((x : Int), ()) | false => none) = _
      rw [decide_eq_true h]
    simp only [hx, decide_false, cond_false, if_false]
    rw [this]
    rfl
theorem canon_fits (x : Nat) (h : x < 18446744073709551616) : 0 ≤ canon x ∧ canon x < 18446744073709551616 := by
  unfold canon; split <;> omega
theorem realFrom_eq (fu : Nat) (n : Int) (h0 : 0 ≤ n) (h : n < 18446744073709551616) : realFrom fu n = some (if canon n.toNat = n then (n.toNat, true, ()) else (0, false, ())) := by
  unfold realFrom
  have : extFrom.f fu (n, ()) = some (n.toNat, ()) := rfl
  rw [this]
  show ((realBits fu n.toNat).bind fun r2 => cond (r2.1 != n) (some ((0 : Nat), false, ())) (some (n.toNat, true, ()))) = _
  rw [realBits_eq fu n.toNat (by omega)]
  by_cases hx : canon n.toNat = n
  · have hx' : (canon n.toNat != n) = false := by rw [hx]; exact bne_self_eq_false _
    simp only [Option.bind_some, hx', cond_false, if_pos hx]
  · have hx' : (canon n.toNat != n) = true := bne_iff_ne.2 hx
    simp only [Option.bind_some, hx', cond_true, if_neg hx]

def be (l : List Int) (n : Int) : Int := l.foldl (fun n c => n * 256 + c) n
theorem or_comm' (k : IntKind) (x y : Int) : bOr k x y = bOr k y x := by unfold bOr; rw [BitVec.or_comm]
theorem real_rounds (fu : Nat) (k2 : Int → Int → Option (Nat × Int × Int × Unit)) (at' : Int) (v : List Int) (hv : By v) (hl : v.length = 8) : ∀ (m i : Nat) (n : Int), i ≤ 8 → 8 < i + m → 0 ≤ n → n < 256 ^ i →
    packGetReal.l5 fu k2 m at' n v 8 i = k2 at' (be (v.drop i) n) := by
  intro m
  induction m with
  | zero => intro i n h1 h2; omega
  | succ m ih =>
    intro i n h1 h2 h3 h4
    unfold packGetReal.l5 packGetReal.b5
    by_cases hi : i < 8
    · have hi' : (i : Int) < 8 := by omega
      have hil : i < v.length := by omega
      have hix : ixOk v i = true := by simp [ixOk, hil]
      have hc := hv _ (List.getElem_mem hil)
      have e1 : IntKind.i64.wrap ((i : Int) + 1) = (i + 1 : Nat) := wrap_i64 (by omega) (by omega)
      have hp : (256 : Int) ^ i ≤ 72057594037927936 := by
        have h1 : 256 ^ i ≤ 256 ^ 7 := Nat.pow_le_pow_right (by omega) (by omega)
        have e : (256 : Int) ^ i = ((256 ^ i : Nat) : Int) := by rw [Int.natCast_pow]; rfl
        rw [e]
        have : (256 : Nat) ^ 7 = 72057594037927936 := by decide
        omega
      rw [List.drop_eq_getElem_cons hil]
      simp only [hi', decide_true, cond_true, chk, hix, ixL_get hil, e1]
      generalize v[i] = c at hc
      have e2 : sShl .u64 n 8 = n * 256 := by have := shl_eq n 8 (by omega) h3 (by omega); rw [show (2 : Int) ^ 8 = 256 by decide] at this; exact this
      have e3 : IntKind.u64.wrap c = c := wrap_u64 (by omega) (by omega)
      have e4 : bOr .u64 (n * 256) c = n * 256 + c := by
        obtain ⟨N, rfl⟩ := Int.eq_ofNat_of_zero_le h3
        obtain ⟨C, rfl⟩ := Int.eq_ofNat_of_zero_le hc.1
        have := or_add C N 8 (by omega) (by omega)
        rw [or_comm']
        have e : ((N * 2 ^ 8 : Nat) : Int) = (N : Int) * 256 := by omega
        rw [e] at this
        rw [this]
        omega
      rw [e2, e3, e4, ih (i + 1) (n * 256 + c) (by omega) (by omega) (by omega) (by rw [Int.pow_succ]; omega)]
      rfl
    · have : i = 8 := by omega
      subst this
      rw [List.drop_of_length_le (by omega)]
      simp [be]
def real1 (b : List Int) (at' : Int) : Nat × Int × Int :=
  if at' < 0 ∨ at' > b.length - 8 then (0, 0, 3) else if canon (be (cutL b at' (at' + 8)) 0).toNat = be (cutL b at' (at' + 8)) 0 then ((be (cutL b at' (at' + 8)) 0).toNat, at' + 8, 0) else (0, 0, 2)
theorem be_fits : ∀ (l : List Int) (n : Int) (i : Nat), By l → 0 ≤ n → n < 256 ^ i → 0 ≤ be l n ∧ be l n < 256 ^ (i + l.length) := by
  intro l
  induction l with
  | nil => intro n i _ h0 h1; exact ⟨h0, h1⟩
  | cons c r ih =>
    intro n i hb h0 h1
    have hc := hb c List.mem_cons_self
    have := ih (n * 256 + c) (i + 1) (by_tail hb) (by omega) (by rw [Int.pow_succ]; omega)
    rw [show i + (c :: r).length = i + 1 + r.length by simp; omega]
    exact this
theorem be_u64 {l : List Int} (hb : By l) (hl : l.length = 8) : 0 ≤ be l 0 ∧ be l 0 < 18446744073709551616 := by
  have := be_fits l 0 0 hb (by omega) (by simp)
  rw [hl] at this
  have e : (256 : Int) ^ (0 + 8) = 18446744073709551616 := by decide
  omega
theorem getReal_eq (fu : Nat) (hfu : 10 ≤ fu) (b : List Int) (hb : By b) (hl : b.length ≤ 100000) (at' : Int) : packGetReal fu b at' = some ((real1 b at').1, (real1 b at').2.1, (real1 b at').2.2, ()) := by
  unfold packGetReal real1
  by_cases h1 : at' < 0
  · simp [h1]
  · have e1 : IntKind.i64.wrap ((b.length : Int) - 8) = b.length - 8 := wrap_i64 (by omega) (by omega)
    by_cases h2 : at' > b.length - 8
    · simp [h1, e1, h2]
    · have e2 : IntKind.i64.wrap (at' + 8) = at' + 8 := wrap_i64 (by omega) (by omega)
      have hlen : (cutL b at' (at' + 8)).length = 8 := by rw [cut_len (by omega) (by omega) (by omega)]; omega
      have hby : By (cutL b at' (at' + 8)) := by_cut hb _ _
      have hu := be_u64 hby hlen
      simp only [h1, h2, e1, e2, decide_false, cond_false, cutOk_of (show 0 ≤ at' by omega) (show at' ≤ at' + 8 by omega) (show at' + 8 ≤ b.length by omega), chk, cond_true, hlen, or_self, if_false]
      have := real_rounds fu (fun atvq2 nq2 =>
          (realFrom fu nq2).bind fun r4 =>
          cond (!r4.2.1) (
            some ((0 : Nat), (0 : Int), (2 : Int), ())) (
            let t5 := IntKind.i64.wrap (atvq2 + (8 : Int))
            some (r4.1, t5, (0 : Int), ()))) at' (cutL b at' (at' + 8)) hby hlen fu 0 0 (by omega) (by omega) (by omega) (by simp)
      refine this.trans ?_
      simp only [List.drop_zero, realFrom_eq fu _ hu.1 hu.2, Option.bind_some, e2]
      by_cases h3 : canon (be (cutL b at' (at' + 8)) 0).toNat = be (cutL b at' (at' + 8)) 0
      · rw [if_pos h3, if_pos h3]; rfl
      · rw [if_neg h3, if_neg h3]; rfl
/-- Eight bytes, the great ones ahead. -/
def bytes8 (n : Int) : List Int := [n / 72057594037927936 % 256, n / 281474976710656 % 256, n / 1099511627776 % 256, n / 4294967296 % 256, n / 16777216 % 256, n / 65536 % 256, n / 256 % 256, n % 256]
theorem bytes8_be {l : List Int} (hb : By l) (hl : l.length = 8) : bytes8 (be l 0) = l := by
  match l, hl with
  | [a, b, c, d, e, f, g, h], _ =>
    have ha := hb a (by simp); have hbb := hb b (by simp); have hc := hb c (by simp); have hd := hb d (by simp)
    have he := hb e (by simp); have hf := hb f (by simp); have hg := hb g (by simp); have hh := hb h (by simp)
    show bytes8 ((((((((0 * 256 + a) * 256 + b) * 256 + c) * 256 + d) * 256 + e) * 256 + f) * 256 + g) * 256 + h) = _
    unfold bytes8
    congr 1
    · omega
    congr 1
    · omega
    congr 1
    · omega
    congr 1
    · omega
    congr 1
    · omega
    congr 1
    · omega
    congr 1
    · omega
    congr 1
    omega
theorem be_bytes8 (n : Int) (h0 : 0 ≤ n) (h1 : n < 18446744073709551616) : be (bytes8 n) 0 = n := by
  show (((((((0 * 256 + n / 72057594037927936 % 256) * 256 + n / 281474976710656 % 256) * 256 + n / 1099511627776 % 256) * 256 + n / 4294967296 % 256) * 256 + n / 16777216 % 256) * 256 + n / 65536 % 256) * 256 + n / 256 % 256) * 256 + n % 256 = n
  omega
theorem bytes8_by (n : Int) : By (bytes8 n) := by
  intro x hx
  simp only [bytes8, List.mem_cons, List.not_mem_nil, or_false] at hx
  omega
theorem realD_step (fu : Nat) (k2 : List Int → Option ((List Int) × Unit)) (m k : Nat) (hk : k < 64) (out : List Int) (n : Int) (ho : out.length ≤ 900000) :
    packPutRealDat.l4 fu k2 (m + 1) out n (k : Int) = packPutRealDat.l4 fu k2 m (out ++ [n / 2 ^ k % 256]) n ((k : Int) - 8) := by
  have e1 : apOk out [n / 2 ^ k % 256] 1 = true := apOk1 (by simp; omega)
  have e2 : IntKind.i64.wrap ((k : Int) - 8) = k - 8 := wrap_i64 (by omega) (by omega)
  have h1 : decide ((k : Int) ≥ 0) = true := decide_eq_true (by omega)
  have h2 : decide ((k : Int) < 0) = false := decide_eq_false (by omega)
  conv => lhs; unfold packPutRealDat.l4 packPutRealDat.b4
  simp only [h1, h2, cond_true, chk, Bool.not_false, shr_eq n k hk, wrap_u8, e1, e2]
theorem realD_end (fu : Nat) (k2 : List Int → Option ((List Int) × Unit)) (m : Nat) (out : List Int) (n : Int) : packPutRealDat.l4 fu k2 (m + 1) out n (-8) = k2 out := by
  unfold packPutRealDat.l4 packPutRealDat.b4
  rfl
theorem putReal_eq (f : Nat) (b : List Int) (x : Nat) (hl : b.length ≤ 400000) (hx : x < 18446744073709551616) :
    packPutRealDat (f + 9) b x = some (b ++ bytes8 (canon x), ()) := by
  unfold packPutRealDat
  rw [own_eq _ b 8 (by omega) (by omega) (by omega), realBits_eq _ x hx]
  simp only [Option.bind_some]
  generalize canon x = n
  refine (realD_step _ _ (f + 8) 56 (by omega) b n (by omega)).trans ?_
  refine (realD_step _ _ (f + 7) 48 (by omega) _ n (by simp; omega)).trans ?_
  refine (realD_step _ _ (f + 6) 40 (by omega) _ n (by simp; omega)).trans ?_
  refine (realD_step _ _ (f + 5) 32 (by omega) _ n (by simp; omega)).trans ?_
  refine (realD_step _ _ (f + 4) 24 (by omega) _ n (by simp; omega)).trans ?_
  refine (realD_step _ _ (f + 3) 16 (by omega) _ n (by simp; omega)).trans ?_
  refine (realD_step _ _ (f + 2) 8 (by omega) _ n (by simp; omega)).trans ?_
  refine (realD_step _ _ (f + 1) 0 (by omega) _ n (by simp; omega)).trans ?_
  refine (realD_end _ _ f _ n).trans ?_
  simp [bytes8]
theorem real_ok {b : List Int} (hb : By b) {at' e : Int} {x : Nat} (h : real1 b at' = (x, e, 0)) : 0 ≤ at' ∧ e = at' + 8 ∧ e ≤ b.length ∧ x < 18446744073709551616 ∧ cutL b at' e = bytes8 (canon x) := by
  unfold real1 at h
  split at h
  · cases h
  · rename_i hn
    split at h
    · rename_i hc
      have hlen : (cutL b at' (at' + 8)).length = 8 := by rw [cut_len (by omega) (by omega) (by omega)]; omega
      have hby : By (cutL b at' (at' + 8)) := by_cut hb _ _
      have hu := be_u64 hby hlen
      simp only [Prod.mk.injEq, and_true] at h
      obtain ⟨rfl, rfl⟩ := h
      exact ⟨by omega, rfl, by omega, by omega, by rw [hc, bytes8_be hby hlen]⟩
    · cases h

/-- The zigzag of a signed number. -/
def zig (n : Int) : Int := if n ≥ 0 then 2 * n else -2 * n - 1
theorem xor_zero64 (x : Int) (h0 : 0 ≤ x) (h1 : x < 18446744073709551616) : bXor .u64 x 0 = x := by
  obtain ⟨N, rfl⟩ := Int.eq_ofNat_of_zero_le h0
  show IntKind.u64.wrap (((BitVec.ofInt 64 (N : Int) ^^^ BitVec.ofInt 64 (0 : Int)).toNat : Nat) : Int) = _
  rw [show BitVec.ofInt 64 (0 : Int) = 0#64 from rfl, BitVec.xor_zero, BitVec.ofInt_natCast, BitVec.toNat_ofNat, Nat.mod_eq_of_lt (by omega)]
  exact wrap_u64 (by omega) (by omega)
theorem xor_ones64 (x : Int) (h0 : 0 ≤ x) (h1 : x < 18446744073709551616) : bXor .u64 x 18446744073709551615 = 18446744073709551615 - x := by
  obtain ⟨N, rfl⟩ := Int.eq_ofNat_of_zero_le h0
  show IntKind.u64.wrap (((BitVec.ofInt 64 (N : Int) ^^^ BitVec.ofInt 64 (18446744073709551615 : Int)).toNat : Nat) : Int) = _
  rw [show BitVec.ofInt 64 (18446744073709551615 : Int) = BitVec.allOnes 64 by decide, BitVec.xor_allOnes, BitVec.toNat_not, BitVec.ofInt_natCast, BitVec.toNat_ofNat, Nat.mod_eq_of_lt (by omega)]
  rw [wrap_u64 (by omega) (by omega)]
  omega
theorem shr63 (n : Int) (h0 : -9223372036854775808 ≤ n) (h1 : n < 9223372036854775808) : sShr .i64 n 63 = if n ≥ 0 then 0 else -1 := by
  unfold sShr
  have e : min (63 : Int).toNat IntKind.i64.bits = 63 := by decide
  rw [e, show (2 : Int) ^ 63 = 9223372036854775808 by decide, Int.fdiv_eq_ediv_of_nonneg _ (by omega)]
  split <;> omega
theorem putInt_eq (fu : Nat) (hfu : 12 ≤ fu) (b : List Int) (n : Int) (hl : b.length ≤ 400000) (h0 : -9223372036854775808 ≤ n) (h1 : n < 9223372036854775808) : packPutInt fu b n = some (b ++ putN 9 (zig n), ()) := by
  unfold packPutInt zig
  rw [shr63 n h0 h1]
  have hsh : ∀ x : Int, 0 ≤ x → x < 18446744073709551616 → sShl .u64 x 1 = IntKind.u64.wrap (x * 2) := fun x _ _ => by
    unfold sShl
    have e : min (1 : Int).toNat IntKind.u64.bits = 1 := by decide
    rw [e]
    rfl
  by_cases hn : n ≥ 0
  · have e1 : IntKind.u64.wrap n = n := wrap_u64 (by omega) (by omega)
    have e2 : sShl .u64 n 1 = 2 * n := by rw [hsh n hn (by omega), wrap_u64 (by omega) (by omega)]; omega
    have e3 : IntKind.u64.wrap 0 = 0 := by decide
    simp only [hn, if_true, e1, e2, e3, xor_zero64 (2 * n) (by omega) (by omega), (put_eq fu hfu b (2 * n) hl (by omega) (by omega)).2, Option.bind_some]
  · have e1 : IntKind.u64.wrap n = n + 18446744073709551616 := by
      simp only [IntKind.wrap, IntKind.signed, IntKind.bits]
      simp
      omega
    have e2 : sShl .u64 (n + 18446744073709551616) 1 = 2 * n + 18446744073709551616 := by
      rw [hsh _ (by omega) (by omega)]
      simp only [IntKind.wrap, IntKind.signed, IntKind.bits]
      simp
      omega
    have e3 : IntKind.u64.wrap (-1) = 18446744073709551615 := by decide
    have e4 : (18446744073709551615 : Int) - (2 * n + 18446744073709551616) = -2 * n - 1 := by omega
    simp only [hn, if_false, e1, e2, e3, xor_ones64 (2 * n + 18446744073709551616) (by omega) (by omega), e4, (put_eq fu hfu b (-2 * n - 1) hl (by omega) (by omega)).2, Option.bind_some]
/-- And back. -/
def zag (v : Int) : Int := if v % 2 = 0 then v / 2 else -(v / 2) - 1
theorem and_one (v : Int) (h0 : 0 ≤ v) (h1 : v < 18446744073709551616) : bAnd .u64 v 1 = v % 2 := by
  obtain ⟨N, rfl⟩ := Int.eq_ofNat_of_zero_le h0
  show IntKind.u64.wrap (((BitVec.ofInt 64 (N : Int) &&& BitVec.ofInt 64 (1 : Int)).toNat : Nat) : Int) = _
  rw [show BitVec.ofInt 64 (1 : Int) = 1#64 from rfl, BitVec.toNat_and, BitVec.ofInt_natCast, BitVec.toNat_ofNat, Nat.mod_eq_of_lt (by omega), show (1#64).toNat = 1 from rfl, Nat.and_one_is_mod]
  rw [wrap_u64 (by omega) (by omega)]
  omega
theorem xor_i64_zero (x : Int) (h0 : 0 ≤ x) (h1 : x < 9223372036854775808) : bXor .i64 x 0 = x := by
  obtain ⟨N, rfl⟩ := Int.eq_ofNat_of_zero_le h0
  show IntKind.i64.wrap (((BitVec.ofInt 64 (N : Int) ^^^ BitVec.ofInt 64 (0 : Int)).toNat : Nat) : Int) = _
  rw [show BitVec.ofInt 64 (0 : Int) = 0#64 from rfl, BitVec.xor_zero, BitVec.ofInt_natCast, BitVec.toNat_ofNat, Nat.mod_eq_of_lt (by omega)]
  exact wrap_i64 (by omega) (by omega)
theorem xor_i64_ones (x : Int) (h0 : 0 ≤ x) (h1 : x < 9223372036854775808) : bXor .i64 x (-1) = -x - 1 := by
  obtain ⟨N, rfl⟩ := Int.eq_ofNat_of_zero_le h0
  show IntKind.i64.wrap (((BitVec.ofInt 64 (N : Int) ^^^ BitVec.ofInt 64 (-1 : Int)).toNat : Nat) : Int) = _
  rw [show BitVec.ofInt 64 (-1 : Int) = BitVec.allOnes 64 by decide, BitVec.xor_allOnes, BitVec.toNat_not, BitVec.ofInt_natCast, BitVec.toNat_ofNat, Nat.mod_eq_of_lt (by omega)]
  simp only [IntKind.wrap, IntKind.signed, IntKind.bits]
  simp
  omega
theorem getInt_eq (fu : Nat) (b : List Int) (hb : By b) (hl : b.length ≤ 100000) (hfu : b.length < fu) (at' : Int) : packGetInt fu b at' = some (zag (got b at').1, (got b at').2.1, (got b at').2.2, ()) := by
  unfold packGetInt
  rw [packGet_eq fu b hb hl hfu]
  have hv : 0 ≤ (got b at').1 ∧ (got b at').1 < 18446744073709551616 := by
    generalize hq : got b at' = q
    obtain ⟨v, e, er⟩ := q
    by_cases h0 : er = 0
    · subst h0
      obtain ⟨g1, g2, g3, _⟩ := got_ok hb hq
      exact ⟨g2, g3⟩
    · unfold got at hq
      split at hq
      · cases hq; simp
      · have hz := get1_err (b.drop at'.toNat) 0 0
        unfold from1 at hq
        simp only [Prod.mk.injEq] at hq
        obtain ⟨rfl, _, h3⟩ := hq
        have := (hz (by rw [h3]; exact h0)).1
        rw [this]; omega
  generalize (got b at').1 = v at hv
  simp only [Option.bind_some]
  have e1 : sShr .u64 v 1 = v / 2 := by have := shr_eq v 1 (by omega); simpa using this
  have e2 : IntKind.i64.wrap (v / 2) = v / 2 := wrap_i64 (by omega) (by omega)
  have e3 : IntKind.i64.wrap (v % 2) = v % 2 := wrap_i64 (by omega) (by omega)
  have e4 : IntKind.i64.wrap (0 - v % 2) = 0 - v % 2 := wrap_i64 (by omega) (by omega)
  rw [and_one v hv.1 hv.2, e1, e2, e3, e4]
  unfold zag
  by_cases h : v % 2 = 0
  · rw [if_pos h, h, show (0 : Int) - 0 = 0 by rfl, xor_i64_zero _ (by omega) (by omega)]
  · rw [if_neg h, show v % 2 = 1 by omega, show (0 : Int) - 1 = -1 by rfl, xor_i64_ones _ (by omega) (by omega)]
theorem zag_zig (n : Int) : zag (zig n) = n := by
  unfold zag zig
  split <;> split <;> omega

/-- The document's bits. -/
theorem partsBits_eq (fu : Nat) (n : Int) (h0 : 0 ≤ n) (h1 : n < 18446744073709551616) : ((ref02OfBits fu n).bind fun r => ref02PartsBits fu r.1) = some (canon n.toNat, ()) := by
  unfold ref02OfBits ref02PartsBits ref02PartsNaN canon
  have t1 : Int.tdiv n 4503599627370496 = n / 4503599627370496 := Int.tdiv_eq_ediv_of_nonneg h0
  have t2 : IntKind.u64.wrap (n / 4503599627370496) = n / 4503599627370496 := wrap_u64 (by omega) (by omega)
  have t3 : Int.tmod (n / 4503599627370496) 2048 = n / 4503599627370496 % 2048 := Int.tmod_eq_emod_of_nonneg (by omega)
  have t4 : IntKind.i64.wrap (n / 4503599627370496 % 2048) = n / 4503599627370496 % 2048 := wrap_i64 (by omega) (by omega)
  have t5 : Int.tmod n 4503599627370496 = n % 4503599627370496 := Int.tmod_eq_emod_of_nonneg h0
  have t6 : IntKind.u64.wrap (n / 4503599627370496 % 2048) = n / 4503599627370496 % 2048 := wrap_u64 (by omega) (by omega)
  have t7 : IntKind.u64.wrap (n / 4503599627370496 % 2048 * 4503599627370496) = n / 4503599627370496 % 2048 * 4503599627370496 := wrap_u64 (by omega) (by omega)
  have t8 : IntKind.u64.wrap (n / 4503599627370496 % 2048 * 4503599627370496 + n % 4503599627370496) = n / 4503599627370496 % 2048 * 4503599627370496 + n % 4503599627370496 := wrap_u64 (by omega) (by omega)
  simp only [t1, t2, t3, t4, t5, t6, t7, t8, Option.bind_some]
  have hnan : isNan n.toNat ↔ n / 4503599627370496 % 2048 = 2047 ∧ n % 4503599627370496 ≠ 0 := by
    unfold isNan
    constructor
    · intro h; omega
    · rintro ⟨h1, h2⟩; omega
  by_cases hx : n / 4503599627370496 % 2048 = 2047
  · by_cases hy : n % 4503599627370496 = 0
    · rw [if_neg (fun h => (hnan.1 h).2 hy)]
      simp only [hx, hy, beq_self_eq_true, bne_self_eq_false, cond_true, cond_false, Option.bind_some]
      by_cases hs : n ≥ 9223372036854775808
      · have : IntKind.u64.wrap (2047 * 4503599627370496 + 0 + 9223372036854775808) = n := by rw [wrap_u64 (by omega) (by omega)]; omega
        simp only [hs, decide_true, cond_true, this]
        congr 2; omega
      · simp only [hs, decide_false, cond_false]
        congr 2; omega
    · rw [if_pos (hnan.2 ⟨hx, hy⟩)]
      have hy' : (n % 4503599627370496 != 0) = true := bne_iff_ne.2 hy
      simp only [hx, hy', beq_self_eq_true, cond_true, Option.bind_some]
  · rw [if_neg (fun h => hx (hnan.1 h).1)]
    have hx' : (n / 4503599627370496 % 2048 == 2047) = false := beq_false_of_ne hx
    simp only [hx', cond_false, Option.bind_some]
    by_cases hs : n ≥ 9223372036854775808
    · have : IntKind.u64.wrap (n / 4503599627370496 % 2048 * 4503599627370496 + n % 4503599627370496 + 9223372036854775808) = n := by rw [wrap_u64 (by omega) (by omega)]; omega
      simp only [hs, decide_true, cond_true, this]
      congr 2; omega
    · simp only [hs, decide_false, cond_false]
      congr 2; omega
theorem canon_canon (x : Nat) : canon (canon x).toNat = canon x := by
  unfold canon
  by_cases h : isNan x
  · rw [if_pos h, if_pos (by decide)]
  · rw [if_neg h, Int.toNat_natCast, if_neg h]
theorem putN_by : ∀ (k : Nat) (n : Int), 0 ≤ n → n < 2 * 128 ^ k → By (putN k n) := by
  intro k
  induction k with
  | zero => intro n h0 h1 x hx; simp [putN] at hx; simp at h1; omega
  | succ k ih =>
    intro n h0 h1 x hx
    unfold putN at hx
    split at hx
    · rcases List.mem_cons.1 hx with rfl | hx
      · omega
      · exact ih (n / 128) (by omega) (by rw [Int.pow_succ] at h1; omega) x hx
    · simp at hx; omega
theorem putN_by9 (n : Int) (h0 : 0 ≤ n) (h1 : n < 18446744073709551616) : By (putN 9 n) := by
  have hp : (2 : Int) * 128 ^ 9 = 18446744073709551616 := by decide
  exact putN_by 9 n h0 (by omega)
theorem by_app {a b : List Int} (ha : By a) (hb : By b) : By (a ++ b) := fun x hx => by
  rcases List.mem_append.1 hx with h | h
  · exact ha x h
  · exact hb x h
theorem cut_mid (a s r : List Int) : cutL (a ++ s ++ r) a.length (a.length + s.length) = s := by
  unfold cutL
  rw [List.append_assoc, show (a.length : Int).toNat = a.length by omega, List.drop_left, show ((a.length : Int) + s.length - a.length).toNat = s.length by omega, List.take_left]
theorem u64Of {x : Int} (h : inR .u64 x) : 0 ≤ x ∧ x < 18446744073709551616 := by
  simp [inR, IntKind.min, IntKind.max, IntKind.signed, IntKind.bits] at h
  omega
theorem i64Of {x : Int} (h : inR .i64 x) : -9223372036854775808 ≤ x ∧ x < 9223372036854775808 := by
  simp [inR, IntKind.min, IntKind.max, IntKind.signed, IntKind.bits] at h
  omega
theorem byOf {l : List Int} (h : (Kd.slice (.int .u8)).ok l) : By l := fun x hx => by
  have := h.2 x hx
  simp [Kd.ok, inR, IntKind.min, IntKind.max, IntKind.signed, IntKind.bits] at this
  omega

theorem ref_rounds (fu : Nat) (k1 : Int → Int → Int → Option (Int × Int × Int × Unit)) (b : List Int) (hb : By b) (hl : b.length ≤ 100000) (A : Nat) (hA : A ≤ b.length) : ∀ (m i : Nat) (n : Int), A + i ≤ b.length → b.length < A + i + m → i ≤ 9 → 0 ≤ n → n < 128 ^ i →
    ref03Get.l6 fu k1 m b A n (128 ^ i) i = fin1 k1 (fun _ => k1 0 0 3) A (get1 (b.drop (A + i)) i n) := by
  intro m
  induction m with
  | zero => intro i n h1 h2; omega
  | succ m ih =>
    intro i n h1 h2 hi9 hn0 hn
    unfold ref03Get.l6 ref03Get.b6
    have e0 : IntKind.i64.wrap ((A : Int) + i) = (A + i : Nat) := by rw [wrap_i64 (by omega) (by omega)]; omega
    by_cases hil : A + i < b.length
    · have hd : decide (((A + i : Nat) : Int) ≥ b.length) = false := decide_eq_false (by omega)
      have hix : ixOk b ((A + i : Nat) : Int) = true := by simp [ixOk]; omega
      have e1 : IntKind.i64.wrap ((i : Int) + 1) = (i + 1 : Nat) := wrap_i64 (by omega) (by omega)
      rw [List.drop_eq_getElem_cons hil]
      have hc := hb _ (List.getElem_mem hil)
      simp only [e0, hd, cond_false, chk, hix, cond_true, ixL_get hil]
      generalize b[A + i] = c at hc
      have hp := pow128_9 hi9
      have hle : ∀ q : Int, 0 ≤ q → q ≤ 127 → (i = 9 → q ≤ 1) → q * 128 ^ i + n < 18446744073709551616 := fun q h0 h1 h9 => by
        rcases Nat.lt_or_ge i 9 with h | h
        · have h8 : (128 : Int) ^ i ≤ 72057594037927936 := by
            have h1 : 128 ^ i ≤ 128 ^ 8 := Nat.pow_le_pow_right (by omega) (by omega)
            have e : (128 : Int) ^ i = ((128 ^ i : Nat) : Int) := by norm_cast
            rw [e]
            have : (128 : Nat) ^ 8 = 72057594037927936 := by decide
            omega
          have : q * 128 ^ i ≤ 127 * 72057594037927936 := Int.mul_le_mul h1 h8 (by omega) (by omega)
          omega
        · have : i = 9 := by omega
          subst this
          have := h9 rfl
          have : q * 128 ^ 9 ≤ 1 * 9223372036854775808 := Int.mul_le_mul this (by decide) (by decide) (by omega)
          omega
      have j11 : (i = 9 → c ≤ 1) → ∀ (K0 : List Int → Int → Int → Int → Int → Option (Int × Int × Int × Unit)) (K1 : Int → Int → Int → Option (Int × Int × Int × Unit)), ref03Get.j11 fu K0 K1 b A n (128 ^ i) i c = (if c ≥ 128 then K0 b A (n + (c - 128) * 128 ^ i) (128 ^ (i + 1)) (i + 1 : Nat) else if c = 0 ∧ i > 0 then K1 0 0 2 else K1 (n + c * 128 ^ i) (A + ((i : Int) + 1)) 0) := by
        intro h9 K0 K1
        unfold ref03Get.j11
        have e2 : Int.tmod c 128 = c % 128 := Int.tmod_eq_emod_of_nonneg hc.1
        have e3 : IntKind.u64.wrap (c % 128) = c % 128 := wrap_u64 (by omega) (by omega)
        have hq := hle (c % 128) (by omega) (by omega) (fun h => by have := h9 h; omega)
        have hnn : 0 ≤ (c % 128) * 128 ^ i := Int.mul_nonneg (by omega) (by omega)
        have e4 : IntKind.u64.wrap (c % 128 * 128 ^ i) = c % 128 * 128 ^ i := wrap_u64 hnn (by omega)
        have e5 : IntKind.u64.wrap (n + c % 128 * 128 ^ i) = n + c % 128 * 128 ^ i := wrap_u64 (by omega) (by omega)
        have e7 : IntKind.i64.wrap ((A : Int) + ((i + 1 : Nat) : Int)) = A + ((i : Int) + 1) := by rw [wrap_i64 (by omega) (by omega)]; omega
        simp only [e2, e3, e4, e5, e1, e7]
        by_cases h128 : c ≥ 128
        · have hlt : ¬ c < 128 := by omega
          have hi8 : i ≤ 8 := by
            rcases Nat.lt_or_ge i 9 with h | h
            · omega
            · have := h9 (by omega); omega
          have e8 : IntKind.u64.wrap (128 ^ i * 128) = 128 ^ (i + 1) := by
            rw [Int.pow_succ]
            have h8 : (128 : Int) ^ i ≤ 72057594037927936 := by
              have h1 : 128 ^ i ≤ 128 ^ 8 := Nat.pow_le_pow_right (by omega) (by omega)
              have e : (128 : Int) ^ i = ((128 ^ i : Nat) : Int) := by norm_cast
              rw [e]
              have : (128 : Nat) ^ 8 = 72057594037927936 := by decide
              omega
            exact wrap_u64 (by omega) (by omega)
          have : c % 128 = c - 128 := by omega
          simp only [hlt, decide_false, cond_false, e8, this, if_pos h128]
        · have hlt : c < 128 := by omega
          have : c % 128 = c := by omega
          simp only [hlt, decide_true, cond_true, this, if_neg h128]
          by_cases h0 : c = 0
          · subst h0
            by_cases hi0 : i > 0
            · have hd1 : decide (((i + 1 : Nat) : Int) > 1) = true := decide_eq_true (by omega)
              simp only [beq_self_eq_true, cond_true, hd1, hi0, and_self, if_true]
            · have hd1 : decide (((i + 1 : Nat) : Int) > 1) = false := decide_eq_false (by omega)
              simp only [beq_self_eq_true, cond_true, hd1, cond_false, hi0, and_false, if_false]
          · have h0' : (c == 0) = false := beq_false_of_ne h0
            simp only [h0', cond_false, h0, false_and, if_false]
      unfold get1
      by_cases h9 : i = 9 ∧ c > 1
      · have h9' : ((i : Int) == 9) = true := by rw [h9.1]; rfl
        have h1' : decide (c > 1) = true := decide_eq_true h9.2
        simp [h9', h1', if_pos h9, fin1]
      · have hside : i = 9 → c ≤ 1 := fun h => by
          by_cases hx : c > 1
          · exact absurd ⟨h, hx⟩ h9
          · omega
        rw [if_neg h9]
        have both : ∀ X Y : Option (Int × Int × Int × Unit), (cond ((i : Int) == 9) (cond (decide (c > 1)) X Y) Y) = Y := fun X Y => by
          cases hx : ((i : Int) == 9) with
          | false => rfl
          | true =>
            have : c ≤ 1 := hside (by have := eq_of_beq hx; omega)
            have hd : decide (c > 1) = false := decide_eq_false (by omega)
            simp only [cond_true, hd, cond_false]
        rw [j11 hside, both]
        by_cases h128 : c ≥ 128
        · have hi8 : i ≤ 8 := by
            rcases Nat.lt_or_ge i 9 with h | h
            · omega
            · have := hside (by omega); omega
          rw [if_pos h128, if_pos h128]
          have hq : (c - 128) * 128 ^ i + n < 128 ^ (i + 1) := by
            rw [Int.pow_succ]
            have : (c - 128) * 128 ^ i ≤ 127 * 128 ^ i := Int.mul_le_mul_of_nonneg_right (by omega) (by omega)
            omega
          exact ih (i + 1) _ (by omega) (by omega) (by omega) (by have : 0 ≤ (c - 128) * 128 ^ i := Int.mul_nonneg (by omega) (by omega); omega) (by omega)
        · rw [if_neg h128, if_neg h128]
          by_cases h0 : c = 0 ∧ i > 0
          · rw [if_pos h0, if_pos h0]; simp [fin1]
          · rw [if_neg h0, if_neg h0]; simp [fin1]
    · have hd : decide (((A + i : Nat) : Int) ≥ b.length) = true := decide_eq_true (by omega)
      rw [List.drop_of_length_le (by omega)]
      simp only [e0, hd, cond_true]
      simp [get1, fin1]
theorem refGet_eq (fu : Nat) (b : List Int) (hb : By b) (hl : b.length ≤ 100000) (hfu : b.length < fu) (at' : Int) : ref03Get fu b at' = some ((got b at').1, (got b at').2.1, (got b at').2.2, ()) := by
  unfold ref03Get got
  by_cases h1 : at' < 0
  · simp [h1]
  · by_cases h2 : at' > b.length
    · simp [h1, h2]
    · obtain ⟨A, rfl⟩ := Int.eq_ofNat_of_zero_le (show 0 ≤ at' by omega)
      have := ref_rounds fu (fun a c d => some (a, c, d, ())) b hb hl A (by omega) fu 0 0 (by omega) (by omega) (by omega) (by omega) (by simp)
      simp only [h1, h2, or_self, if_false, decide_false, cond_false]
      refine this.trans ?_
      simp only [Nat.add_zero, Int.toNat_natCast]
      generalize hq : get1 (b.drop A) 0 0 = q
      unfold fin1 from1
      by_cases h0 : q.2.2 = 0
      · simp [h0]
      · have hz := get1_err (b.drop A) 0 0
        rw [hq] at hz
        by_cases h3 : q.2.2 = 3
        · simp [h3, hz h0]
        · simp [h0, h3, hz h0]
theorem got_v {b : List Int} (hb : By b) (at' : Int) : 0 ≤ (got b at').1 ∧ (got b at').1 < 18446744073709551616 := by
  generalize hq : got b at' = q
  obtain ⟨v, e, er⟩ := q
  by_cases h0 : er = 0
  · subst h0
    obtain ⟨g1, g2, g3, _⟩ := got_ok hb hq
    exact ⟨g2, g3⟩
  · unfold got at hq
    split at hq
    · cases hq; simp
    · have hz := get1_err (b.drop at'.toNat) 0 0
      unfold from1 at hq
      simp only [Prod.mk.injEq] at hq
      obtain ⟨rfl, _, h3⟩ := hq
      have := (hz (by rw [h3]; exact h0)).1
      show 0 ≤ (get1 (b.drop at'.toNat) 0 0).1 ∧ _
      rw [this]; omega
theorem refGetInt_eq (fu : Nat) (b : List Int) (hb : By b) (hl : b.length ≤ 100000) (hfu : b.length < fu) (at' : Int) : ref03GetInt fu b at' = some (zag (got b at').1, (got b at').2.1, (got b at').2.2, ()) := by
  unfold ref03GetInt
  rw [refGet_eq fu b hb hl hfu]
  have hv := got_v hb at'
  generalize (got b at').1 = v at hv
  have e1 : Int.tmod v 2 = v % 2 := Int.tmod_eq_emod_of_nonneg hv.1
  have e2 : Int.tdiv v 2 = v / 2 := Int.tdiv_eq_ediv_of_nonneg hv.1
  have e3 : IntKind.u64.wrap (v / 2) = v / 2 := wrap_u64 (by omega) (by omega)
  have e4 : IntKind.i64.wrap (v / 2) = v / 2 := wrap_i64 (by omega) (by omega)
  have e5 : IntKind.i64.wrap (0 - v / 2) = 0 - v / 2 := wrap_i64 (by omega) (by omega)
  have e6 : IntKind.i64.wrap (0 - v / 2 - 1) = 0 - v / 2 - 1 := wrap_i64 (by omega) (by omega)
  simp only [Option.bind_some, e1, e2, e3, e4, e5, e6]
  unfold zag
  by_cases h : v % 2 = 0
  · simp [h]
  · have h' : (v % 2 == 0) = false := beq_false_of_ne h
    simp only [h', cond_false, if_neg h]
    congr 2
    omega
theorem refGetText_eq (fu : Nat) (b : List Int) (hb : By b) (hl : b.length ≤ 100000) (hfu : b.length < fu) (at' most : Int) (hm : -9223372036854775808 ≤ most ∧ most < 9223372036854775808) : ref03GetText fu b at' most = some ((text1 b at' most).1, (text1 b at' most).2.1, (text1 b at' most).2.2, ()) := by
  unfold ref03GetText text1
  rw [refGet_eq fu b hb hl hfu]
  generalize hq : got b at' = q
  obtain ⟨v, e, er⟩ := q
  simp only [Option.bind_some]
  by_cases h : er = 0
  · subst h
    obtain ⟨g1, g2, g3, j, g4, g5, g6, g7⟩ := got_ok hb hq
    have key : ∀ mm : Int, mm = max most 0 → ref03GetText.j6 fu (fun a c d => some (a, c, d, ())) b mm v e = some ((if v > max most 0 then (([] : List Int), (0 : Int), (4 : Int)) else if v > b.length - e then ([], 0, 3) else (cutL b e (e + v), e + v, 0)).1, (if v > max most 0 then (([] : List Int), (0 : Int), (4 : Int)) else if v > b.length - e then ([], 0, 3) else (cutL b e (e + v), e + v, 0)).2.1, (if v > max most 0 then (([] : List Int), (0 : Int), (4 : Int)) else if v > b.length - e then ([], 0, 3) else (cutL b e (e + v), e + v, 0)).2.2, ()) := fun mm hmm => by
      unfold ref03GetText.j6
      have e1 : IntKind.u64.wrap mm = max most 0 := by rw [hmm]; exact wrap_u64 (by omega) (by omega)
      have e2 : IntKind.u64.wrap (b.length : Int) = b.length := wrap_u64 (by omega) (by omega)
      have e3 : IntKind.i64.wrap ((b.length : Int) - e) = b.length - e := wrap_i64 (by omega) (by omega)
      simp only [e1, e2, e3]
      by_cases h1 : v > max most 0
      · simp [h1]
      · by_cases h2 : v > b.length
        · have h2' : v > b.length - e := by omega
          simp only [h1, h2, h2', decide_false, decide_true, cond_false, cond_true, if_false, if_true]
        · have e4 : IntKind.i64.wrap v = v := wrap_i64 (by omega) (by omega)
          have e5 : IntKind.i64.wrap (e + v) = e + v := wrap_i64 (by omega) (by omega)
          by_cases h3 : v > b.length - e
          · simp only [h1, h2, h3, e4, decide_false, decide_true, cond_false, cond_true, if_false, if_true]
          · simp only [h1, h2, h3, e4, e5, decide_false, cond_false, if_false, cutOk_of (show 0 ≤ e by omega) (show e ≤ e + v by omega) (show e + v ≤ b.length by omega), chk, cond_true]
    simp only [bne_self_eq_false, cond_false, ne_eq, not_true_eq_false, if_false]
    by_cases hlt : most < 0
    · simp only [hlt, decide_true, cond_true]
      exact key 0 (by omega)
    · simp only [hlt, decide_false, cond_false]
      exact key most (by omega)
  · have h' : (er != 0) = true := bne_iff_ne.2 h
    simp [h, h']
theorem refReal_rounds (fu : Nat) (k2 : Int → Int → Option (Nat × Int × Int × Unit)) (b : List Int) (hb : By b) (hl : b.length ≤ 100000) (A : Nat) (hA : A + 8 ≤ b.length) : ∀ (m i : Nat) (n : Int), i ≤ 8 → 8 < i + m → 0 ≤ n → n < 256 ^ i →
    ref03GetReal.l5 fu k2 m b A n i = k2 A (be ((cutL b A (A + 8 : Nat)).drop i) n) := by
  intro m
  have hlen : (cutL b (A : Int) ((A + 8 : Nat) : Int)).length = 8 := by rw [cut_len (by omega) (by omega) (by omega)]; omega
  induction m with
  | zero => intro i n h1 h2; omega
  | succ m ih =>
    intro i n h1 h2 h3 h4
    unfold ref03GetReal.l5 ref03GetReal.b5
    by_cases hi : i < 8
    · have hi' : (i : Int) < 8 := by omega
      have hil : A + i < b.length := by omega
      have hix : ixOk b ((A + i : Nat) : Int) = true := by simp [ixOk]; omega
      have hc := hb _ (List.getElem_mem hil)
      have e0 : IntKind.i64.wrap ((A : Int) + i) = (A + i : Nat) := by rw [wrap_i64 (by omega) (by omega)]; omega
      have e1 : IntKind.i64.wrap ((i : Int) + 1) = (i + 1 : Nat) := wrap_i64 (by omega) (by omega)
      have hp : (256 : Int) ^ i ≤ 72057594037927936 := by
        have h1 : 256 ^ i ≤ 256 ^ 7 := Nat.pow_le_pow_right (by omega) (by omega)
        have e : (256 : Int) ^ i = ((256 ^ i : Nat) : Int) := by rw [Int.natCast_pow]; rfl
        rw [e]
        have : (256 : Nat) ^ 7 = 72057594037927936 := by decide
        omega
      have hget : (cutL b (A : Int) ((A + 8 : Nat) : Int))[i]'(by omega) = b[A + i] := by
        unfold cutL
        rw [List.getElem_take, List.getElem_drop]
        simp only [Int.toNat_natCast]
      rw [List.drop_eq_getElem_cons (by omega), hget]
      simp only [hi', decide_true, cond_true, e0, chk, hix, ixL_get hil, e1]
      generalize b[A + i] = c at hc
      have e2 : IntKind.u64.wrap (n * 256) = n * 256 := wrap_u64 (by omega) (by omega)
      have e3 : IntKind.u64.wrap c = c := wrap_u64 (by omega) (by omega)
      have e4 : IntKind.u64.wrap (n * 256 + c) = n * 256 + c := wrap_u64 (by omega) (by omega)
      rw [e2, e3, e4, ih (i + 1) (n * 256 + c) (by omega) (by omega) (by omega) (by rw [Int.pow_succ]; omega)]
      rfl
    · have : i = 8 := by omega
      subst this
      rw [List.drop_of_length_le (by omega)]
      simp [be]
theorem refGetReal_eq (fu : Nat) (hfu : 10 ≤ fu) (b : List Int) (hb : By b) (hl : b.length ≤ 100000) (at' : Int) : ref03GetReal fu b at' = some ((real1 b at').1, (real1 b at').2.1, (real1 b at').2.2, ()) := by
  unfold ref03GetReal real1
  by_cases h1 : at' < 0
  · simp [h1]
  · have e1 : IntKind.i64.wrap ((b.length : Int) - 8) = b.length - 8 := wrap_i64 (by omega) (by omega)
    by_cases h2 : at' > b.length - 8
    · simp [h1, e1, h2]
    · obtain ⟨A, rfl⟩ := Int.eq_ofNat_of_zero_le (show 0 ≤ at' by omega)
      have e2 : IntKind.i64.wrap ((A : Int) + 8) = A + 8 := wrap_i64 (by omega) (by omega)
      have hlen : (cutL b A (A + 8)).length = 8 := by rw [cut_len (by omega) (by omega) (by omega)]; omega
      have hby : By (cutL b A (A + 8)) := by_cut hb _ _
      have hu := be_u64 hby hlen
      simp only [h1, h2, e1, decide_false, cond_false, or_self, if_false]
      have := refReal_rounds fu (fun atvq2 nq2 =>
          (ref02OfBits fu nq2).bind fun r2 =>
          (ref02PartsBits fu r2.1).bind fun r3 =>
          cond (r3.1 != nq2) (
            some ((0 : Nat), (0 : Int), (2 : Int), ())) (
            (extFrom.f fu (nq2, ())).bind fun r4 =>
            let t5 := IntKind.i64.wrap (atvq2 + (8 : Int))
            some (r4.1, t5, (0 : Int), ()))) b hb hl A (by omega) fu 0 0 (by omega) (by omega) (by omega) (by simp)
      refine this.trans ?_
      rw [List.drop_zero, show ((A + 8 : Nat) : Int) = (A : Int) + 8 from rfl]
      generalize be (cutL b A (A + 8)) 0 = n at hu
      have hpb := partsBits_eq fu n hu.1 hu.2
      obtain ⟨p, hp⟩ : ∃ p, ref02OfBits fu n = some p := ⟨_, rfl⟩
      rw [hp] at hpb ⊢
      have hpb : ref02PartsBits fu p.1 = some (canon n.toNat, ()) := hpb
      simp only [Option.bind_some, hpb, e2]
      by_cases h3 : canon n.toNat = n
      · have h3' : (canon n.toNat != n) = false := by rw [h3]; exact bne_self_eq_false _
        rw [if_pos h3, h3']; rfl
      · have h3' : (canon n.toNat != n) = true := bne_iff_ne.2 h3
        rw [if_neg h3, h3']; rfl


/-! ### Values -/
abbrev Va : Type := Int × Int × Nat × List Int × Unit
def noVa : Va := ((0 : Int), (0 : Int), (0 : Nat), [], ())
def val1 (b : List Int) (at' : Int) : Va × Int × Int :=
  if at' < 0 ∨ at' ≥ b.length then (noVa, 0, 3) else
  if ixL (0 : Int) b at' = 0 then (noVa, at' + 1, 0) else
  if ixL (0 : Int) b at' = 1 then (if (got b (at' + 1)).2.2 = 0 then (((1 : Int), zag (got b (at' + 1)).1, (0 : Nat), [], ()), (got b (at' + 1)).2.1, 0) else (noVa, 0, (got b (at' + 1)).2.2)) else
  if ixL (0 : Int) b at' = 2 then (if (real1 b (at' + 1)).2.2 = 0 then (((2 : Int), (0 : Int), (real1 b (at' + 1)).1, [], ()), (real1 b (at' + 1)).2.1, 0) else (noVa, 0, (real1 b (at' + 1)).2.2)) else
  if ixL (0 : Int) b at' = 3 then (if (text1 b (at' + 1) 255).2.2 = 0 then (((3 : Int), (0 : Int), (0 : Nat), (text1 b (at' + 1) 255).1, ()), (text1 b (at' + 1) 255).2.1, 0) else (noVa, 0, (text1 b (at' + 1) 255).2.2)) else
  (noVa, 0, 11)
theorem ne_bne {x y : Int} (h : ¬ x = y) : (x != y) = true := bne_iff_ne.2 h
theorem ne_beq {x y : Int} (h : ¬ x = y) : (x == y) = false := beq_false_of_ne h
theorem valueGet_eq (fu : Nat) (b : List Int) (hb : By b) (hl : b.length ≤ 100000) (hfu : b.length < fu) (hfu2 : 10 ≤ fu) (at' : Int) : valueGet fu b at' = some ((val1 b at').1, (val1 b at').2.1, (val1 b at').2.2, ()) := by
  unfold valueGet val1
  by_cases h1 : at' < 0
  · rw [if_pos (Or.inl h1), decide_eq_true h1]; rfl
  · by_cases h2 : at' ≥ (b.length : Int)
    · rw [if_pos (Or.inr h2), decide_eq_false h1, decide_eq_true h2]; rfl
    · have e0 : ixOk b at' = true := by unfold ixOk; simp; omega
      have e1 : IntKind.i64.wrap (at' + 1) = at' + 1 := wrap_i64 (by omega) (by omega)
      rw [if_neg (by omega), decide_eq_false h1, decide_eq_false h2]
      simp only [cond_false, e0, e1, chk, cond_true, valueGet.j14]
      generalize ixL (0 : Int) b at' = c
      by_cases c0 : c = 0
      · subst c0; simp [noVa]
      · by_cases c1 : c = 1
        · subst c1
          simp only [ne_beq c0, beq_self_eq_true, cond_true, cond_false, if_neg c0, if_true, getInt_eq fu b hb hl hfu, Option.bind_some]
          by_cases e : (got b (at' + 1)).2.2 = 0
          · simp only [e, bne_self_eq_false, cond_false, if_true]
          · simp only [ne_bne e, cond_true, if_neg e, noVa]
        · by_cases c2 : c = 2
          · subst c2
            simp only [ne_beq c0, ne_beq c1, beq_self_eq_true, cond_true, cond_false, if_neg c0, if_neg c1, if_true, getReal_eq fu hfu2 b hb hl, Option.bind_some]
            by_cases e : (real1 b (at' + 1)).2.2 = 0
            · simp only [e, bne_self_eq_false, cond_false, if_true]
            · simp only [ne_bne e, cond_true, if_neg e, noVa]
          · by_cases c3 : c = 3
            · subst c3
              simp only [ne_beq c0, ne_beq c1, ne_beq c2, beq_self_eq_true, cond_true, cond_false, if_neg c0, if_neg c1, if_neg c2, if_true, getText_eq fu b hb hl hfu (at' + 1) 255 (by omega), Option.bind_some]
              by_cases e : (text1 b (at' + 1) 255).2.2 = 0
              · simp only [e, bne_self_eq_false, cond_false, if_true]
              · simp only [ne_bne e, cond_true, if_neg e, noVa]
            · simp only [ne_beq c0, ne_beq c1, ne_beq c2, ne_beq c3, cond_false, if_neg c0, if_neg c1, if_neg c2, if_neg c3, noVa, ne_bne (show ¬ (11 : Int) = 0 by decide), cond_true]
theorem refVGet_eq (fu : Nat) (b : List Int) (hb : By b) (hl : b.length ≤ 100000) (hfu : b.length < fu) (hfu2 : 10 ≤ fu) (at' : Int) : ref04Get fu b at' = some ((val1 b at').1, (val1 b at').2.1, (val1 b at').2.2, ()) := by
  unfold ref04Get val1
  by_cases h1 : at' < 0
  · rw [if_pos (Or.inl h1), decide_eq_true h1]; rfl
  · by_cases h2 : at' ≥ (b.length : Int)
    · rw [if_pos (Or.inr h2), decide_eq_false h1, decide_eq_true h2]; rfl
    · have e0 : ixOk b at' = true := by unfold ixOk; simp; omega
      have e1 : IntKind.i64.wrap (at' + 1) = at' + 1 := wrap_i64 (by omega) (by omega)
      rw [if_neg (by omega), decide_eq_false h1, decide_eq_false h2]
      simp only [cond_false, e0, e1, chk, cond_true]
      generalize ixL (0 : Int) b at' = c
      by_cases c0 : c = 0
      · subst c0; simp [noVa]
      · by_cases c1 : c = 1
        · subst c1
          simp only [ne_beq c0, beq_self_eq_true, cond_true, cond_false, if_neg c0, if_true, refGetInt_eq fu b hb hl hfu, Option.bind_some]
          by_cases e : (got b (at' + 1)).2.2 = 0
          · simp only [e, bne_self_eq_false, cond_false, if_true]
          · simp only [ne_bne e, cond_true, if_neg e, noVa]
        · by_cases c2 : c = 2
          · subst c2
            simp only [ne_beq c0, ne_beq c1, beq_self_eq_true, cond_true, cond_false, if_neg c0, if_neg c1, if_true, refGetReal_eq fu hfu2 b hb hl, Option.bind_some]
            by_cases e : (real1 b (at' + 1)).2.2 = 0
            · simp only [e, bne_self_eq_false, cond_false, if_true]
            · simp only [ne_bne e, cond_true, if_neg e, noVa]
          · by_cases c3 : c = 3
            · subst c3
              simp only [ne_beq c0, ne_beq c1, ne_beq c2, beq_self_eq_true, cond_true, cond_false, if_neg c0, if_neg c1, if_neg c2, if_true, refGetText_eq fu b hb hl hfu (at' + 1) 255 (by omega), Option.bind_some]
              by_cases e : (text1 b (at' + 1) 255).2.2 = 0
              · simp only [e, bne_self_eq_false, cond_false, if_true]
              · simp only [ne_bne e, cond_true, if_neg e, noVa]
            · simp only [ne_beq c0, ne_beq c1, ne_beq c2, ne_beq c3, cond_false, if_neg c0, if_neg c1, if_neg c2, if_neg c3, noVa]
def F64 (x : Nat) : Prop := x < 18446744073709551616
theorem from_bind {β : Type} (fu x : Nat) (K : (Kd.struct extFrom.rs).T → Option β) : (extFrom.f fu ((x : Int), ())).bind K = K (x, ()) := rfl
theorem extBits_eq (fu : Nat) {x : Nat} (h : F64 x) : extBits.f fu (x, ()) = some ((x : Int), ()) := by
  show (match decide (x < 18446744073709551616) with | true => some ((x : Int), ()) | false => none) = _
  have : decide (x < 18446744073709551616) = true := decide_eq_true (show x < 18446744073709551616 from h)
  rw [this]
theorem bits_bind {β : Type} (fu : Nat) {x : Nat} (h : F64 x) (K : (Kd.struct extBits.rs).T → Option β) : (extBits.f fu (x, ())).bind K = K ((x : Int), ()) := by rw [extBits_eq fu h]; rfl
/-- May a value be? -/
def mayV (v : Va) : Bool := decide (v.1 ≤ 3) && (decide (v.2.1 = 0) || decide (v.1 = 1)) && (decide (v.2.2.1 = 0) || decide (v.1 = 2)) && (decide (v.2.2.2.1 = []) || decide (v.1 = 3)) && decide (v.2.2.2.1.length ≤ 255)
theorem valueMay_eq (fu : Nat) (v : Va) (h : F64 v.2.2.1) : valueMay fu v = some (mayV v, ()) := by
  obtain ⟨k, i, x, s, u⟩ := v
  have h0 : F64 0 := by unfold F64; omega
  have q1 : ∀ y : Nat, (((0 : Nat) : Int) == (y : Int)) = decide (y = 0) := fun y => by
    by_cases hy : y = 0
    · subst hy; rfl
    · rw [decide_eq_false hy]; exact ne_beq (by omega)
  have q2 : ∀ y : Int, ((0 : Int) == y) = decide (y = 0) := fun y => by
    by_cases hy : y = 0
    · subst hy; rfl
    · rw [decide_eq_false hy]; exact ne_beq (by omega)
  have q3 : ∀ y : List Int, (([] : List Int) == y) = decide (y = []) := fun y => by cases y <;> rfl
  have q4 : decide ((s.length : Int) ≤ 255) = decide (s.length ≤ 255) := by
    by_cases hs : s.length ≤ 255
    · rw [decide_eq_true hs, decide_eq_true (by omega)]
    · rw [decide_eq_false hs, decide_eq_false (by omega)]
  have h' : F64 x := h
  unfold valueMay valueHeld mayV
  by_cases k1 : k = 1
  · subst k1
    simp only [beq_self_eq_true, cond_true, Option.bind_some, bits_bind fu h', bits_bind fu h0, q1, q3, q4]
    cases decide (s.length ≤ 255) <;> cases decide (s = []) <;> cases decide (x = 0) <;> simp
  · by_cases k2 : k = 2
    · subst k2
      simp only [ne_beq (show ¬ (2 : Int) = 1 by decide), beq_self_eq_true, cond_true, cond_false, Option.bind_some, bits_bind fu h', q2, q3, q4]
      cases decide (s.length ≤ 255) <;> cases decide (s = []) <;> cases decide (i = 0) <;> simp
    · by_cases k3 : k = 3
      · subst k3
        simp only [ne_beq (show ¬ (3 : Int) = 1 by decide), ne_beq (show ¬ (3 : Int) = 2 by decide), beq_self_eq_true, cond_true, cond_false, Option.bind_some, bits_bind fu h', bits_bind fu h0, q1, q2, q4]
        cases decide (s.length ≤ 255) <;> cases decide (i = 0) <;> cases decide (x = 0) <;> simp
      · simp only [ne_beq k1, ne_beq k2, ne_beq k3, cond_false, Option.bind_some, bits_bind fu h', bits_bind fu h0, q1, q2, q3, q4, k1, k2, k3, decide_false, Bool.or_false]
        cases decide (k ≤ 3) <;> cases decide (s.length ≤ 255) <;> cases decide (i = 0) <;> cases decide (x = 0) <;> cases decide (s = []) <;> simp
/-- Are two the same? -/
def same4 (a b : Va) : Bool := decide (a.1 = b.1) && (if a.1 = 1 then decide (a.2.1 = b.2.1) else if a.1 = 2 then decide (canon a.2.2.1 = canon b.2.2.1) else if a.1 = 3 then decide (a.2.2.2.1 = b.2.2.2.1) else true)
theorem refBits_bind {β : Type} (fu : Nat) {x : Nat} (h : F64 x) (K : Int × Unit → Option β) : ((ref02Of fu x).bind fun r1 => (ref02PartsBits fu r1.1).bind K) = K (canon x, ()) := by
  unfold ref02Of
  rw [bits_bind fu h]
  have h' : x < 18446744073709551616 := h
  have e := partsBits_eq fu (x : Int) (by omega) (by omega)
  rw [Int.toNat_natCast] at e
  show ((((ref02OfBits fu (x : Int)).bind fun r2 => some (r2.1, ())).bind fun r1 => (ref02PartsBits fu r1.1).bind K)) = _
  cases hq : ref02OfBits fu (x : Int) with
  | none => rw [hq] at e; exact absurd e (by simp)
  | some r =>
    rw [hq] at e
    simp only [Option.bind_some] at e ⊢
    rw [e]; rfl
theorem same4_eq (fu : Nat) (a b : Va) (ha : F64 a.2.2.1) (hb : F64 b.2.2.1) : ref04Same fu a b = some (same4 a b, ()) := by
  unfold ref04Same same4
  by_cases h : a.1 = b.1
  · simp only [h, bne_self_eq_false, cond_false, decide_true, Bool.true_and]
    by_cases k1 : b.1 = 1
    · simp only [k1, beq_self_eq_true, cond_true, if_true]
      congr 2
    · by_cases k2 : b.1 = 2
      · simp only [k2, ne_beq (show ¬ (2 : Int) = 1 by decide), beq_self_eq_true, cond_true, cond_false, show ¬ (2 : Int) = 1 by decide, if_false, if_true]
        rw [refBits_bind fu ha, refBits_bind fu hb]
        congr 2
      · by_cases k3 : b.1 = 3
        · simp only [k3, ne_beq (show ¬ (3 : Int) = 1 by decide), ne_beq (show ¬ (3 : Int) = 2 by decide), beq_self_eq_true, cond_true, cond_false, show ¬ (3 : Int) = 1 by decide, show ¬ (3 : Int) = 2 by decide, if_false, if_true]
          congr 2
          cases hq : decide (a.2.2.2.1 = b.2.2.2.1) with
          | true => rw [of_decide_eq_true hq]; exact beq_self_eq_true _
          | false => exact beq_false_of_ne (of_decide_eq_false hq)
        · simp only [ne_beq k1, ne_beq k2, ne_beq k3, cond_false, if_neg k1, if_neg k2, if_neg k3]
  · simp only [ne_bne h, cond_true, decide_eq_false h, Bool.false_and]
theorem same4_refl (a : Va) : same4 a a = true := by
  unfold same4
  simp
/-- A value's writing. -/
def putV (v : Va) : List Int := v.1 :: (if v.1 = 1 then putN 9 (zig v.2.1) else if v.1 = 2 then bytes8 (canon v.2.2.1) else if v.1 = 3 then putN 9 v.2.2.2.1.length ++ v.2.2.2.1 else [])
/-- A value's parts fit. -/
def vaOk (v : Va) : Prop := (0 ≤ v.1 ∧ v.1 ≤ 255) ∧ (-9223372036854775808 ≤ v.2.1 ∧ v.2.1 < 9223372036854775808) ∧ F64 v.2.2.1 ∧ By v.2.2.2.1
theorem mkOk0 {n : Int} (h0 : 0 ≤ n) (h1 : n ≤ 500000) : mkOk (0 : Int) n 1 = true := by
  have hL : (1000000 : Int) ≤ (LIM : Int) := by decide
  unfold mkOk
  simp only [Bool.and_eq_true, decide_eq_true_eq]
  omega
theorem mayV_len {v : Va} (h : mayV v = true) : v.2.2.2.1.length ≤ 255 := by
  unfold mayV at h; simp only [Bool.and_eq_true, decide_eq_true_eq] at h; exact h.2
theorem putReal_eq' (fu : Nat) (hfu : 9 ≤ fu) (b : List Int) (x : Nat) (hl : b.length ≤ 400000) (hx : x < 18446744073709551616) : packPutRealDat fu b x = some (b ++ bytes8 (canon x), ()) := by
  have := putReal_eq (fu - 9) b x hl hx
  rwa [show fu - 9 + 9 = fu by omega] at this
theorem valuePut_eq (fu : Nat) (hfu : 12 ≤ fu) (b : List Int) (v : Va) (hl : b.length ≤ 300000) (hv : vaOk v) : valuePut fu b v = some (if mayV v = true then b ++ putV v else [], if mayV v = true then 0 else 1, ()) := by
  unfold valuePut
  simp only [valueMay_eq fu v hv.2.2.1, Option.bind_some]
  by_cases hm : mayV v = true
  · have e1 : IntKind.i64.wrap ((b.length : Int) + 1) = b.length + 1 := wrap_i64 (by omega) (by omega)
    have e2 : mkOk (0 : Int) ((b.length : Int) + 1) 1 = true := mkOk0 (by omega) (by omega)
    have e3 : apOk ([] : List Int) b 1 = true := apOk1 (by simp; omega)
    have e4 : apOk b [v.1] 1 = true := apOk1 (by simp; omega)
    have hlen := mayV_len hm
    simp only [hm, Bool.not_true, cond_false, e1, e2, chk, cond_true, if_true, Int.toNat_zero, List.replicate_zero, e3, List.nil_append, e4]
    unfold putV
    by_cases k1 : v.1 = 1
    · simp only [k1, beq_self_eq_true, cond_true, putInt_eq fu hfu (b ++ [1]) v.2.1 (by simp; omega) hv.2.1.1 hv.2.1.2, Option.bind_some, if_true, List.append_assoc, List.singleton_append]
    · by_cases k2 : v.1 = 2
      · simp only [k2, ne_beq (show ¬ (2 : Int) = 1 by decide), beq_self_eq_true, cond_true, cond_false, putReal_eq' fu (by omega) (b ++ [2]) v.2.2.1 (by simp; omega) hv.2.2.1, Option.bind_some, show ¬ (2 : Int) = 1 by decide, if_false, if_true, List.append_assoc, List.singleton_append]
      · by_cases k3 : v.1 = 3
        · simp only [k3, ne_beq (show ¬ (3 : Int) = 1 by decide), ne_beq (show ¬ (3 : Int) = 2 by decide), beq_self_eq_true, cond_true, cond_false, putText_eq fu hfu (b ++ [3]) v.2.2.2.1 (by simp; omega) (by omega), Option.bind_some, show ¬ (3 : Int) = 1 by decide, show ¬ (3 : Int) = 2 by decide, if_false, if_true, List.append_assoc, List.nil_append, List.cons_append]
        · simp only [ne_beq k1, ne_beq k2, ne_beq k3, cond_false, if_neg k1, if_neg k2, if_neg k3]
  · have hm' : mayV v = false := by simpa using hm
    simp [hm']
theorem zig_zag {v : Int} (h : 0 ≤ v) : zig (zag v) = v := by
  unfold zag zig
  split <;> split <;> omega
theorem canon_of_cut {b : List Int} {at' : Int} {x : Nat} {e : Int} (h : real1 b at' = (x, e, 0)) : canon x = x := by
  unfold real1 at h
  split at h
  · cases h
  · split at h
    · rename_i hc
      simp only [Prod.mk.injEq, and_true] at h
      obtain ⟨rfl, -⟩ := h
      rw [hc]
      unfold canon at hc
      split at hc <;> omega
    · cases h
theorem text_short {b : List Int} (hb : By b) {at' e : Int} {s : List Int} (hq : text1 b at' 255 = (s, e, 0)) : s.length ≤ 255 ∧ By s := by
  unfold text1 at hq
  split at hq
  · rename_i h0
    simp only [Prod.mk.injEq] at hq
    exact absurd hq.2.2 h0
  · split at hq
    · cases hq
    · split at hq
      · cases hq
      · rename_i _ h1 h2
        simp only [Prod.mk.injEq, and_true] at hq
        obtain ⟨rfl, rfl⟩ := hq
        refine ⟨?_, by_cut hb _ _⟩
        unfold cutL
        rw [List.length_take]
        omega
/-- What is got is put as it stood. -/
theorem val_ok {b : List Int} (hb : By b) (hl : b.length ≤ 100000) {at' e : Int} {v : Va} (h : val1 b at' = (v, e, 0)) : 0 ≤ at' ∧ at' < e ∧ e ≤ b.length ∧ vaOk v ∧ mayV v = true ∧ cutL b at' e = putV v := by
  unfold val1 at h
  split at h
  · cases h
  · rename_i hat
    have h0 : 0 ≤ at' := by omega
    have hx : ixL (0 : Int) b at' = b[at'.toNat]'(by omega) := by
      have := ixL_get (l := b) (i := at'.toNat) (by omega)
      rwa [show ((at'.toNat : Nat) : Int) = at' by omega] at this
    have cut1 : cutL b at' (at' + 1) = [ixL (0 : Int) b at'] := by
      unfold cutL
      rw [hx, show (at' + 1 - at').toNat = 1 by omega, List.drop_eq_getElem_cons (show at'.toNat < b.length by omega)]
      rfl
    generalize hc : ixL (0 : Int) b at' = c at h cut1
    have f0 : F64 0 := by unfold F64; omega
    split at h
    · rename_i c0
      subst c0
      cases h
      exact ⟨h0, by omega, by omega, ⟨by decide, by decide, f0, fun _ hx => nomatch hx⟩, by decide, by rw [cut1]; rfl⟩
    · split at h
      · rename_i c0 c1
        subst c1
        generalize hq : got b (at' + 1) = q at h
        obtain ⟨w, e', er⟩ := q
        simp only at h
        split at h
        · rename_i hz
          subst hz
          simp only [Prod.mk.injEq, and_true] at h
          obtain ⟨rfl, rfl⟩ := h
          obtain ⟨g1, g2, g3, j, g4, g5, g6, g7⟩ := got_ok hb hq
          refine ⟨h0, by omega, by omega, ⟨by simp, ?_, f0, fun _ hx => nomatch hx⟩, by simp [mayV], ?_⟩
          · show -9223372036854775808 ≤ zag _ ∧ zag _ < 9223372036854775808
            unfold zag; split <;> omega
          · rw [← cut_app h0 (show at' ≤ at' + 1 by omega) (by omega) (by omega), cut1, g7]
            show _ = (1 : Int) :: (if (1 : Int) = 1 then putN 9 (zig (zag _)) else _)
            rw [if_pos rfl, zig_zag g2]; rfl
        · rename_i hz
          simp only [Prod.mk.injEq] at h
          exact absurd h.2.2 hz
      · split at h
        · rename_i c0 c1 c2
          subst c2
          generalize hq : real1 b (at' + 1) = q at h
          obtain ⟨w, e', er⟩ := q
          simp only at h
          split at h
          · rename_i hz
            subst hz
            simp only [Prod.mk.injEq, and_true] at h
            obtain ⟨rfl, rfl⟩ := h
            obtain ⟨g1, g2, g3, g4, g5⟩ := real_ok hb hq
            refine ⟨h0, by omega, by omega, ⟨by simp, by simp, g4, fun _ hx => nomatch hx⟩, by simp [mayV], ?_⟩
            rw [← cut_app h0 (show at' ≤ at' + 1 by omega) (by omega) (by omega), cut1, g5]
            rfl
          · rename_i hz
            simp only [Prod.mk.injEq] at h
            exact absurd h.2.2 hz
        · split at h
          · rename_i c0 c1 c2 c3
            subst c3
            generalize hq : text1 b (at' + 1) 255 = q at h
            obtain ⟨s, e', er⟩ := q
            simp only at h
            split at h
            · rename_i hz
              subst hz
              simp only [Prod.mk.injEq, and_true] at h
              obtain ⟨rfl, rfl⟩ := h
              obtain ⟨g1, g2, g3, g4, g5⟩ := text_ok hb hq
              have hs := text_short hb hq
              refine ⟨h0, by omega, by omega, ⟨by simp, by simp, f0, hs.2⟩, ?_, ?_⟩
              · unfold mayV; simp; exact hs.1
              · rw [← cut_app h0 (show at' ≤ at' + 1 by omega) (by omega) (by omega), cut1, g5]
                rfl
            · rename_i hz
              simp only [Prod.mk.injEq] at h
              exact absurd h.2.2 hz
          · simp only [Prod.mk.injEq] at h
            exact absurd h.2.2 (by decide)
theorem refPut_rounds (fu : Nat) (k2 : Int → List Int → Option (((List Int) × Unit) × (Unit))) : ∀ (k m : Nat) (n : Int) (out : List Int), k < m → 0 ≤ n → n < 128 ^ (k + 1) → n < 18446744073709551616 → out.length + k ≤ 500000 →
    ∃ last init, putN k n = init ++ [last] ∧ 0 ≤ last ∧ last < 128 ∧ ref03Put.l3 fu k2 m n out = k2 last (out ++ init) := by
  intro k
  induction k with
  | zero =>
    intro m n out hm h0 h1 _ hl
    obtain ⟨m, rfl⟩ : ∃ j, m = j + 1 := ⟨m - 1, by omega⟩
    have hn : ¬ n ≥ 128 := by have : (128 : Int) ^ (0 + 1) = 128 := by decide
                              omega
    refine ⟨n, [], by simp [putN], h0, by omega, ?_⟩
    unfold ref03Put.l3 ref03Put.b3
    simp [hn]
  | succ k ih =>
    intro m n out hm h0 h1 h64 hl
    obtain ⟨m, rfl⟩ : ∃ j, m = j + 1 := ⟨m - 1, by omega⟩
    unfold ref03Put.l3 ref03Put.b3 putN
    by_cases hn : n ≥ 128
    · have t1 : Int.tmod n 128 = n % 128 := Int.tmod_eq_emod_of_nonneg h0
      have t2 : Int.tdiv n 128 = n / 128 := Int.tdiv_eq_ediv_of_nonneg h0
      have e1 : IntKind.u64.wrap (n / 128) = n / 128 := wrap_u64 (by omega) (by omega)
      have e2 : IntKind.u8.wrap (IntKind.u64.wrap (n % 128 + 128)) = n % 128 + 128 := by rw [wrap_u64 (by omega) (by omega), wrap_u8]; omega
      rw [pow_succ128] at h1
      obtain ⟨last, init, q1, q2, q3, q4⟩ := ih m (n / 128) (out ++ [n % 128 + 128]) (by omega) (by omega) (by omega) (by omega) (by simp; omega)
      refine ⟨last, (n % 128 + 128) :: init, by rw [if_pos hn, q1]; rfl, q2, q3, ?_⟩
      have e3 : apOk out [n % 128 + 128] 1 = true := apOk1 (by simp; omega)
      simp only [hn, decide_true, cond_true, t1, t2, e1, e2, e3, chk]
      rw [q4, List.append_assoc]
      rfl
    · refine ⟨n, [], by rw [if_neg hn]; rfl, h0, by omega, ?_⟩
      simp [hn]
theorem refPut_eq (fu : Nat) (hfu : 12 ≤ fu) (b : List Int) (n : Int) (hl : b.length ≤ 400000) (h0 : 0 ≤ n) (h1 : n < 18446744073709551616) : ref03Put fu b n = some ((b ++ putN 9 n, ()), ()) := by
  have hp : (128 : Int) ^ (9 + 1) = 1180591620717411303424 := by decide
  obtain ⟨last, init, p1, p2, p3, p4⟩ := refPut_rounds fu (fun nq2 outq2 => 
      chk (apOk outq2 ([IntKind.u8.wrap nq2]) 1) <|
      let t3 := outq2 ++ ([IntKind.u8.wrap nq2])
      some ((t3, ()), (()))) 9 fu n b (by omega) h0 (by omega) h1 (by omega)
  have hlen := putN_len 9 n
  rw [p1] at hlen
  simp only [List.length_append, List.length_cons, List.length_nil] at hlen
  have e1 : IntKind.u8.wrap last = last := by rw [wrap_u8]; omega
  have e2 : apOk (b ++ init) [last] 1 = true := apOk1 (by simp; omega)
  have e3 : apOk ([] : List Int) b 1 = true := apOk1 (by simp; omega)
  unfold ref03Put
  simp only [e3, chk, cond_true, List.nil_append]
  refine p4.trans ?_
  simp only [e1, e2, chk, cond_true, p1, List.append_assoc]
theorem refPutD_rounds (fu : Nat) (k2 : Int → List Int → Option ((List Int) × Unit)) : ∀ (k m : Nat) (n : Int) (out : List Int), k < m → 0 ≤ n → n < 128 ^ (k + 1) → n < 18446744073709551616 → out.length + k ≤ 500000 →
    ∃ last init, putN k n = init ++ [last] ∧ 0 ≤ last ∧ last < 128 ∧ ref03PutDat.l3 fu k2 m n out = k2 last (out ++ init) := by
  intro k
  induction k with
  | zero =>
    intro m n out hm h0 h1 _ hl
    obtain ⟨m, rfl⟩ : ∃ j, m = j + 1 := ⟨m - 1, by omega⟩
    have hn : ¬ n ≥ 128 := by have : (128 : Int) ^ (0 + 1) = 128 := by decide
                              omega
    refine ⟨n, [], by simp [putN], h0, by omega, ?_⟩
    unfold ref03PutDat.l3 ref03PutDat.b3
    simp [hn]
  | succ k ih =>
    intro m n out hm h0 h1 h64 hl
    obtain ⟨m, rfl⟩ : ∃ j, m = j + 1 := ⟨m - 1, by omega⟩
    unfold ref03PutDat.l3 ref03PutDat.b3 putN
    by_cases hn : n ≥ 128
    · have t1 : Int.tmod n 128 = n % 128 := Int.tmod_eq_emod_of_nonneg h0
      have t2 : Int.tdiv n 128 = n / 128 := Int.tdiv_eq_ediv_of_nonneg h0
      have e1 : IntKind.u64.wrap (n / 128) = n / 128 := wrap_u64 (by omega) (by omega)
      have e2 : IntKind.u8.wrap (IntKind.u64.wrap (n % 128 + 128)) = n % 128 + 128 := by rw [wrap_u64 (by omega) (by omega), wrap_u8]; omega
      rw [pow_succ128] at h1
      obtain ⟨last, init, q1, q2, q3, q4⟩ := ih m (n / 128) (out ++ [n % 128 + 128]) (by omega) (by omega) (by omega) (by omega) (by simp; omega)
      refine ⟨last, (n % 128 + 128) :: init, by rw [if_pos hn, q1]; rfl, q2, q3, ?_⟩
      have e3 : apOk out [n % 128 + 128] 1 = true := apOk1 (by simp; omega)
      simp only [hn, decide_true, cond_true, t1, t2, e1, e2, e3, chk]
      rw [q4, List.append_assoc]
      rfl
    · refine ⟨n, [], by rw [if_neg hn]; rfl, h0, by omega, ?_⟩
      simp [hn]
theorem refPutD_eq (fu : Nat) (hfu : 12 ≤ fu) (b : List Int) (n : Int) (hl : b.length ≤ 400000) (h0 : 0 ≤ n) (h1 : n < 18446744073709551616) : ref03PutDat fu b n = some (b ++ putN 9 n, ()) := by
  have hp : (128 : Int) ^ (9 + 1) = 1180591620717411303424 := by decide
  obtain ⟨last, init, p1, p2, p3, p4⟩ := refPutD_rounds fu (fun nq2 outq2 => 
      chk (apOk outq2 ([IntKind.u8.wrap nq2]) 1) <|
      let t3 := outq2 ++ ([IntKind.u8.wrap nq2])
      some (t3, ())) 9 fu n b (by omega) h0 (by omega) h1 (by omega)
  have hlen := putN_len 9 n
  rw [p1] at hlen
  simp only [List.length_append, List.length_cons, List.length_nil] at hlen
  have e1 : IntKind.u8.wrap last = last := by rw [wrap_u8]; omega
  have e2 : apOk (b ++ init) [last] 1 = true := apOk1 (by simp; omega)
  have e3 : apOk ([] : List Int) b 1 = true := apOk1 (by simp; omega)
  unfold ref03PutDat
  simp only [e3, chk, cond_true, List.nil_append]
  refine p4.trans ?_
  simp only [e1, e2, chk, cond_true, p1, List.append_assoc]

theorem zig_fits {n : Int} (h0 : -9223372036854775808 ≤ n) (h1 : n < 9223372036854775808) : 0 ≤ zig n ∧ zig n < 18446744073709551616 := by
  unfold zig; split <;> omega
theorem refPutInt_eq (fu : Nat) (hfu : 12 ≤ fu) (b : List Int) (n : Int) (hl : b.length ≤ 400000) (h0 : -9223372036854775808 ≤ n) (h1 : n < 9223372036854775808) : ref03PutInt fu b n = some (b ++ putN 9 (zig n), ()) := by
  unfold ref03PutInt
  by_cases h : n ≥ 0
  · have e1 : IntKind.u64.wrap n = n := wrap_u64 (by omega) (by omega)
    have e2 : IntKind.u64.wrap (2 * n) = zig n := by rw [wrap_u64 (by omega) (by omega)]; unfold zig; rw [if_pos h]
    have hz := zig_fits h0 h1
    simp only [decide_eq_true h, cond_true, e1, e2, refPutD_eq fu hfu b _ hl hz.1 hz.2, Option.bind_some]
  · have e0 : IntKind.i64.wrap (n + 1) = n + 1 := wrap_i64 (by omega) (by omega)
    have e3 : IntKind.i64.wrap (0 - (n + 1)) = -n - 1 := by rw [wrap_i64 (by omega) (by omega)]; omega
    have e1 : IntKind.u64.wrap (-n - 1) = -n - 1 := wrap_u64 (by omega) (by omega)
    have e4 : IntKind.u64.wrap (2 * (-n - 1)) = 2 * (-n - 1) := wrap_u64 (by omega) (by omega)
    have e2 : IntKind.u64.wrap (2 * (-n - 1) + 1) = zig n := by rw [wrap_u64 (by omega) (by omega)]; unfold zig; rw [if_neg h]; omega
    have hz := zig_fits h0 h1
    simp only [decide_eq_false h, cond_false, e0, e3, e1, e4, e2, refPutD_eq fu hfu b _ hl hz.1 hz.2, Option.bind_some]
theorem refPutText_eq (fu : Nat) (hfu : 12 ≤ fu) (b s : List Int) (hl : b.length ≤ 400000) (hs : s.length ≤ 400000) : ref03PutText fu b s = some (b ++ putN 9 s.length ++ s, ()) := by
  unfold ref03PutText
  have e1 : IntKind.u64.wrap (s.length : Int) = s.length := wrap_u64 (by omega) (by omega)
  have := putN_len 9 s.length
  have e2 : apOk (b ++ putN 9 s.length) s 1 = true := apOk1 (by rw [List.length_append]; omega)
  simp only [e1, refPut_eq fu hfu b s.length hl (by omega) (by omega), Option.bind_some, e2, chk, cond_true]
theorem refReal_step (fu : Nat) (k2 : List Int → List Int → Option ((List Int) × Unit)) (m k : Nat) (hk : k < 8) (out : List Int) (n : Int) (h0 : 0 ≤ n) (h1 : n < 18446744073709551616) (c0 : List Int) (hc : c0.length = 8) :
    ref03PutReal.l6 fu k2 (m + 1) out n (k : Int) c0 = ref03PutReal.l6 fu k2 m out (n / 256) ((k : Int) - 1) (c0.set k (n % 256)) := by
  have t1 : Int.tmod n 256 = n % 256 := Int.tmod_eq_emod_of_nonneg h0
  have t2 : Int.tdiv n 256 = n / 256 := Int.tdiv_eq_ediv_of_nonneg h0
  have e1 : IntKind.u8.wrap (n % 256) = n % 256 := by rw [wrap_u8]; omega
  have e2 : IntKind.u64.wrap (n / 256) = n / 256 := wrap_u64 (by omega) (by omega)
  have e3 : IntKind.i64.wrap ((k : Int) - 1) = k - 1 := wrap_i64 (by omega) (by omega)
  have e4 : ixArr 8 (k : Int) = true := by unfold ixArr; simp; omega
  have e5 : nOk c0 8 = true := by unfold nOk; rw [hc]; rfl
  conv => lhs; unfold ref03PutReal.l6 ref03PutReal.b6
  simp only [decide_eq_true (show (k : Int) ≥ 0 by omega), cond_true, t1, t2, e1, e2, e3, e4, e5, chk, stL, Int.toNat_natCast]
theorem refReal_end (fu : Nat) (k2 : List Int → List Int → Option ((List Int) × Unit)) (m : Nat) (out : List Int) (n : Int) (c0 : List Int) : ref03PutReal.l6 fu k2 (m + 1) out n (-1) c0 = k2 out c0 := by
  unfold ref03PutReal.l6 ref03PutReal.b6
  rfl
theorem refReal_rounds8 (fu : Nat) (k2 : List Int → List Int → Option ((List Int) × Unit)) (f : Nat) (out : List Int) (n : Int) (h0 : 0 ≤ n) (h1 : n < 18446744073709551616) :
    ref03PutReal.l6 fu k2 (f + 9) out n 7 (List.replicate 8 0) = k2 out (bytes8 n) := by
  refine (refReal_step _ _ (f + 8) 7 (by omega) out n h0 h1 _ rfl).trans ?_
  refine (refReal_step _ _ (f + 7) 6 (by omega) out _ (by omega) (by omega) _ (by simp)).trans ?_
  refine (refReal_step _ _ (f + 6) 5 (by omega) out _ (by omega) (by omega) _ (by simp)).trans ?_
  refine (refReal_step _ _ (f + 5) 4 (by omega) out _ (by omega) (by omega) _ (by simp)).trans ?_
  refine (refReal_step _ _ (f + 4) 3 (by omega) out _ (by omega) (by omega) _ (by simp)).trans ?_
  refine (refReal_step _ _ (f + 3) 2 (by omega) out _ (by omega) (by omega) _ (by simp)).trans ?_
  refine (refReal_step _ _ (f + 2) 1 (by omega) out _ (by omega) (by omega) _ (by simp)).trans ?_
  refine (refReal_step _ _ (f + 1) 0 (by omega) out _ (by omega) (by omega) _ (by simp)).trans ?_
  refine (refReal_end _ _ f _ _ _).trans ?_
  congr 1
  have d1 : n / 256 / 256 = n / 65536 := by omega
  have d2 : n / 65536 / 256 = n / 16777216 := by omega
  have d3 : n / 16777216 / 256 = n / 4294967296 := by omega
  have d4 : n / 4294967296 / 256 = n / 1099511627776 := by omega
  have d5 : n / 1099511627776 / 256 = n / 281474976710656 := by omega
  have d6 : n / 281474976710656 / 256 = n / 72057594037927936 := by omega
  simp only [d1, d2, d3, d4, d5, d6]
  rfl
theorem refPutReal_eq (fu : Nat) (hfu : 9 ≤ fu) (b : List Int) (x : Nat) (hl : b.length ≤ 400000) (hx : F64 x) : ref03PutReal fu b x = some (b ++ bytes8 (canon x), ()) := by
  obtain ⟨f, rfl⟩ : ∃ f, fu = f + 9 := ⟨fu - 9, by omega⟩
  have hc := canon_fits x hx
  unfold ref03PutReal
  rw [show apOk ([] : List Int) b 1 = true from apOk1 (by simp; omega)]
  simp only [chk, cond_true]
  rw [refBits_bind (f + 9) hx]
  have e1 : mkMut (8 : Int) (8 : Int) 1 = true := by decide
  rw [e1, show (8 : Int).toNat = 8 from rfl]
  simp only [cond_true]
  rw [refReal_rounds8 _ _ f _ _ hc.1 hc.2]
  have e2 : nOk (bytes8 (canon x)) 8 = true := rfl
  have e3 : apOk b (bytes8 (canon x)) 1 = true := apOk1 (by simp [bytes8]; omega)
  simp only [List.nil_append, e2, e3, Bool.and_true, cond_true]
theorem refMay_eq (fu : Nat) (v : Va) (h : F64 v.2.2.1) : ref04May fu v = some (mayV v, ()) := by
  obtain ⟨k, i, x, s, u⟩ := v
  have h' : F64 x := h
  have q1 : ((x : Int) == 0) = decide (x = 0) := by
    by_cases hy : x = 0
    · subst hy; rfl
    · rw [decide_eq_false hy]; exact ne_beq (by omega)
  have q2 : ∀ a b : Int, (a == b) = decide (a = b) := fun _ _ => rfl
  have q3 : (s == ([] : List Int)) = decide (s = []) := by cases s <;> rfl
  have q4 : decide ((s.length : Int) ≤ 255) = decide (s.length ≤ 255) := by
    by_cases hs : s.length ≤ 255
    · rw [decide_eq_true hs, decide_eq_true (by omega)]
    · rw [decide_eq_false hs, decide_eq_false (by omega)]
  have q5 : decide (k < 4) = decide (k ≤ 3) := by
    by_cases hs : k ≤ 3
    · rw [decide_eq_true hs, decide_eq_true (by omega)]
    · rw [decide_eq_false hs, decide_eq_false (by omega)]
  unfold ref04May mayV
  unfold ref04May.j2
  rw [bits_bind fu h', bits_bind fu h']
  simp only [ref04May.j3, ref04May.j4, q1, q2, q3, q4, q5]
  cases decide (k ≤ 3) <;> cases decide (s.length ≤ 255) <;> cases decide (i = 0) <;> cases decide (x = 0) <;> cases decide (s = []) <;> cases decide (k = 1) <;> cases decide (k = 2) <;> cases decide (k = 3) <;> rfl
theorem refVPut_eq (fu : Nat) (hfu : 12 ≤ fu) (b : List Int) (v : Va) (hl : b.length ≤ 300000) (hv : vaOk v) : ref04Put fu b v = some (if mayV v = true then b ++ putV v else [], if mayV v = true then 0 else 1, ()) := by
  unfold ref04Put
  simp only [refMay_eq fu v hv.2.2.1, Option.bind_some]
  by_cases hm : mayV v = true
  · have e3 : apOk ([] : List Int) b 1 = true := apOk1 (by simp; omega)
    have e4 : apOk b [v.1] 1 = true := apOk1 (by simp; omega)
    have hlen := mayV_len hm
    simp only [hm, Bool.not_true, cond_false, chk, cond_true, if_true, e3, List.nil_append, e4]
    unfold putV
    by_cases k1 : v.1 = 1
    · simp only [k1, beq_self_eq_true, cond_true, refPutInt_eq fu hfu (b ++ [1]) v.2.1 (by simp; omega) hv.2.1.1 hv.2.1.2, Option.bind_some, if_true, List.append_assoc, List.singleton_append]
    · by_cases k2 : v.1 = 2
      · simp only [k2, ne_beq (show ¬ (2 : Int) = 1 by decide), beq_self_eq_true, cond_true, cond_false, refPutReal_eq fu (by omega) (b ++ [2]) v.2.2.1 (by simp; omega) hv.2.2.1, Option.bind_some, show ¬ (2 : Int) = 1 by decide, if_false, if_true, List.append_assoc, List.singleton_append]
      · by_cases k3 : v.1 = 3
        · simp only [k3, ne_beq (show ¬ (3 : Int) = 1 by decide), ne_beq (show ¬ (3 : Int) = 2 by decide), beq_self_eq_true, cond_true, cond_false, refPutText_eq fu hfu (b ++ [3]) v.2.2.2.1 (by simp; omega) (by omega), Option.bind_some, show ¬ (3 : Int) = 1 by decide, show ¬ (3 : Int) = 2 by decide, if_false, if_true, List.append_assoc, List.nil_append, List.cons_append]
        · simp only [ne_beq k1, ne_beq k2, ne_beq k3, cond_false, if_neg k1, if_neg k2, if_neg k3]
  · have hm' : mayV v = false := by simpa using hm
    simp [hm']
theorem text_put (a rest s : List Int) (hs : s.length ≤ 255) : text1 (a ++ (putN 9 s.length ++ s) ++ rest) a.length 255 = (s, (a.length : Int) + ((putN 9 s.length).length : Int) + s.length, 0) := by
  have g := got_put a (s ++ rest) s.length (by omega) (by omega)
  rw [show a ++ putN 9 (s.length : Int) ++ (s ++ rest) = a ++ (putN 9 s.length ++ s) ++ rest by simp] at g
  unfold text1
  rw [g]
  simp only
  rw [if_neg (by simp), if_neg (by omega), if_neg (by simp; omega)]
  have := cut_mid (a ++ putN 9 s.length) s rest
  rw [show a ++ putN 9 (s.length : Int) ++ s ++ rest = a ++ (putN 9 s.length ++ s) ++ rest by simp, List.length_append] at this
  rw [show ((a.length : Int) + ((putN 9 (s.length : Int)).length : Int)) = ((a.length + (putN 9 (s.length : Int)).length : Nat) : Int) by omega, this]
theorem real_put (a rest : List Int) (x : Nat) (hx : F64 x) : real1 (a ++ bytes8 (canon x) ++ rest) a.length = ((canon x).toNat, (a.length : Int) + 8, 0) := by
  have hc := canon_fits x hx
  have hm := cut_mid a (bytes8 (canon x)) rest
  rw [show (bytes8 (canon x)).length = 8 from rfl] at hm
  unfold real1
  rw [if_neg (by simp [bytes8]; omega)]
  rw [show ((a.length : Int) + ((8 : Nat) : Int)) = (a.length : Int) + 8 from rfl] at hm
  rw [hm, be_bytes8 _ hc.1 hc.2, if_pos (canon_canon x)]
/-- A value with the one NaN. -/
def cv (v : Va) : Va := (v.1, v.2.1, (canon v.2.2.1).toNat, v.2.2.2.1, ())
theorem cv_same (v : Va) : same4 (cv v) v = true := by
  unfold same4 cv
  have h := canon_canon v.2.2.1
  simp [h]
theorem val_put (a rest : List Int) (v : Va) (hv : vaOk v) (hm : mayV v = true) : val1 (a ++ putV v ++ rest) a.length = (cv v, (a.length : Int) + (putV v).length, 0) := by
  have hm0 := hm
  unfold mayV at hm
  simp only [Bool.and_eq_true, Bool.or_eq_true, decide_eq_true_eq] at hm
  obtain ⟨⟨⟨⟨m1, m2⟩, m3⟩, m4⟩, m5⟩ := hm
  obtain ⟨k, i, x, s, u⟩ := v
  simp only at m1 m2 m3 m4 m5
  have hk := hv.1.1
  have hi := zig_fits hv.2.1.1 hv.2.1.2
  have hx : F64 x := hv.2.2.1
  simp only at hk hi
  have e1 : ∀ t : List Int, ixL (0 : Int) (a ++ (k :: t) ++ rest) a.length = k := fun t => by
    unfold ixL; simp
  have e2 : ∀ t : List Int, a ++ (k :: t) ++ rest = (a ++ [k]) ++ t ++ rest := fun t => by simp
  have e3 : (a.length : Int) + 1 = ((a ++ [k]).length : Int) := by simp
  have e4 : ∀ t : List Int, ¬ ((a.length : Int) < 0 ∨ (a.length : Int) ≥ ((a ++ (k :: t) ++ rest).length : Int)) := fun t => by simp; omega
  have c0 : (canon 0).toNat = 0 := by decide
  unfold val1 cv
  simp only
  by_cases k0 : k = 0
  · subst k0
    have : i = 0 := by omega
    have : x = 0 := by omega
    have hs0 : s = [] := by rcases m4 with h | h; exact h; omega
    subst_vars
    have p : putV (0, 0, 0, [], u) = 0 :: [] := rfl
    rw [p, if_neg (e4 _), e1, if_pos rfl, c0]
    simp [noVa]
  · by_cases k1 : k = 1
    · subst k1
      have : x = 0 := by omega
      have hs0 : s = [] := by rcases m4 with h | h; exact h; omega
      subst_vars
      have p : putV (1, i, 0, [], u) = 1 :: putN 9 (zig i) := rfl
      rw [p, if_neg (e4 _), e1, if_neg k0, if_pos rfl, e2, e3, got_put _ rest _ hi.1 hi.2, if_pos rfl, zag_zig, c0]
      simp; omega
    · by_cases k2 : k = 2
      · subst k2
        have : i = 0 := by omega
        have hs0 : s = [] := by rcases m4 with h | h; exact h; omega
        subst_vars
        have p : putV (2, 0, x, [], u) = 2 :: bytes8 (canon x) := rfl
        rw [p, if_neg (e4 _), e1, if_neg k0, if_neg k1, if_pos rfl, e2, e3, real_put _ rest _ hx, if_pos rfl]
        simp [bytes8]; omega
      · have k3 : k = 3 := by omega
        subst k3
        have : i = 0 := by omega
        have : x = 0 := by omega
        subst_vars
        have p : putV (3, 0, 0, s, u) = 3 :: (putN 9 s.length ++ s) := rfl
        rw [p, if_neg (e4 _), e1, if_neg k0, if_neg k1, if_neg k2, if_pos rfl, e2, e3, text_put _ rest _ m5, if_pos rfl, c0]
        simp; omega
theorem bytes8_len (n : Int) : (bytes8 n).length = 8 := rfl
theorem putV_len {v : Va} (hm : mayV v = true) : (putV v).length ≤ 300 := by
  have := mayV_len hm
  have h1 := putN_len 9 (zig v.2.1)
  have h2 := putN_len 9 (v.2.2.2.1.length)
  unfold putV
  split
  · simp only [List.length_cons]; omega
  · split
    · simp only [List.length_cons, bytes8_len]; omega
    · split
      · simp only [List.length_cons, List.length_append]; omega
      · simp
theorem putV_by {v : Va} (hv : vaOk v) (hm : mayV v = true) : By (putV v) := by
  have hi := zig_fits hv.2.1.1 hv.2.1.2
  have hk := hv.1
  have hs := hv.2.2.2
  have hl := mayV_len hm
  unfold putV
  intro x hx
  rcases List.mem_cons.1 hx with rfl | hx
  · exact hk
  · split at hx
    · exact putN_by9 _ hi.1 hi.2 x hx
    · split at hx
      · exact bytes8_by _ x hx
      · split at hx
        · exact by_app (putN_by9 _ (by omega) (by omega)) hs x hx
        · exact nomatch hx
theorem fixed04 : law04Fixed 3000 = some (true, ()) := by kernel_rfl
theorem lawValueGets (b : List Int) (at' : Int) (h : okAll law04ValueGets.con.ps (b, at', ())) : law04ValueGets 3000 b at' = some (true, ()) := by
  have hb : By b := byOf h.1
  unfold law04ValueGets
  by_cases hl : (b.length : Int) > 2000
  · simp only [decide_eq_true hl, cond_true, fixed04, Option.bind_some]
  · simp only [decide_eq_false hl, cond_false, valueGet_eq 3000 b hb (by omega) (by omega) (by omega), refVGet_eq 3000 b hb (by omega) (by omega) (by omega), fixed04, Option.bind_some, Bool.not_true]
    generalize hq : val1 b at' = q
    obtain ⟨v, e, er⟩ := q
    simp only [bne_self_eq_false, cond_false]
    by_cases her : er = 0
    · subst her
      obtain ⟨g0, g1, g2, g3, g4, g5⟩ := val_ok hb (by omega) hq
      have hc : cutOk b at' e = true := cutOk_of g0 (by omega) g2
      have b1 : ((0 : Int) == 0) = true := rfl
      simp only [same4_eq 3000 v v g3.2.2.1 g3.2.2.1, same4_refl, Option.bind_some, Bool.not_true, bne_self_eq_false, cond_false, valuePut_eq 3000 (by omega) [] v (by simp) g3, g4, if_true, b1, cond_true, decide_eq_true (show at' ≥ 0 from g0), decide_eq_true (show at' ≤ e by omega), decide_eq_true g2, hc, chk, List.nil_append, g5, beq_self_eq_true, valueMay_eq 3000 v g3.2.2.1]
    · have hv : v = noVa := by
        unfold val1 at hq
        split at hq
        · cases hq; rfl
        · split at hq
          · cases hq; exact absurd rfl her
          · split at hq
            · split at hq
              · cases hq; exact absurd rfl her
              · cases hq; rfl
            · split at hq
              · split at hq
                · cases hq; exact absurd rfl her
                · cases hq; rfl
              · split at hq
                · split at hq
                  · cases hq; exact absurd rfl her
                  · cases hq; rfl
                · cases hq; rfl
      subst hv
      have f0 : F64 noVa.2.2.1 := by show (0 : Nat) < _; omega
      have e1 : ref04Same 3000 noVa ((0 : Int), (0 : Int), (0 : Nat), [], ()) = some (true, ()) := (same4_eq 3000 noVa noVa f0 f0).trans (by rw [same4_refl])
      simp only [same4_eq 3000 noVa noVa f0 f0, same4_refl, Option.bind_some, Bool.not_true, cond_false, ne_bne her, cond_true, e1]
theorem great_one (f : Nat) (x : Int × Int × Int × List Int × Unit) : law04Great (f + 2) [x] = some (decide ((x.2.2.2.1.length : Int) > 2000), ()) := by
  unfold law04Great
  conv => lhs; unfold law04Great.l2 law04Great.b2
  have e0 : decide ((0 : Int) < (([x].length : Nat) : Int)) = true := rfl
  have e1 : ixOk [x] 0 = true := rfl
  have e2 : ixL ((0 : Int), (0 : Int), (0 : Int), ([] : List Int), ()) [x] 0 = x := rfl
  simp only [e0, e1, e2, chk, cond_true]
  cases h : decide ((x.2.2.2.1.length : Int) > 2000) with
  | true => simp only [cond_true]
  | false =>
    simp only [cond_false]
    unfold law04Great.l2 law04Great.b2
    rfl
theorem lawValuePuts (b : List Int) (x : Int × Int × Int × List Int × Unit) (h : okAll law04ValuePuts.con.ps (b, x, ())) : law04ValuePuts 3000 b x = some (true, ()) := by
  have hb : By b := byOf h.1
  obtain ⟨k, i, n, s, u⟩ := x
  obtain ⟨-, ⟨hk, hi, hn, hs, -⟩, -⟩ := h
  have hk : inR .u8 k := hk
  have hi : -9223372036854775808 ≤ i ∧ i < 9223372036854775808 := i64Of hi
  have hn : 0 ≤ n ∧ n < 18446744073709551616 := u64Of hn
  have hs : By s := fun c hc => hs.2 c hc
  unfold law04ValuePuts
  rw [great_one 2998]
  by_cases hg : (s.length : Int) > 2000
  · simp only [decide_eq_true hg, Option.bind_some, cond_true, fixed04]
  · by_cases hl : (b.length : Int) > 2000
    · simp only [decide_eq_false hg, decide_eq_true hl, Option.bind_some, cond_true, cond_false, fixed04]
    · simp only [decide_eq_false hg, decide_eq_false hl, Option.bind_some, cond_false]
      have hv : vaOk (k, i, n.toNat, s, ()) := ⟨by simpa [inR, IntKind.min, IntKind.max, IntKind.signed, IntKind.bits] using hk, hi, by show n.toNat < _; omega, hs⟩
      have e0 : law04RawValue 3000 (k, i, n, s, u) = some ((k, i, n.toNat, s, ()), ()) := rfl
      have e1 : apOk ([] : List Int) b 1 = true := apOk1 (by simp; omega)
      rw [e0]
      generalize hw : ((k, i, n.toNat, s, ()) : Va) = v at hv
      simp only [Option.bind_some, e1, chk, cond_true, List.nil_append, valuePut_eq 3000 (by omega) b v (by omega) hv, refVPut_eq 3000 (by omega) b v (by omega) hv, fixed04, Bool.not_true, cond_false, bne_self_eq_false]
      by_cases hm : mayV v = true
      · have hlen := putV_len hm
        have hp := putV_by hv hm
        have hg := val_put b [] v hv hm
        rw [List.append_nil] at hg
        have b1 : ((0 : Int) == 0) = true := rfl
        have hf : F64 (cv v).2.2.1 := by
          show (canon v.2.2.1).toNat < _
          have := canon_fits v.2.2.1 hv.2.2.1
          omega
        simp only [hm, if_true, bne_self_eq_false, cond_false]
        rw [valueGet_eq 3000 (b ++ putV v) (by_app hb hp) (by simp; omega) (by simp; omega) (by omega), hg]
        have e2 : ((b.length : Int) + ((putV v).length : Int) == (((b ++ putV v).length : Nat) : Int)) = true := by simp
        simp only [Option.bind_some, b1, cond_true, e2, same4_eq 3000 (cv v) v hf hv.2.2.1, cv_same]
      · have b1 : ((1 : Int) != 0) = true := rfl
        simp only [if_neg hm, b1, cond_true]
end Go.Shal.Pr
