/- The plain laws of events. By an AI agent. -/
import Derived.Test.YtbhigcnmdobmoaaGen05
set_option linter.unusedVariables false
namespace Go.Shal.Pr
open Go Go.Shal Go.Proofs
theorem wrap_u64 {x : Int} (h0 : 0 ≤ x) (h1 : x < 18446744073709551616) : IntKind.u64.wrap x = x := by
  simp only [IntKind.wrap, IntKind.signed, IntKind.bits]
  simp
  omega
theorem wrap_i64 {x : Int} (h0 : -9223372036854775808 ≤ x) (h1 : x < 9223372036854775808) : IntKind.i64.wrap x = x := by
  simp only [IntKind.wrap, IntKind.signed, IntKind.bits]
  simp
  omega
theorem wrap_u8 (x : Int) : IntKind.u8.wrap x = x % 256 := by
  simp only [IntKind.wrap, IntKind.signed, IntKind.bits]
  simp
theorem min2_eq (x y : Int) : min2 x y = min x y := by unfold min2; split <;> omega
theorem max2_eq (x y : Int) : max2 x y = max x y := by unfold max2; split <;> omega
/-- Bytes. -/
def By (l : List Int) : Prop := ∀ b ∈ l, (0 : Int) ≤ b ∧ b ≤ 255
theorem by_tail {c : Int} {l : List Int} (h : By (c :: l)) : By l := fun b hb => h b (List.mem_cons_of_mem _ hb)
theorem by_cut {l : List Int} (h : By l) (a e : Int) : By (cutL l a e) := fun b hb => h b (List.mem_of_mem_drop (List.mem_of_mem_take hb))

/-- The bits of a sum that meets no carry. -/
theorem or_add (n a : Nat) (k : Nat) (h : n < 2 ^ k) (ht : n + a * 2 ^ k < 18446744073709551616) : bOr .u64 (n : Int) ((a * 2 ^ k : Nat) : Int) = (n + a * 2 ^ k : Nat) := by
  show IntKind.u64.wrap (((BitVec.ofInt 64 (n : Int) ||| BitVec.ofInt 64 ((a * 2 ^ k : Nat) : Int)).toNat : Nat) : Int) = _
  rw [BitVec.ofInt_natCast, BitVec.ofInt_natCast]
  have h1 : n < 2 ^ 64 := by omega
  have h2 : a * 2 ^ k < 2 ^ 64 := by omega
  rw [BitVec.toNat_or, BitVec.toNat_ofNat, BitVec.toNat_ofNat, Nat.mod_eq_of_lt h1, Nat.mod_eq_of_lt h2, Nat.or_comm, Nat.mul_comm a, ← Nat.two_pow_add_eq_or_of_lt h]
  rw [Nat.mul_comm a] at ht
  rw [wrap_u64 (by omega) (by omega)]
  omega
theorem shl_eq (x : Int) (k : Nat) (hk : k < 64) (h0 : 0 ≤ x) (h : x * 2 ^ k < 18446744073709551616) : sShl .u64 x (k : Int) = x * 2 ^ k := by
  unfold sShl
  have e : min (k : Int).toNat IntKind.u64.bits = k := by simp only [IntKind.bits]; omega
  rw [e]
  exact wrap_u64 (Int.mul_nonneg h0 (by exact_mod_cast Nat.zero_le _)) h
theorem shr_eq (x : Int) (k : Nat) (hk : k < 64) : sShr .u64 x (k : Int) = x / 2 ^ k := by
  unfold sShr
  have e : min (k : Int).toNat IntKind.u64.bits = k := by simp only [IntKind.bits]; omega
  rw [e, Int.fdiv_eq_ediv_of_nonneg]
  exact_mod_cast Nat.zero_le _
theorem byte_or (c : Int) (h0 : 0 ≤ c) (h : c ≤ 255) : bOr .u8 c 128 = c % 128 + 128 := by
  have key : ∀ m : Fin 256, bOr .u8 (m.val : Int) 128 = (m.val : Int) % 128 + 128 := by decide +kernel
  have := key ⟨c.toNat, by omega⟩
  simp only at this
  rw [show (c.toNat : Int) = c by omega] at this
  exact this
theorem byte_and (c : Int) (h0 : 0 ≤ c) (h : c ≤ 255) : bAnd .u8 c 127 = c % 128 := by
  have key : ∀ m : Fin 256, bAnd .u8 (m.val : Int) 127 = (m.val : Int) % 128 := by decide +kernel
  have := key ⟨c.toNat, by omega⟩
  simp only at this
  rw [show (c.toNat : Int) = c by omega] at this
  exact this

/-- What stands in front of a row of bytes: the number, how far it goes, the error. -/
def get1 : List Int → Nat → Int → Int × Int × Int
  | [], _, _ => (0, 0, 3)
  | c :: r, i, n => if i = 9 ∧ c > 1 then (0, 0, 4) else if c ≥ 128 then get1 r (i + 1) (n + (c - 128) * 128 ^ i) else if c = 0 ∧ i > 0 then (0, 0, 2) else (n + c * 128 ^ i, (i : Int) + 1, 0)
/-- An answer from a place on. -/
def from1 (at' : Int) (q : Int × Int × Int) : Int × Int × Int := (q.1, if q.2.2 = 0 then at' + q.2.1 else 0, q.2.2)
def got (b : List Int) (at' : Int) : Int × Int × Int := if at' < 0 ∨ at' > b.length then (0, 0, 3) else from1 at' (get1 (b.drop at'.toNat) 0 0)
theorem pow128 (i : Nat) : (128 : Int) ^ i = ((2 ^ (7 * i) : Nat) : Int) := by
  rw [Nat.pow_mul]; norm_cast
theorem pow128_9 {i : Nat} (h : i ≤ 9) : (1 : Int) ≤ 128 ^ i ∧ (128 : Int) ^ i ≤ 9223372036854775808 := by
  have h1 : 128 ^ i ≤ 128 ^ 9 := Nat.pow_le_pow_right (by omega) h
  have h0 : 0 < 128 ^ i := Nat.pow_pos (by omega)
  have e : (128 : Int) ^ i = ((128 ^ i : Nat) : Int) := by norm_cast
  rw [e]
  have : (128 : Nat) ^ 9 = 9223372036854775808 := by decide
  omega
theorem ixL_get {l : List Int} {i : Nat} (h : i < l.length) : ixL (0 : Int) l i = l[i] := by
  unfold ixL
  simp [List.getElem?_eq_getElem h]

def fin1 (k1 : Int → Int → Int → Option (Int × Int × Int × Unit)) (k2 : Unit → Option (Int × Int × Int × Unit)) (at' : Int) (q : Int × Int × Int) : Option (Int × Int × Int × Unit) :=
  if q.2.2 = 0 then k1 q.1 (at' + q.2.1) 0 else if q.2.2 = 3 then k2 () else k1 0 0 q.2.2
theorem get_rounds (fu : Nat) k1 k2 (at' : Int) (b : List Int) (hb : By b) (ha : 0 ≤ at' ∧ at' ≤ 100000) (hl : b.length ≤ 100000) : ∀ (m i : Nat) (n : Int), i ≤ b.length → b.length < i + m → 0 ≤ n → n < 128 ^ i →
    i ≤ 9 → packGet.l5 fu k1 k2 m at' n b b.length i = fin1 k1 k2 at' (get1 (b.drop i) i n) := by
  intro m
  induction m with
  | zero => intro i n h1 h2; omega
  | succ m ih =>
    intro i n h1 h2 hn0 hn hi9
    unfold packGet.l5 packGet.b5
    by_cases hil : i < b.length
    · have hil' : (i : Int) < b.length := by omega
      have hix : ixOk b i = true := by simp [ixOk, hil]
      have e1 : IntKind.i64.wrap ((i : Int) + 1) = (i + 1 : Nat) := wrap_i64 (by omega) (by omega)
      rw [List.drop_eq_getElem_cons hil]
      have hc := hb _ (List.getElem_mem hil)
      simp only [hil', decide_true, cond_true, chk, hix, ixL_get hil]
      generalize b[i] = c at hc
      have hp := pow128_9 hi9
      have hle : ∀ q : Int, 0 ≤ q → q ≤ 127 → (i = 9 → q ≤ 1) → q * 128 ^ i + n < 18446744073709551616 := fun q h0 h1 h9 => by
        rcases Nat.lt_or_ge i 9 with h | h
        · have h8 : (128 : Int) ^ i ≤ 72057594037927936 := by
            have h1 : 128 ^ i ≤ 128 ^ 8 := Nat.pow_le_pow_right (by omega) (by omega)
            have e : (128 : Int) ^ i = ((128 ^ i : Nat) : Int) := by norm_cast
            rw [e]
            have : (128 : Nat) ^ 8 = 72057594037927936 := by decide
            omega
          have : q * 128 ^ i ≤ 127 * 72057594037927936 := Int.mul_le_mul h1 h8 (by omega) (by omega)
          omega
        · have : i = 9 := by omega
          subst this
          have := h9 rfl
          have : q * 128 ^ 9 ≤ 1 * 9223372036854775808 := Int.mul_le_mul this (by decide) (by decide) (by omega)
          omega
      have j9 : ∀ (c : Int), 0 ≤ c → c ≤ 255 → (i = 9 → c ≤ 1) → ∀ K0 K1, packGet.j9 fu K0 K1 at' n i c b b.length i = (if c ≥ 128 then K0 at' (n + (c - 128) * 128 ^ i) b b.length i else if c = 0 ∧ i > 0 then K1 0 0 2 else K1 (n + c * 128 ^ i) (at' + ((i : Int) + 1)) 0) := by
        intro c hc0 hc1 h9 K0 K1
        unfold packGet.j9 packGet.j50013
        have e2 : IntKind.u64.wrap (bAnd .u8 c 127) = c % 128 := by rw [byte_and c hc0 hc1]; exact wrap_u64 (by omega) (by omega)
        have e3 : IntKind.i64.wrap ((7 : Int) * i) = (7 * i : Nat) := by rw [wrap_i64 (by omega) (by omega)]; omega
        have hq := hle (c % 128) (by omega) (by omega) (fun h => by have := h9 h; omega)
        have hnn : 0 ≤ (c % 128) * 128 ^ i := Int.mul_nonneg (by omega) (by omega)
        have e4 : sShl .u64 (c % 128) ((7 * i : Nat) : Int) = (c % 128) * 128 ^ i := by
          have hpp : (2 : Int) ^ (7 * i) = 128 ^ i := by rw [pow128]; norm_cast
          rw [shl_eq _ (7 * i) (by omega) (by omega) (by rw [hpp]; omega), hpp]
        have e5 : bOr .u64 n ((c % 128) * 128 ^ i) = n + (c % 128) * 128 ^ i := by
          obtain ⟨N, rfl⟩ := Int.eq_ofNat_of_zero_le hn0
          obtain ⟨a, ha⟩ := Int.eq_ofNat_of_zero_le (show 0 ≤ c % 128 by omega)
          rw [ha, pow128] at hq ⊢
          rw [pow128] at hn
          have hq' : N + a * 2 ^ (7 * i) < 18446744073709551616 := by
            have : ((N + a * 2 ^ (7 * i) : Nat) : Int) < 18446744073709551616 := by rw [Int.natCast_add, Int.natCast_mul]; omega
            omega
          have := or_add N a (7 * i) (by omega) hq'
          rw [Int.natCast_add, Int.natCast_mul] at this
          exact this
        have hneg : (decide (((7 * i : Nat) : Int) < 0)) = false := decide_eq_false (by omega)
        have e6 : IntKind.i64.wrap (at' + i) = at' + i := wrap_i64 (by omega) (by omega)
        have e7 : IntKind.i64.wrap (at' + i + 1) = at' + ((i : Int) + 1) := by rw [wrap_i64 (by omega) (by omega)]; omega
        simp only [e2, e3, e4, e5, hneg, chk, Bool.not_false, cond_true, e6, e7]
        by_cases h128 : c ≥ 128
        · have : c % 128 = c - 128 := by omega
          simp only [h128, decide_true, cond_true, this, if_true]
        · have : c % 128 = c := by omega
          simp only [h128, decide_false, cond_false, this, if_false]
          by_cases h0 : c = 0
          · subst h0
            by_cases hi0 : i > 0
            · simp [hi0]
            · simp [hi0]
          · have h0' : (c == 0) = false := beq_false_of_ne h0
            simp [h0, h0']
      unfold get1
      by_cases h9 : i = 9 ∧ c > 1
      · have h9' : ((i : Int) == 9) = true := by rw [h9.1]; rfl
        have h1' : decide (c > 1) = true := decide_eq_true h9.2
        simp [h9', h1', if_pos h9, fin1]
      · have hside : i = 9 → c ≤ 1 := fun h => by
          by_cases hx : c > 1
          · exact absurd ⟨h, hx⟩ h9
          · omega
        rw [if_neg h9]
        have both : ∀ X Y : Option (Int × Int × Int × Unit), (cond ((i : Int) == 9) (cond (decide (c > 1)) X Y) Y) = Y := fun X Y => by
          cases hx : ((i : Int) == 9) with
          | false => rfl
          | true =>
            have : c ≤ 1 := hside (by have := eq_of_beq hx; omega)
            have hd : decide (c > 1) = false := decide_eq_false (by omega)
            simp only [cond_true, hd, cond_false]
        rw [j9 c hc.1 hc.2 hside, both]
        by_cases h128 : c ≥ 128
        · have hi8 : i ≤ 8 := by
            rcases Nat.lt_or_ge i 9 with h | h
            · omega
            · have := hside (by omega); omega
          rw [if_pos h128, if_pos h128]
          simp only [e1]
          have hq : (c - 128) * 128 ^ i + n < 128 ^ (i + 1) := by
            rw [Int.pow_succ]
            have : (c - 128) * 128 ^ i ≤ 127 * 128 ^ i := Int.mul_le_mul_of_nonneg_right (by omega) (by omega)
            omega
          exact ih (i + 1) _ (by omega) (by omega) (by have : 0 ≤ (c - 128) * 128 ^ i := Int.mul_nonneg (by omega) (by omega); omega) (by omega) (by omega)
        · rw [if_neg h128, if_neg h128]
          by_cases h0 : c = 0 ∧ i > 0
          · rw [if_pos h0, if_pos h0]; simp [fin1]
          · rw [if_neg h0, if_neg h0]; simp [fin1]
    · have hx : ¬ (i : Int) < b.length := by omega
      rw [List.drop_of_length_le (by omega)]
      simp [hx, get1, fin1]

theorem get1_err : ∀ (l : List Int) (i : Nat) (n : Int), (get1 l i n).2.2 ≠ 0 → (get1 l i n).1 = 0 ∧ (get1 l i n).2.1 = 0 := by
  intro l
  induction l with
  | nil => intro i n _; exact ⟨rfl, rfl⟩
  | cons c r ih =>
    intro i n
    unfold get1
    split
    · intro _; exact ⟨rfl, rfl⟩
    · split
      · exact ih _ _
      · split
        · intro _; exact ⟨rfl, rfl⟩
        · intro h; exact absurd rfl h
theorem packGet_eq (fu : Nat) (b : List Int) (hb : By b) (hl : b.length ≤ 100000) (hfu : b.length < fu) (at' : Int) : packGet fu b at' = some ((got b at').1, (got b at').2.1, (got b at').2.2, ()) := by
  unfold packGet got
  by_cases h1 : at' < 0
  · simp [h1]
  · by_cases h2 : at' > b.length
    · simp [h1, h2]
    · have hcut : cutOk b at' b.length = true := by simp [cutOk]; omega
      have e : cutL b at' b.length = b.drop at'.toNat := by
        unfold cutL
        rw [List.take_of_length_le]
        rw [List.length_drop]; omega
      have hd : By (b.drop at'.toNat) := fun x hx => hb x (List.mem_of_mem_drop hx)
      have hdl : (b.drop at'.toNat).length ≤ b.length := by rw [List.length_drop]; omega
      have hn : ¬ (at' < 0 ∨ at' > b.length) := by omega
      simp only [h1, h2, or_self, if_false, decide_false, cond_false, hcut, chk, cond_true, e]
      have := get_rounds fu (fun a c d => some (a, c, d, ())) (fun _ => some (0, 0, 3, ())) at' (b.drop at'.toNat) hd (by omega) (by omega) fu 0 0 (by omega) (by omega) (by omega) (by simp) (by omega)
      refine this.trans ?_
      rw [List.drop_zero]
      generalize hq : get1 (b.drop at'.toNat) 0 0 = q
      unfold fin1 from1
      by_cases h0 : q.2.2 = 0
      · simp [h0]
      · by_cases h3 : q.2.2 = 3
        · have hz := get1_err (b.drop at'.toNat) 0 0
          rw [hq] at hz
          simp [h3, hz h0]
        · have hz := get1_err (b.drop at'.toNat) 0 0
          rw [hq] at hz
          simp [h0, h3, hz h0]

/-- A number's writing. -/
def putN : Nat → Int → List Int
  | 0, n => [n]
  | k + 1, n => if n ≥ 128 then (n % 128 + 128) :: putN k (n / 128) else [n]
theorem putN_len : ∀ (k : Nat) (n : Int), (putN k n).length ≤ k + 1 ∧ 0 < (putN k n).length
  | 0, n => by simp [putN]
  | k + 1, n => by
    unfold putN
    split
    · have := putN_len k (n / 128)
      simp only [List.length_cons]
      omega
    · simp
theorem apOk1 {xs ys : List Int} (h : xs.length + ys.length ≤ 1000000) : apOk xs ys 1 = true := by
  unfold apOk
  exact decide_eq_true (Nat.le_trans (Nat.mul_le_mul_right 1 h) (by decide))
def tab8 : List Int := ([0, 1, 2, 2, 3, 3, 3, 3, 4, 4, 4, 4, 4, 4, 4, 4, 5, 5, 5, 5, 5, 5, 5, 5, 5, 5, 5, 5, 5, 5, 5, 5, 6, 6, 6, 6, 6, 6, 6, 6, 6, 6, 6, 6, 6, 6, 6, 6, 6, 6, 6, 6, 6, 6, 6, 6, 6, 6, 6, 6, 6, 6, 6, 6, 7, 7, 7, 7, 7, 7, 7, 7, 7, 7, 7, 7, 7, 7, 7, 7, 7, 7, 7, 7, 7, 7, 7, 7, 7, 7, 7, 7, 7, 7, 7, 7, 7, 7, 7, 7, 7, 7, 7, 7, 7, 7, 7, 7, 7, 7, 7, 7, 7, 7, 7, 7, 7, 7, 7, 7, 7, 7, 7, 7, 7, 7, 7, 7, 8, 8, 8, 8, 8, 8, 8, 8, 8, 8, 8, 8, 8, 8, 8, 8, 8, 8, 8, 8, 8, 8, 8, 8, 8, 8, 8, 8, 8, 8, 8, 8, 8, 8, 8, 8, 8, 8, 8, 8, 8, 8, 8, 8, 8, 8, 8, 8, 8, 8, 8, 8, 8, 8, 8, 8, 8, 8, 8, 8, 8, 8, 8, 8, 8, 8, 8, 8, 8, 8, 8, 8, 8, 8, 8, 8, 8, 8, 8, 8, 8, 8, 8, 8, 8, 8, 8, 8, 8, 8, 8, 8, 8, 8, 8, 8, 8, 8, 8, 8, 8, 8, 8, 8, 8, 8, 8, 8, 8, 8, 8, 8, 8, 8, 8, 8, 8, 8, 8, 8, 8, 8, 8, 8, 8, 8, 8, 8] : List Int)
theorem tab8_ok (x : Int) (h0 : 0 ≤ x) (h1 : x < 256) : ixOk tab8 x = true ∧ 0 ≤ ixL 0 tab8 x ∧ ixL 0 tab8 x ≤ 8 := by
  have key : ∀ m : Fin 256, ixOk tab8 (m.val : Int) = true ∧ 0 ≤ ixL 0 tab8 (m.val : Int) ∧ ixL 0 tab8 (m.val : Int) ≤ 8 := by decide +kernel
  have := key ⟨x.toNat, by omega⟩
  simp only at this
  rw [show (x.toNat : Int) = x by omega] at this
  exact this
theorem len_j7 (fu : Nat) k1 (x n : Int) (h0 : 0 ≤ x) (h1 : x < 65536) (hn : 0 ≤ n) (hn1 : n ≤ 100) : ∃ r, bitsLen64.j7 fu k1 x n = k1 r ∧ 0 ≤ r ∧ r ≤ n + 16 := by
  unfold bitsLen64.j7
  rw [show ([0, 1, 2, 2, 3, 3, 3, 3, 4, 4, 4, 4, 4, 4, 4, 4, 5, 5, 5, 5, 5, 5, 5, 5, 5, 5, 5, 5, 5, 5, 5, 5, 6, 6, 6, 6, 6, 6, 6, 6, 6, 6, 6, 6, 6, 6, 6, 6, 6, 6, 6, 6, 6, 6, 6, 6, 6, 6, 6, 6, 6, 6, 6, 6, 7, 7, 7, 7, 7, 7, 7, 7, 7, 7, 7, 7, 7, 7, 7, 7, 7, 7, 7, 7, 7, 7, 7, 7, 7, 7, 7, 7, 7, 7, 7, 7, 7, 7, 7, 7, 7, 7, 7, 7, 7, 7, 7, 7, 7, 7, 7, 7, 7, 7, 7, 7, 7, 7, 7, 7, 7, 7, 7, 7, 7, 7, 7, 7, 8, 8, 8, 8, 8, 8, 8, 8, 8, 8, 8, 8, 8, 8, 8, 8, 8, 8, 8, 8, 8, 8, 8, 8, 8, 8, 8, 8, 8, 8, 8, 8, 8, 8, 8, 8, 8, 8, 8, 8, 8, 8, 8, 8, 8, 8, 8, 8, 8, 8, 8, 8, 8, 8, 8, 8, 8, 8, 8, 8, 8, 8, 8, 8, 8, 8, 8, 8, 8, 8, 8, 8, 8, 8, 8, 8, 8, 8, 8, 8, 8, 8, 8, 8, 8, 8, 8, 8, 8, 8, 8, 8, 8, 8, 8, 8, 8, 8, 8, 8, 8, 8, 8, 8, 8, 8, 8, 8, 8, 8, 8, 8, 8, 8, 8, 8, 8, 8, 8, 8, 8, 8, 8, 8, 8, 8, 8, 8] : List Int) = tab8 from rfl]
  have fits : ∀ y : Int, 0 ≤ y → y ≤ 1000 → IntKind.i64.wrap y = y := fun y a b => wrap_i64 (by omega) (by omega)
  by_cases h : x ≥ 256
  · have e1 : sShr .u64 x 8 = x / 256 := by have := shr_eq x 8 (by omega); simpa using this
    have e2 : IntKind.u8.wrap (x / 256) = x / 256 := by rw [wrap_u8]; omega
    obtain ⟨q1, q2, q3⟩ := tab8_ok (x / 256) (by omega) (by omega)
    simp only [h, decide_true, cond_true, e1, e2, q1, chk]
    rw [fits (n + 8) (by omega) (by omega), fits (ixL 0 tab8 (x / 256)) q2 (by omega), fits _ (by omega) (by omega)]
    exact ⟨_, rfl, by omega, by omega⟩
  · obtain ⟨q1, q2, q3⟩ := tab8_ok x (by omega) (by omega)
    have e2 : IntKind.u8.wrap x = x := by rw [wrap_u8]; omega
    simp only [h, decide_false, cond_false, e2, q1, chk, cond_true]
    rw [fits (ixL 0 tab8 x) q2 (by omega), fits _ (by omega) (by omega)]
    exact ⟨_, rfl, by omega, by omega⟩
theorem len_j4 (fu : Nat) k1 (x n : Int) (h0 : 0 ≤ x) (h1 : x < 4294967296) (hn : 0 ≤ n) (hn1 : n ≤ 64) : ∃ r, bitsLen64.j4 fu k1 x n = k1 r ∧ 0 ≤ r ∧ r ≤ n + 32 := by
  unfold bitsLen64.j4
  by_cases h : x ≥ 65536
  · have e1 : sShr .u64 x 16 = x / 65536 := by have := shr_eq x 16 (by omega); simpa using this
    have e2 : IntKind.i64.wrap (n + 16) = n + 16 := wrap_i64 (by omega) (by omega)
    simp only [h, decide_true, cond_true, e1, e2]
    obtain ⟨r, h1, h2, h3⟩ := len_j7 fu (fun q => k1 q) (x / 65536) (n + 16) (by omega) (by omega) (by omega) (by omega)
    exact ⟨r, h1, h2, by omega⟩
  · simp only [h, decide_false, cond_false]
    obtain ⟨r, h1, h2, h3⟩ := len_j7 fu (fun q => k1 q) x n (by omega) (by omega) (by omega) (by omega)
    exact ⟨r, h1, h2, by omega⟩
theorem len64_le (fu : Nat) (n : Int) (h0 : 0 ≤ n) (h1 : n < 18446744073709551616) : ∃ r, bitsLen64 fu n = some (r, ()) ∧ 0 ≤ r ∧ r ≤ 64 := by
  unfold bitsLen64
  by_cases h : n ≥ 4294967296
  · have e1 : sShr .u64 n 32 = n / 4294967296 := by have := shr_eq n 32 (by omega); simpa using this
    simp only [h, decide_true, cond_true, e1]
    obtain ⟨r, h1, h2, h3⟩ := len_j4 fu (fun q => some (q, ())) (n / 4294967296) 32 (by omega) (by omega) (by omega) (by omega)
    exact ⟨r, h1, h2, by omega⟩
  · simp only [h, decide_false, cond_false]
    obtain ⟨r, h1, h2, h3⟩ := len_j4 fu (fun q => some (q, ())) n 0 (by omega) (by omega) (by omega) (by omega)
    exact ⟨r, h1, h2, by omega⟩
theorem size_le (fu : Nat) (n : Int) (h0 : 0 ≤ n) (h1 : n < 18446744073709551616) : ∃ r, packSize fu n = some (r, ()) ∧ 0 ≤ r ∧ r ≤ 10 := by
  unfold packSize
  obtain ⟨r, q1, q2, q3⟩ := len64_le fu n h0 h1
  have e1 : IntKind.i64.wrap (max2 r 1 + 6) = max r 1 + 6 := by rw [max2_eq, wrap_i64 (by omega) (by omega)]
  have e2 : Int.tdiv (max r 1 + 6) 7 = (max r 1 + 6) / 7 := Int.tdiv_eq_ediv_of_nonneg (by omega)
  have e3 : IntKind.i64.wrap ((max r 1 + 6) / 7) = (max r 1 + 6) / 7 := wrap_i64 (by omega) (by omega)
  simp only [q1, Option.bind_some, e1, e2, e3]
  exact ⟨_, rfl, by omega, by omega⟩
theorem own_eq (fu : Nat) (b : List Int) (room : Int) (hl : b.length ≤ 500000) (h0 : 0 ≤ room) (h1 : room ≤ 1000) : packOwn fu b room = some ((b, ()), ()) := by
  unfold packOwn
  have e1 : IntKind.i64.wrap ((b.length : Int) + room) = b.length + room := wrap_i64 (by omega) (by omega)
  have e2 : mkOk 0 ((b.length : Int) + room) 1 = true := by
    have hL : (1000000 : Int) ≤ (LIM : Int) := by decide
    unfold mkOk
    simp only [Bool.and_eq_true, decide_eq_true_eq]
    omega
  have e3 : apOk ([] : List Int) b 1 = true := apOk1 (by simp; omega)
  simp only [e1, e2, chk, cond_true, Int.toNat_zero, List.replicate_zero, e3, List.nil_append]
theorem pow_succ128 (k : Nat) : (128 : Int) ^ (k + 1) = 128 * 128 ^ k := by rw [Int.pow_succ, Int.mul_comm]
theorem putO_rounds (fu : Nat) (k2 : Int → List Int → Option (((List Int) × Unit) × (Unit))) : ∀ (k m : Nat) (n : Int) (out : List Int), k < m → 0 ≤ n → n < 128 ^ (k + 1) → out.length + k ≤ 500000 →
    ∃ last init, putN k n = init ++ [last] ∧ 0 ≤ last ∧ last < 128 ∧ packPut.l2 fu k2 m n out = k2 last (out ++ init) := by
  intro k
  induction k with
  | zero =>
    intro m n out hm h0 h1 hl
    obtain ⟨m, rfl⟩ : ∃ j, m = j + 1 := ⟨m - 1, by omega⟩
    have hn : ¬ n ≥ 128 := by have : (128 : Int) ^ (0 + 1) = 128 := by decide
                              omega
    refine ⟨n, [], by simp [putN], h0, by omega, ?_⟩
    unfold packPut.l2 packPut.b2
    simp [hn]
  | succ k ih =>
    intro m n out hm h0 h1 hl
    obtain ⟨m, rfl⟩ : ∃ j, m = j + 1 := ⟨m - 1, by omega⟩
    unfold packPut.l2 packPut.b2 putN
    by_cases hn : n ≥ 128
    · have e1 : sShr .u64 n 7 = n / 128 := by have := shr_eq n 7 (by omega); simpa using this
      have e2 : bOr .u8 (IntKind.u8.wrap n) 128 = n % 128 + 128 := by rw [wrap_u8, byte_or _ (by omega) (by omega)]; omega
      rw [pow_succ128] at h1
      obtain ⟨last, init, q1, q2, q3, q4⟩ := ih m (n / 128) (out ++ [n % 128 + 128]) (by omega) (by omega) (by omega) (by simp; omega)
      refine ⟨last, (n % 128 + 128) :: init, by rw [if_pos hn, q1]; rfl, q2, q3, ?_⟩
      have e3 : apOk out [n % 128 + 128] 1 = true := apOk1 (by simp; omega)
      simp only [hn, decide_true, cond_true, e1, e2, e3, chk]
      rw [q4, List.append_assoc]
      rfl
    · refine ⟨n, [], by rw [if_neg hn]; rfl, h0, by omega, ?_⟩
      simp [hn]
theorem putD_rounds (fu : Nat) (k2 : Int → List Int → Option ((List Int) × Unit)) : ∀ (k m : Nat) (n : Int) (out : List Int), k < m → 0 ≤ n → n < 128 ^ (k + 1) → out.length + k ≤ 500000 →
    ∃ last init, putN k n = init ++ [last] ∧ 0 ≤ last ∧ last < 128 ∧ packPutDat.l2 fu k2 m n out = k2 last (out ++ init) := by
  intro k
  induction k with
  | zero =>
    intro m n out hm h0 h1 hl
    obtain ⟨m, rfl⟩ : ∃ j, m = j + 1 := ⟨m - 1, by omega⟩
    have hn : ¬ n ≥ 128 := by have : (128 : Int) ^ (0 + 1) = 128 := by decide
                              omega
    refine ⟨n, [], by simp [putN], h0, by omega, ?_⟩
    unfold packPutDat.l2 packPutDat.b2
    simp [hn]
  | succ k ih =>
    intro m n out hm h0 h1 hl
    obtain ⟨m, rfl⟩ : ∃ j, m = j + 1 := ⟨m - 1, by omega⟩
    unfold packPutDat.l2 packPutDat.b2 putN
    by_cases hn : n ≥ 128
    · have e1 : sShr .u64 n 7 = n / 128 := by have := shr_eq n 7 (by omega); simpa using this
      have e2 : bOr .u8 (IntKind.u8.wrap n) 128 = n % 128 + 128 := by rw [wrap_u8, byte_or _ (by omega) (by omega)]; omega
      rw [pow_succ128] at h1
      obtain ⟨last, init, q1, q2, q3, q4⟩ := ih m (n / 128) (out ++ [n % 128 + 128]) (by omega) (by omega) (by omega) (by simp; omega)
      refine ⟨last, (n % 128 + 128) :: init, by rw [if_pos hn, q1]; rfl, q2, q3, ?_⟩
      have e3 : apOk out [n % 128 + 128] 1 = true := apOk1 (by simp; omega)
      simp only [hn, decide_true, cond_true, e1, e2, e3, chk]
      rw [q4, List.append_assoc]
      rfl
    · refine ⟨n, [], by rw [if_neg hn]; rfl, h0, by omega, ?_⟩
      simp [hn]
theorem put_eq (fu : Nat) (hfu : 12 ≤ fu) (b : List Int) (n : Int) (hl : b.length ≤ 400000) (h0 : 0 ≤ n) (h1 : n < 18446744073709551616) : packPut fu b n = some ((b ++ putN 9 n, ()), ()) ∧ packPutDat fu b n = some (b ++ putN 9 n, ()) := by
  obtain ⟨r, q1, q2, q3⟩ := size_le fu n h0 h1
  have hp : (128 : Int) ^ (9 + 1) = 1180591620717411303424 := by decide
  constructor
  · obtain ⟨last, init, p1, p2, p3, p4⟩ := putO_rounds fu (fun nq2 outq2 => 
      chk (apOk outq2 ([IntKind.u8.wrap nq2]) 1) <|
      let t3 := outq2 ++ ([IntKind.u8.wrap nq2])
      some ((t3, ()), (()))) 9 fu n b (by omega) h0 (by omega) (by omega)
    have hlen := putN_len 9 n
    rw [p1] at hlen
    simp only [List.length_append, List.length_cons, List.length_nil] at hlen
    have e1 : IntKind.u8.wrap last = last := by rw [wrap_u8]; omega
    have e2 : apOk (b ++ init) [last] 1 = true := apOk1 (by simp; omega)
    unfold packPut
    simp only [q1, Option.bind_some, own_eq fu b r (by omega) q2 (by omega)]
    refine p4.trans ?_
    simp only [e1, e2, chk, cond_true, p1, List.append_assoc]
  · obtain ⟨last, init, p1, p2, p3, p4⟩ := putD_rounds fu (fun nq2 outq2 => 
      chk (apOk outq2 ([IntKind.u8.wrap nq2]) 1) <|
      let t3 := outq2 ++ ([IntKind.u8.wrap nq2])
      some (t3, ())) 9 fu n b (by omega) h0 (by omega) (by omega)
    have hlen := putN_len 9 n
    rw [p1] at hlen
    simp only [List.length_append, List.length_cons, List.length_nil] at hlen
    have e1 : IntKind.u8.wrap last = last := by rw [wrap_u8]; omega
    have e2 : apOk (b ++ init) [last] 1 = true := apOk1 (by simp; omega)
    unfold packPutDat
    simp only [q1, Option.bind_some, own_eq fu b r (by omega) q2 (by omega)]
    refine p4.trans ?_
    simp only [e1, e2, chk, cond_true, p1, List.append_assoc]
/-- What is got is put as it stood. -/
theorem get_put : ∀ (k i : Nat) (l : List Int) (n v e : Int), By l → i + k = 9 → get1 l i n = (v, e, 0) →
    ∃ (m : Int) (j : Nat), v = n + m * 128 ^ i ∧ 0 ≤ m ∧ m < 2 * 128 ^ k ∧ e = i + j ∧ 0 < j ∧ j ≤ l.length ∧ l.take j = putN k m ∧ (i > 0 → 1 ≤ m) := by
  intro k
  induction k with
  | zero =>
    intro i l n v e hb hi h
    cases l with
    | nil => cases h
    | cons c r =>
      have hc := hb c List.mem_cons_self
      unfold get1 at h
      split at h
      · cases h
      · rename_i h9
        have hc1 : ¬ c > 1 := fun hx => h9 ⟨by omega, hx⟩
        rw [if_neg (by omega)] at h
        split at h
        · cases h
        · rename_i h0
          cases h
          refine ⟨c, 1, rfl, hc.1, by omega, by omega, by omega, by simp, by simp [putN], fun hi0 => ?_⟩
          rcases Int.lt_or_le 0 c with hx | hx
          · omega
          · exact absurd ⟨by omega, hi0⟩ h0
  | succ k ih =>
    intro i l n v e hb hi h
    cases l with
    | nil => cases h
    | cons c r =>
      have hc := hb c List.mem_cons_self
      unfold get1 at h
      rw [if_neg (by omega)] at h
      have hpk : (1 : Int) ≤ 128 ^ k := by
        have : 0 < 128 ^ k := Nat.pow_pos (by omega)
        have e : (128 : Int) ^ k = ((128 ^ k : Nat) : Int) := by norm_cast
        omega
      split at h
      · rename_i h128
        obtain ⟨m, j, q1, q2, q3, q4, q5, q6, q7, q8⟩ := ih (i + 1) r _ v e (by_tail hb) (by omega) h
        have hm1 := q8 (by omega)
        refine ⟨c - 128 + 128 * m, j + 1, ?_, by omega, by rw [Int.pow_succ]; omega, by omega, by omega, by simp; omega, ?_, fun _ => by omega⟩
        · rw [q1, Int.pow_succ, Int.add_mul, Int.mul_comm 128 m, Int.mul_assoc m 128, Int.mul_comm 128 (128 ^ i)]; omega
        · rw [List.take_succ_cons, q7]
          conv => rhs; unfold putN
          rw [if_pos (by omega), show (c - 128 + 128 * m) % 128 + 128 = c by omega, show (c - 128 + 128 * m) / 128 = m by omega]
      · rename_i h128
        split at h
        · cases h
        · rename_i h0
          cases h
          refine ⟨c, 1, rfl, hc.1, by rw [Int.pow_succ]; omega, by omega, by omega, by simp, ?_, fun hi0 => ?_⟩
          · conv => rhs; unfold putN
            rw [if_neg (by omega)]; simp
          · rcases Int.lt_or_le 0 c with hx | hx
            · omega
            · exact absurd ⟨by omega, hi0⟩ h0
/-- What is put is got as it was. -/
theorem put_get : ∀ (k i : Nat) (m n : Int) (rest : List Int), i + k = 9 → 0 ≤ m → m < 2 * 128 ^ k → (i > 0 → 1 ≤ m) → get1 (putN k m ++ rest) i n = (n + m * 128 ^ i, (i : Int) + ((putN k m).length : Int), 0) := by
  intro k
  induction k with
  | zero =>
    intro i m n rest hi h0 h1 hp
    have hm1 : m ≤ 1 := by simp at h1; omega
    unfold putN get1
    simp only [List.cons_append, List.nil_append]
    rw [if_neg (by omega), if_neg (by omega), if_neg (fun h => by have := hp h.2; omega)]
    simp
  | succ k ih =>
    intro i m n rest hi h0 h1 hp
    unfold putN
    split
    · rename_i hge
      simp only [List.cons_append]
      unfold get1
      rw [if_neg (by omega), if_pos (by omega)]
      rw [ih (i + 1) (m / 128) _ rest (by omega) (by omega) (by rw [Int.pow_succ] at h1; omega) (fun _ => by omega)]
      simp only [List.length_cons]
      refine Prod.ext ?_ (Prod.ext ?_ rfl)
      · show n + (m % 128 + 128 - 128) * 128 ^ i + m / 128 * 128 ^ (i + 1) = n + m * 128 ^ i
        rw [Int.pow_succ, Int.mul_comm (128 ^ i) 128, ← Int.mul_assoc, Int.add_assoc, ← Int.add_mul]
        congr 2
        omega
      · show ((i + 1 : Nat) : Int) + ((putN k (m / 128)).length : Int) = (i : Int) + (((putN k (m / 128)).length + 1 : Nat) : Int)
        omega
    · rename_i hlt
      simp only [List.cons_append, List.nil_append]
      unfold get1
      rw [if_neg (by omega), if_neg (by omega), if_neg (fun h => by have := hp h.2; omega)]
      simp
theorem got_ok {b : List Int} (hb : By b) {at' v e : Int} (h : got b at' = (v, e, 0)) : 0 ≤ at' ∧ 0 ≤ v ∧ v < 18446744073709551616 ∧ ∃ j : Nat, e = at' + j ∧ 0 < j ∧ at' + j ≤ b.length ∧ cutL b at' e = putN 9 v := by
  unfold got at h
  split at h
  · cases h
  · rename_i hn
    generalize hq : get1 (b.drop at'.toNat) 0 0 = q at h
    obtain ⟨v', e', er⟩ := q
    unfold from1 at h
    simp only [Prod.mk.injEq] at h
    obtain ⟨rfl, h2, rfl⟩ := h
    rw [if_pos rfl] at h2
    obtain ⟨m, j, q1, q2, q3, q4, q5, q6, q7, q8⟩ := get_put 9 0 (b.drop at'.toNat) 0 v' e' (fun x hx => hb x (List.mem_of_mem_drop hx)) rfl hq
    have hv : v' = m := by rw [q1]; simp
    rw [List.length_drop] at q6
    have hp : (2 : Int) * 128 ^ 9 = 18446744073709551616 := by decide
    refine ⟨by omega, by omega, by omega, j, by omega, q5, by omega, ?_⟩
    rw [hv, ← q7]
    unfold cutL
    rw [show (e - at').toNat = j by omega]
/-- A number put and got. -/
theorem got_put (a rest : List Int) (n : Int) (h0 : 0 ≤ n) (h1 : n < 18446744073709551616) : got (a ++ putN 9 n ++ rest) a.length = (n, (a.length : Int) + ((putN 9 n).length : Int), 0) := by
  unfold got
  rw [if_neg (by simp; omega)]
  have hp : (2 : Int) * 128 ^ 9 = 18446744073709551616 := by decide
  have e : (a ++ putN 9 n ++ rest).drop (a.length : Int).toNat = putN 9 n ++ rest := by simp
  rw [e, put_get 9 0 n 0 rest rfl h0 (by omega) (fun h => by omega)]
  unfold from1
  simp
theorem cut_len {b : List Int} {x y : Int} (h0 : 0 ≤ x) (h1 : x ≤ y) (h2 : y ≤ b.length) : (cutL b x y).length = (y - x).toNat := by
  unfold cutL
  rw [List.length_take, List.length_drop]
  omega
theorem cut_app {b : List Int} {x y z : Int} (h0 : 0 ≤ x) (h1 : x ≤ y) (h2 : y ≤ z) (h3 : z ≤ b.length) : cutL b x y ++ cutL b y z = cutL b x z := by
  unfold cutL
  have e : b.drop y.toNat = (b.drop x.toNat).drop (y - x).toNat := by rw [List.drop_drop]; congr 1; omega
  rw [e, show (z - x).toNat = (y - x).toNat + (z - y).toNat by omega, List.take_add]
theorem cutOk_of {b : List Int} {x y : Int} (h0 : 0 ≤ x) (h1 : x ≤ y) (h2 : y ≤ b.length) : cutOk b x y = true := by simp [cutOk, h0, h1, h2]

/-- A text at a place. -/
def text1 (b : List Int) (at' most : Int) : List Int × Int × Int :=
  if (got b at').2.2 ≠ 0 then ([], 0, (got b at').2.2) else if (got b at').1 > max most 0 then ([], 0, 4) else if (got b at').1 > b.length - (got b at').2.1 then ([], 0, 3)
  else (cutL b (got b at').2.1 ((got b at').2.1 + (got b at').1), (got b at').2.1 + (got b at').1, 0)
theorem getText_eq (fu : Nat) (b : List Int) (hb : By b) (hl : b.length ≤ 100000) (hfu : b.length < fu) (at' most : Int) (hm : -9223372036854775808 ≤ most ∧ most < 9223372036854775808) : packGetText fu b at' most = some ((text1 b at' most).1, (text1 b at' most).2.1, (text1 b at' most).2.2, ()) := by
  unfold packGetText text1
  rw [packGet_eq fu b hb hl hfu]
  generalize hq : got b at' = q
  obtain ⟨v, e, er⟩ := q
  simp only [Option.bind_some]
  by_cases h : er = 0
  · subst h
    obtain ⟨g1, g2, g3, j, g4, g5, g6, g7⟩ := got_ok hb hq
    have e1 : IntKind.u64.wrap (max2 most 0) = max most 0 := by rw [max2_eq]; exact wrap_u64 (by omega) (by omega)
    have e2 : IntKind.i64.wrap ((b.length : Int) - e) = b.length - e := wrap_i64 (by omega) (by omega)
    have e3 : IntKind.u64.wrap ((b.length : Int) - e) = b.length - e := wrap_u64 (by omega) (by omega)
    simp only [bne_self_eq_false, cond_false, e1, e2, e3, ne_eq, not_true_eq_false, if_false]
    by_cases h1 : v > max most 0
    · simp [h1]
    · by_cases h2 : v > b.length - e
      · simp only [h1, h2, decide_false, decide_true, cond_false, cond_true, if_false, if_true]
      · have e4 : IntKind.i64.wrap v = v := wrap_i64 (by omega) (by omega)
        have e5 : IntKind.i64.wrap (e + v) = e + v := wrap_i64 (by omega) (by omega)
        simp only [h1, h2, decide_false, cond_false, if_false, e4, e5, cutOk_of (show 0 ≤ e by omega) (show e ≤ e + v by omega) (show e + v ≤ b.length by omega), chk, cond_true]
  · have h' : (er != 0) = true := bne_iff_ne.2 h
    simp [h, h']
theorem text_ok {b : List Int} (hb : By b) {at' most e : Int} {s : List Int} (h : text1 b at' most = (s, e, 0)) : 0 ≤ at' ∧ at' ≤ e ∧ e ≤ b.length ∧ (s.length : Int) ≤ b.length ∧ cutL b at' e = putN 9 s.length ++ s := by
  unfold text1 at h
  generalize hq : got b at' = q at h
  obtain ⟨v, e', er⟩ := q
  simp only at h
  split at h
  · rename_i h0
    simp only [Prod.mk.injEq] at h
    exact absurd h.2.2 h0
  · rename_i h0
    have h0 : er = 0 := by omega
    subst h0
    split at h
    · cases h
    · split at h
      · cases h
      · rename_i h1 h2
        cases h
        obtain ⟨g1, g2, g3, j, g4, g5, g6, g7⟩ := got_ok hb hq
        have hlen : (cutL b e' (e' + v)).length = v.toNat := by rw [cut_len (by omega) (by omega) (by omega)]; omega
        refine ⟨g1, by omega, by omega, by omega, ?_⟩
        rw [hlen, show (v.toNat : Int) = v by omega, ← g7]
        exact (cut_app g1 (by omega) (by omega) (by omega)).symm
theorem putText_eq (fu : Nat) (hfu : 12 ≤ fu) (b s : List Int) (hl : b.length ≤ 400000) (hs : s.length ≤ 400000) : packPutText fu b s = some (b ++ putN 9 s.length ++ s, ()) := by
  unfold packPutText
  have e1 : IntKind.u64.wrap (s.length : Int) = s.length := wrap_u64 (by omega) (by omega)
  have := putN_len 9 s.length
  have e2 : apOk (b ++ putN 9 s.length) s 1 = true := apOk1 (by rw [List.length_append]; omega)
  simp only [e1, (put_eq fu hfu b s.length hl (by omega) (by omega)).1, Option.bind_some, e2, chk, cond_true]

/-- The bits of a number, the one NaN for all. -/
def isNan (x : Nat) : Prop := x % 9223372036854775808 > 9218868437227405312
instance : DecidablePred isNan := fun x => inferInstanceAs (Decidable (_ > _))
def canon (x : Nat) : Int := if isNan x then 9221120237041090560 else x
theorem nan_iff (x : Nat) : fNeq x x = decide (isNan x) := by
  unfold fNeq
  show (FloatKind.f64.format.order x x != some .eq) = _
  have hsw : FloatKind.f64.format.signWeight = 9223372036854775808 := by decide
  have hir : FloatKind.f64.format.infRung = 9218868437227405312 := by decide
  have hbi : FloatKind.f64.format.binade = 4503599627370496 := by decide
  unfold Ieee.Format.order Ieee.Format.read
  have no : ¬ (x % 9223372036854775808 > 9218868437227405312) → decide (isNan x) = false := fun h => decide_eq_false h
  simp only [hsw, hir, hbi]
  split
  · rename_i h
    rw [no (by omega)]
    simp [Ieee.Datum.order]
  · split
    · rename_i h1 h2
      rw [no (by omega)]
      simp [Ieee.Datum.order]
    · split
      · rename_i h1 h2 h3
        rw [no (by omega)]
        simp [Ieee.Datum.order]
      · rename_i h1 h2 h3
        exact (decide_eq_true (p := isNan x) (show x % 9223372036854775808 > 9218868437227405312 by omega)).symm
theorem realBits_eq (fu : Nat) (x : Nat) (h : x < 18446744073709551616) : realBits fu x = some (canon x, ()) := by
  unfold realBits canon
  rw [nan_iff]
  by_cases hx : isNan x
  · simp [hx]
  · have : extBits.f fu (x, ()) = some ((x : Int), ()) := by
      show (match decide (x < 18446744073709551616) with | true => some ((x : Int), ()) | false => none) = _
      rw [decide_eq_true h]
    simp only [hx, decide_false, cond_false, if_false]
    rw [this]
    rfl
theorem canon_fits (x : Nat) (h : x < 18446744073709551616) : 0 ≤ canon x ∧ canon x < 18446744073709551616 := by
  unfold canon; split <;> omega
theorem realFrom_eq (fu : Nat) (n : Int) (h0 : 0 ≤ n) (h : n < 18446744073709551616) : realFrom fu n = some (if canon n.toNat = n then (n.toNat, true, ()) else (0, false, ())) := by
  unfold realFrom
  have : extFrom.f fu (n, ()) = some (n.toNat, ()) := rfl
  rw [this]
  show ((realBits fu n.toNat).bind fun r2 => cond (r2.1 != n) (some ((0 : Nat), false, ())) (some (n.toNat, true, ()))) = _
  rw [realBits_eq fu n.toNat (by omega)]
  by_cases hx : canon n.toNat = n
  · have hx' : (canon n.toNat != n) = false := by rw [hx]; exact bne_self_eq_false _
    simp only [Option.bind_some, hx', cond_false, if_pos hx]
  · have hx' : (canon n.toNat != n) = true := bne_iff_ne.2 hx
    simp only [Option.bind_some, hx', cond_true, if_neg hx]

def be (l : List Int) (n : Int) : Int := l.foldl (fun n c => n * 256 + c) n
theorem or_comm' (k : IntKind) (x y : Int) : bOr k x y = bOr k y x := by unfold bOr; rw [BitVec.or_comm]
theorem real_rounds (fu : Nat) (k2 : Int → Int → Option (Nat × Int × Int × Unit)) (at' : Int) (v : List Int) (hv : By v) (hl : v.length = 8) : ∀ (m i : Nat) (n : Int), i ≤ 8 → 8 < i + m → 0 ≤ n → n < 256 ^ i →
    packGetReal.l5 fu k2 m at' n v 8 i = k2 at' (be (v.drop i) n) := by
  intro m
  induction m with
  | zero => intro i n h1 h2; omega
  | succ m ih =>
    intro i n h1 h2 h3 h4
    unfold packGetReal.l5 packGetReal.b5
    by_cases hi : i < 8
    · have hi' : (i : Int) < 8 := by omega
      have hil : i < v.length := by omega
      have hix : ixOk v i = true := by simp [ixOk, hil]
      have hc := hv _ (List.getElem_mem hil)
      have e1 : IntKind.i64.wrap ((i : Int) + 1) = (i + 1 : Nat) := wrap_i64 (by omega) (by omega)
      have hp : (256 : Int) ^ i ≤ 72057594037927936 := by
        have h1 : 256 ^ i ≤ 256 ^ 7 := Nat.pow_le_pow_right (by omega) (by omega)
        have e : (256 : Int) ^ i = ((256 ^ i : Nat) : Int) := by rw [Int.natCast_pow]; rfl
        rw [e]
        have : (256 : Nat) ^ 7 = 72057594037927936 := by decide
        omega
      rw [List.drop_eq_getElem_cons hil]
      simp only [hi', decide_true, cond_true, chk, hix, ixL_get hil, e1]
      generalize v[i] = c at hc
      have e2 : sShl .u64 n 8 = n * 256 := by have := shl_eq n 8 (by omega) h3 (by omega); rw [show (2 : Int) ^ 8 = 256 by decide] at this; exact this
      have e3 : IntKind.u64.wrap c = c := wrap_u64 (by omega) (by omega)
      have e4 : bOr .u64 (n * 256) c = n * 256 + c := by
        obtain ⟨N, rfl⟩ := Int.eq_ofNat_of_zero_le h3
        obtain ⟨C, rfl⟩ := Int.eq_ofNat_of_zero_le hc.1
        have := or_add C N 8 (by omega) (by omega)
        rw [or_comm']
        have e : ((N * 2 ^ 8 : Nat) : Int) = (N : Int) * 256 := by omega
        rw [e] at this
        rw [this]
        omega
      rw [e2, e3, e4, ih (i + 1) (n * 256 + c) (by omega) (by omega) (by omega) (by rw [Int.pow_succ]; omega)]
      rfl
    · have : i = 8 := by omega
      subst this
      rw [List.drop_of_length_le (by omega)]
      simp [be]
def real1 (b : List Int) (at' : Int) : Nat × Int × Int :=
  if at' < 0 ∨ at' > b.length - 8 then (0, 0, 3) else if canon (be (cutL b at' (at' + 8)) 0).toNat = be (cutL b at' (at' + 8)) 0 then ((be (cutL b at' (at' + 8)) 0).toNat, at' + 8, 0) else (0, 0, 2)
theorem be_fits : ∀ (l : List Int) (n : Int) (i : Nat), By l → 0 ≤ n → n < 256 ^ i → 0 ≤ be l n ∧ be l n < 256 ^ (i + l.length) := by
  intro l
  induction l with
  | nil => intro n i _ h0 h1; exact ⟨h0, h1⟩
  | cons c r ih =>
    intro n i hb h0 h1
    have hc := hb c List.mem_cons_self
    have := ih (n * 256 + c) (i + 1) (by_tail hb) (by omega) (by rw [Int.pow_succ]; omega)
    rw [show i + (c :: r).length = i + 1 + r.length by simp; omega]
    exact this
theorem be_u64 {l : List Int} (hb : By l) (hl : l.length = 8) : 0 ≤ be l 0 ∧ be l 0 < 18446744073709551616 := by
  have := be_fits l 0 0 hb (by omega) (by simp)
  rw [hl] at this
  have e : (256 : Int) ^ (0 + 8) = 18446744073709551616 := by decide
  omega
theorem getReal_eq (fu : Nat) (hfu : 10 ≤ fu) (b : List Int) (hb : By b) (hl : b.length ≤ 100000) (at' : Int) : packGetReal fu b at' = some ((real1 b at').1, (real1 b at').2.1, (real1 b at').2.2, ()) := by
  unfold packGetReal real1
  by_cases h1 : at' < 0
  · simp [h1]
  · have e1 : IntKind.i64.wrap ((b.length : Int) - 8) = b.length - 8 := wrap_i64 (by omega) (by omega)
    by_cases h2 : at' > b.length - 8
    · simp [h1, e1, h2]
    · have e2 : IntKind.i64.wrap (at' + 8) = at' + 8 := wrap_i64 (by omega) (by omega)
      have hlen : (cutL b at' (at' + 8)).length = 8 := by rw [cut_len (by omega) (by omega) (by omega)]; omega
      have hby : By (cutL b at' (at' + 8)) := by_cut hb _ _
      have hu := be_u64 hby hlen
      simp only [h1, h2, e1, e2, decide_false, cond_false, cutOk_of (show 0 ≤ at' by omega) (show at' ≤ at' + 8 by omega) (show at' + 8 ≤ b.length by omega), chk, cond_true, hlen, or_self, if_false]
      have := real_rounds fu (fun atvq2 nq2 =>
          (realFrom fu nq2).bind fun r4 =>
          cond (!r4.2.1) (
            some ((0 : Nat), (0 : Int), (2 : Int), ())) (
            let t5 := IntKind.i64.wrap (atvq2 + (8 : Int))
            some (r4.1, t5, (0 : Int), ()))) at' (cutL b at' (at' + 8)) hby hlen fu 0 0 (by omega) (by omega) (by omega) (by simp)
      refine this.trans ?_
      simp only [List.drop_zero, realFrom_eq fu _ hu.1 hu.2, Option.bind_some, e2]
      by_cases h3 : canon (be (cutL b at' (at' + 8)) 0).toNat = be (cutL b at' (at' + 8)) 0
      · rw [if_pos h3, if_pos h3]; rfl
      · rw [if_neg h3, if_neg h3]; rfl
/-- Eight bytes, the great ones ahead. -/
def bytes8 (n : Int) : List Int := [n / 72057594037927936 % 256, n / 281474976710656 % 256, n / 1099511627776 % 256, n / 4294967296 % 256, n / 16777216 % 256, n / 65536 % 256, n / 256 % 256, n % 256]
theorem bytes8_be {l : List Int} (hb : By l) (hl : l.length = 8) : bytes8 (be l 0) = l := by
  match l, hl with
  | [a, b, c, d, e, f, g, h], _ =>
    have ha := hb a (by simp); have hbb := hb b (by simp); have hc := hb c (by simp); have hd := hb d (by simp)
    have he := hb e (by simp); have hf := hb f (by simp); have hg := hb g (by simp); have hh := hb h (by simp)
    show bytes8 ((((((((0 * 256 + a) * 256 + b) * 256 + c) * 256 + d) * 256 + e) * 256 + f) * 256 + g) * 256 + h) = _
    unfold bytes8
    congr 1
    · omega
    congr 1
    · omega
    congr 1
    · omega
    congr 1
    · omega
    congr 1
    · omega
    congr 1
    · omega
    congr 1
    · omega
    congr 1
    omega
theorem be_bytes8 (n : Int) (h0 : 0 ≤ n) (h1 : n < 18446744073709551616) : be (bytes8 n) 0 = n := by
  show (((((((0 * 256 + n / 72057594037927936 % 256) * 256 + n / 281474976710656 % 256) * 256 + n / 1099511627776 % 256) * 256 + n / 4294967296 % 256) * 256 + n / 16777216 % 256) * 256 + n / 65536 % 256) * 256 + n / 256 % 256) * 256 + n % 256 = n
  omega
theorem bytes8_by (n : Int) : By (bytes8 n) := by
  intro x hx
  simp only [bytes8, List.mem_cons, List.not_mem_nil, or_false] at hx
  omega
theorem realD_step (fu : Nat) (k2 : List Int → Option ((List Int) × Unit)) (m k : Nat) (hk : k < 64) (out : List Int) (n : Int) (ho : out.length ≤ 900000) :
    packPutRealDat.l4 fu k2 (m + 1) out n (k : Int) = packPutRealDat.l4 fu k2 m (out ++ [n / 2 ^ k % 256]) n ((k : Int) - 8) := by
  have e1 : apOk out [n / 2 ^ k % 256] 1 = true := apOk1 (by simp; omega)
  have e2 : IntKind.i64.wrap ((k : Int) - 8) = k - 8 := wrap_i64 (by omega) (by omega)
  have h1 : decide ((k : Int) ≥ 0) = true := decide_eq_true (by omega)
  have h2 : decide ((k : Int) < 0) = false := decide_eq_false (by omega)
  conv => lhs; unfold packPutRealDat.l4 packPutRealDat.b4
  simp only [h1, h2, cond_true, chk, Bool.not_false, shr_eq n k hk, wrap_u8, e1, e2]
theorem realD_end (fu : Nat) (k2 : List Int → Option ((List Int) × Unit)) (m : Nat) (out : List Int) (n : Int) : packPutRealDat.l4 fu k2 (m + 1) out n (-8) = k2 out := by
  unfold packPutRealDat.l4 packPutRealDat.b4
  rfl
theorem putReal_eq (f : Nat) (b : List Int) (x : Nat) (hl : b.length ≤ 400000) (hx : x < 18446744073709551616) :
    packPutRealDat (f + 9) b x = some (b ++ bytes8 (canon x), ()) := by
  unfold packPutRealDat
  rw [own_eq _ b 8 (by omega) (by omega) (by omega), realBits_eq _ x hx]
  simp only [Option.bind_some]
  generalize canon x = n
  refine (realD_step _ _ (f + 8) 56 (by omega) b n (by omega)).trans ?_
  refine (realD_step _ _ (f + 7) 48 (by omega) _ n (by simp; omega)).trans ?_
  refine (realD_step _ _ (f + 6) 40 (by omega) _ n (by simp; omega)).trans ?_
  refine (realD_step _ _ (f + 5) 32 (by omega) _ n (by simp; omega)).trans ?_
  refine (realD_step _ _ (f + 4) 24 (by omega) _ n (by simp; omega)).trans ?_
  refine (realD_step _ _ (f + 3) 16 (by omega) _ n (by simp; omega)).trans ?_
  refine (realD_step _ _ (f + 2) 8 (by omega) _ n (by simp; omega)).trans ?_
  refine (realD_step _ _ (f + 1) 0 (by omega) _ n (by simp; omega)).trans ?_
  refine (realD_end _ _ f _ n).trans ?_
  simp [bytes8]
theorem real_ok {b : List Int} (hb : By b) {at' e : Int} {x : Nat} (h : real1 b at' = (x, e, 0)) : 0 ≤ at' ∧ e = at' + 8 ∧ e ≤ b.length ∧ x < 18446744073709551616 ∧ cutL b at' e = bytes8 (canon x) := by
  unfold real1 at h
  split at h
  · cases h
  · rename_i hn
    split at h
    · rename_i hc
      have hlen : (cutL b at' (at' + 8)).length = 8 := by rw [cut_len (by omega) (by omega) (by omega)]; omega
      have hby : By (cutL b at' (at' + 8)) := by_cut hb _ _
      have hu := be_u64 hby hlen
      simp only [Prod.mk.injEq, and_true] at h
      obtain ⟨rfl, rfl⟩ := h
      exact ⟨by omega, rfl, by omega, by omega, by rw [hc, bytes8_be hby hlen]⟩
    · cases h

/-- The zigzag of a signed number. -/
def zig (n : Int) : Int := if n ≥ 0 then 2 * n else -2 * n - 1
theorem xor_zero64 (x : Int) (h0 : 0 ≤ x) (h1 : x < 18446744073709551616) : bXor .u64 x 0 = x := by
  obtain ⟨N, rfl⟩ := Int.eq_ofNat_of_zero_le h0
  show IntKind.u64.wrap (((BitVec.ofInt 64 (N : Int) ^^^ BitVec.ofInt 64 (0 : Int)).toNat : Nat) : Int) = _
  rw [show BitVec.ofInt 64 (0 : Int) = 0#64 from rfl, BitVec.xor_zero, BitVec.ofInt_natCast, BitVec.toNat_ofNat, Nat.mod_eq_of_lt (by omega)]
  exact wrap_u64 (by omega) (by omega)
theorem xor_ones64 (x : Int) (h0 : 0 ≤ x) (h1 : x < 18446744073709551616) : bXor .u64 x 18446744073709551615 = 18446744073709551615 - x := by
  obtain ⟨N, rfl⟩ := Int.eq_ofNat_of_zero_le h0
  show IntKind.u64.wrap (((BitVec.ofInt 64 (N : Int) ^^^ BitVec.ofInt 64 (18446744073709551615 : Int)).toNat : Nat) : Int) = _
  rw [show BitVec.ofInt 64 (18446744073709551615 : Int) = BitVec.allOnes 64 by decide, BitVec.xor_allOnes, BitVec.toNat_not, BitVec.ofInt_natCast, BitVec.toNat_ofNat, Nat.mod_eq_of_lt (by omega)]
  rw [wrap_u64 (by omega) (by omega)]
  omega
theorem shr63 (n : Int) (h0 : -9223372036854775808 ≤ n) (h1 : n < 9223372036854775808) : sShr .i64 n 63 = if n ≥ 0 then 0 else -1 := by
  unfold sShr
  have e : min (63 : Int).toNat IntKind.i64.bits = 63 := by decide
  rw [e, show (2 : Int) ^ 63 = 9223372036854775808 by decide, Int.fdiv_eq_ediv_of_nonneg _ (by omega)]
  split <;> omega
theorem putInt_eq (fu : Nat) (hfu : 12 ≤ fu) (b : List Int) (n : Int) (hl : b.length ≤ 400000) (h0 : -9223372036854775808 ≤ n) (h1 : n < 9223372036854775808) : packPutInt fu b n = some (b ++ putN 9 (zig n), ()) := by
  unfold packPutInt zig
  rw [shr63 n h0 h1]
  have hsh : ∀ x : Int, 0 ≤ x → x < 18446744073709551616 → sShl .u64 x 1 = IntKind.u64.wrap (x * 2) := fun x _ _ => by
    unfold sShl
    have e : min (1 : Int).toNat IntKind.u64.bits = 1 := by decide
    rw [e]
    rfl
  by_cases hn : n ≥ 0
  · have e1 : IntKind.u64.wrap n = n := wrap_u64 (by omega) (by omega)
    have e2 : sShl .u64 n 1 = 2 * n := by rw [hsh n hn (by omega), wrap_u64 (by omega) (by omega)]; omega
    have e3 : IntKind.u64.wrap 0 = 0 := by decide
    simp only [hn, if_true, e1, e2, e3, xor_zero64 (2 * n) (by omega) (by omega), (put_eq fu hfu b (2 * n) hl (by omega) (by omega)).2, Option.bind_some]
  · have e1 : IntKind.u64.wrap n = n + 18446744073709551616 := by
      simp only [IntKind.wrap, IntKind.signed, IntKind.bits]
      simp
      omega
    have e2 : sShl .u64 (n + 18446744073709551616) 1 = 2 * n + 18446744073709551616 := by
      rw [hsh _ (by omega) (by omega)]
      simp only [IntKind.wrap, IntKind.signed, IntKind.bits]
      simp
      omega
    have e3 : IntKind.u64.wrap (-1) = 18446744073709551615 := by decide
    have e4 : (18446744073709551615 : Int) - (2 * n + 18446744073709551616) = -2 * n - 1 := by omega
    simp only [hn, if_false, e1, e2, e3, xor_ones64 (2 * n + 18446744073709551616) (by omega) (by omega), e4, (put_eq fu hfu b (-2 * n - 1) hl (by omega) (by omega)).2, Option.bind_some]
/-- And back. -/
def zag (v : Int) : Int := if v % 2 = 0 then v / 2 else -(v / 2) - 1
theorem and_one (v : Int) (h0 : 0 ≤ v) (h1 : v < 18446744073709551616) : bAnd .u64 v 1 = v % 2 := by
  obtain ⟨N, rfl⟩ := Int.eq_ofNat_of_zero_le h0
  show IntKind.u64.wrap (((BitVec.ofInt 64 (N : Int) &&& BitVec.ofInt 64 (1 : Int)).toNat : Nat) : Int) = _
  rw [show BitVec.ofInt 64 (1 : Int) = 1#64 from rfl, BitVec.toNat_and, BitVec.ofInt_natCast, BitVec.toNat_ofNat, Nat.mod_eq_of_lt (by omega), show (1#64).toNat = 1 from rfl, Nat.and_one_is_mod]
  rw [wrap_u64 (by omega) (by omega)]
  omega
theorem xor_i64_zero (x : Int) (h0 : 0 ≤ x) (h1 : x < 9223372036854775808) : bXor .i64 x 0 = x := by
  obtain ⟨N, rfl⟩ := Int.eq_ofNat_of_zero_le h0
  show IntKind.i64.wrap (((BitVec.ofInt 64 (N : Int) ^^^ BitVec.ofInt 64 (0 : Int)).toNat : Nat) : Int) = _
  rw [show BitVec.ofInt 64 (0 : Int) = 0#64 from rfl, BitVec.xor_zero, BitVec.ofInt_natCast, BitVec.toNat_ofNat, Nat.mod_eq_of_lt (by omega)]
  exact wrap_i64 (by omega) (by omega)
theorem xor_i64_ones (x : Int) (h0 : 0 ≤ x) (h1 : x < 9223372036854775808) : bXor .i64 x (-1) = -x - 1 := by
  obtain ⟨N, rfl⟩ := Int.eq_ofNat_of_zero_le h0
  show IntKind.i64.wrap (((BitVec.ofInt 64 (N : Int) ^^^ BitVec.ofInt 64 (-1 : Int)).toNat : Nat) : Int) = _
  rw [show BitVec.ofInt 64 (-1 : Int) = BitVec.allOnes 64 by decide, BitVec.xor_allOnes, BitVec.toNat_not, BitVec.ofInt_natCast, BitVec.toNat_ofNat, Nat.mod_eq_of_lt (by omega)]
  simp only [IntKind.wrap, IntKind.signed, IntKind.bits]
  simp
  omega
theorem getInt_eq (fu : Nat) (b : List Int) (hb : By b) (hl : b.length ≤ 100000) (hfu : b.length < fu) (at' : Int) : packGetInt fu b at' = some (zag (got b at').1, (got b at').2.1, (got b at').2.2, ()) := by
  unfold packGetInt
  rw [packGet_eq fu b hb hl hfu]
  have hv : 0 ≤ (got b at').1 ∧ (got b at').1 < 18446744073709551616 := by
    generalize hq : got b at' = q
    obtain ⟨v, e, er⟩ := q
    by_cases h0 : er = 0
    · subst h0
      obtain ⟨g1, g2, g3, _⟩ := got_ok hb hq
      exact ⟨g2, g3⟩
    · unfold got at hq
      split at hq
      · cases hq; simp
      · have hz := get1_err (b.drop at'.toNat) 0 0
        unfold from1 at hq
        simp only [Prod.mk.injEq] at hq
        obtain ⟨rfl, _, h3⟩ := hq
        have := (hz (by rw [h3]; exact h0)).1
        rw [this]; omega
  generalize (got b at').1 = v at hv
  simp only [Option.bind_some]
  have e1 : sShr .u64 v 1 = v / 2 := by have := shr_eq v 1 (by omega); simpa using this
  have e2 : IntKind.i64.wrap (v / 2) = v / 2 := wrap_i64 (by omega) (by omega)
  have e3 : IntKind.i64.wrap (v % 2) = v % 2 := wrap_i64 (by omega) (by omega)
  have e4 : IntKind.i64.wrap (0 - v % 2) = 0 - v % 2 := wrap_i64 (by omega) (by omega)
  rw [and_one v hv.1 hv.2, e1, e2, e3, e4]
  unfold zag
  by_cases h : v % 2 = 0
  · rw [if_pos h, h, show (0 : Int) - 0 = 0 by rfl, xor_i64_zero _ (by omega) (by omega)]
  · rw [if_neg h, show v % 2 = 1 by omega, show (0 : Int) - 1 = -1 by rfl, xor_i64_ones _ (by omega) (by omega)]
theorem zag_zig (n : Int) : zag (zig n) = n := by
  unfold zag zig
  split <;> split <;> omega

/-- The document's bits. -/
theorem partsBits_eq (fu : Nat) (n : Int) (h0 : 0 ≤ n) (h1 : n < 18446744073709551616) : ((ref02OfBits fu n).bind fun r => ref02PartsBits fu r.1) = some (canon n.toNat, ()) := by
  unfold ref02OfBits ref02PartsBits ref02PartsNaN canon
  have t1 : Int.tdiv n 4503599627370496 = n / 4503599627370496 := Int.tdiv_eq_ediv_of_nonneg h0
  have t2 : IntKind.u64.wrap (n / 4503599627370496) = n / 4503599627370496 := wrap_u64 (by omega) (by omega)
  have t3 : Int.tmod (n / 4503599627370496) 2048 = n / 4503599627370496 % 2048 := Int.tmod_eq_emod_of_nonneg (by omega)
  have t4 : IntKind.i64.wrap (n / 4503599627370496 % 2048) = n / 4503599627370496 % 2048 := wrap_i64 (by omega) (by omega)
  have t5 : Int.tmod n 4503599627370496 = n % 4503599627370496 := Int.tmod_eq_emod_of_nonneg h0
  have t6 : IntKind.u64.wrap (n / 4503599627370496 % 2048) = n / 4503599627370496 % 2048 := wrap_u64 (by omega) (by omega)
  have t7 : IntKind.u64.wrap (n / 4503599627370496 % 2048 * 4503599627370496) = n / 4503599627370496 % 2048 * 4503599627370496 := wrap_u64 (by omega) (by omega)
  have t8 : IntKind.u64.wrap (n / 4503599627370496 % 2048 * 4503599627370496 + n % 4503599627370496) = n / 4503599627370496 % 2048 * 4503599627370496 + n % 4503599627370496 := wrap_u64 (by omega) (by omega)
  simp only [t1, t2, t3, t4, t5, t6, t7, t8, Option.bind_some]
  have hnan : isNan n.toNat ↔ n / 4503599627370496 % 2048 = 2047 ∧ n % 4503599627370496 ≠ 0 := by
    unfold isNan
    constructor
    · intro h; omega
    · rintro ⟨h1, h2⟩; omega
  by_cases hx : n / 4503599627370496 % 2048 = 2047
  · by_cases hy : n % 4503599627370496 = 0
    · rw [if_neg (fun h => (hnan.1 h).2 hy)]
      simp only [hx, hy, beq_self_eq_true, bne_self_eq_false, cond_true, cond_false, Option.bind_some]
      by_cases hs : n ≥ 9223372036854775808
      · have : IntKind.u64.wrap (2047 * 4503599627370496 + 0 + 9223372036854775808) = n := by rw [wrap_u64 (by omega) (by omega)]; omega
        simp only [hs, decide_true, cond_true, this]
        congr 2; omega
      · simp only [hs, decide_false, cond_false]
        congr 2; omega
    · rw [if_pos (hnan.2 ⟨hx, hy⟩)]
      have hy' : (n % 4503599627370496 != 0) = true := bne_iff_ne.2 hy
      simp only [hx, hy', beq_self_eq_true, cond_true, Option.bind_some]
  · rw [if_neg (fun h => hx (hnan.1 h).1)]
    have hx' : (n / 4503599627370496 % 2048 == 2047) = false := beq_false_of_ne hx
    simp only [hx', cond_false, Option.bind_some]
    by_cases hs : n ≥ 9223372036854775808
    · have : IntKind.u64.wrap (n / 4503599627370496 % 2048 * 4503599627370496 + n % 4503599627370496 + 9223372036854775808) = n := by rw [wrap_u64 (by omega) (by omega)]; omega
      simp only [hs, decide_true, cond_true, this]
      congr 2; omega
    · simp only [hs, decide_false, cond_false]
      congr 2; omega
theorem canon_canon (x : Nat) : canon (canon x).toNat = canon x := by
  unfold canon
  by_cases h : isNan x
  · rw [if_pos h, if_pos (by decide)]
  · rw [if_neg h, Int.toNat_natCast, if_neg h]
theorem putN_by : ∀ (k : Nat) (n : Int), 0 ≤ n → n < 2 * 128 ^ k → By (putN k n) := by
  intro k
  induction k with
  | zero => intro n h0 h1 x hx; simp [putN] at hx; simp at h1; omega
  | succ k ih =>
    intro n h0 h1 x hx
    unfold putN at hx
    split at hx
    · rcases List.mem_cons.1 hx with rfl | hx
      · omega
      · exact ih (n / 128) (by omega) (by rw [Int.pow_succ] at h1; omega) x hx
    · simp at hx; omega
theorem putN_by9 (n : Int) (h0 : 0 ≤ n) (h1 : n < 18446744073709551616) : By (putN 9 n) := by
  have hp : (2 : Int) * 128 ^ 9 = 18446744073709551616 := by decide
  exact putN_by 9 n h0 (by omega)
theorem by_app {a b : List Int} (ha : By a) (hb : By b) : By (a ++ b) := fun x hx => by
  rcases List.mem_append.1 hx with h | h
  · exact ha x h
  · exact hb x h
theorem cut_mid (a s r : List Int) : cutL (a ++ s ++ r) a.length (a.length + s.length) = s := by
  unfold cutL
  rw [List.append_assoc, show (a.length : Int).toNat = a.length by omega, List.drop_left, show ((a.length : Int) + s.length - a.length).toNat = s.length by omega, List.take_left]
theorem u64Of {x : Int} (h : inR .u64 x) : 0 ≤ x ∧ x < 18446744073709551616 := by
  simp [inR, IntKind.min, IntKind.max, IntKind.signed, IntKind.bits] at h
  omega
theorem i64Of {x : Int} (h : inR .i64 x) : -9223372036854775808 ≤ x ∧ x < 9223372036854775808 := by
  simp [inR, IntKind.min, IntKind.max, IntKind.signed, IntKind.bits] at h
  omega
theorem byOf {l : List Int} (h : (Kd.slice (.int .u8)).ok l) : By l := fun x hx => by
  have := h.2 x hx
  simp [Kd.ok, inR, IntKind.min, IntKind.max, IntKind.signed, IntKind.bits] at this
  omega

theorem ref_rounds (fu : Nat) (k1 : Int → Int → Int → Option (Int × Int × Int × Unit)) (b : List Int) (hb : By b) (hl : b.length ≤ 100000) (A : Nat) (hA : A ≤ b.length) : ∀ (m i : Nat) (n : Int), A + i ≤ b.length → b.length < A + i + m → i ≤ 9 → 0 ≤ n → n < 128 ^ i →
    ref03Get.l6 fu k1 m b A n (128 ^ i) i = fin1 k1 (fun _ => k1 0 0 3) A (get1 (b.drop (A + i)) i n) := by
  intro m
  induction m with
  | zero => intro i n h1 h2; omega
  | succ m ih =>
    intro i n h1 h2 hi9 hn0 hn
    unfold ref03Get.l6 ref03Get.b6
    have e0 : IntKind.i64.wrap ((A : Int) + i) = (A + i : Nat) := by rw [wrap_i64 (by omega) (by omega)]; omega
    by_cases hil : A + i < b.length
    · have hd : decide (((A + i : Nat) : Int) ≥ b.length) = false := decide_eq_false (by omega)
      have hix : ixOk b ((A + i : Nat) : Int) = true := by simp [ixOk]; omega
      have e1 : IntKind.i64.wrap ((i : Int) + 1) = (i + 1 : Nat) := wrap_i64 (by omega) (by omega)
      rw [List.drop_eq_getElem_cons hil]
      have hc := hb _ (List.getElem_mem hil)
      simp only [e0, hd, cond_false, chk, hix, cond_true, ixL_get hil]
      generalize b[A + i] = c at hc
      have hp := pow128_9 hi9
      have hle : ∀ q : Int, 0 ≤ q → q ≤ 127 → (i = 9 → q ≤ 1) → q * 128 ^ i + n < 18446744073709551616 := fun q h0 h1 h9 => by
        rcases Nat.lt_or_ge i 9 with h | h
        · have h8 : (128 : Int) ^ i ≤ 72057594037927936 := by
            have h1 : 128 ^ i ≤ 128 ^ 8 := Nat.pow_le_pow_right (by omega) (by omega)
            have e : (128 : Int) ^ i = ((128 ^ i : Nat) : Int) := by norm_cast
            rw [e]
            have : (128 : Nat) ^ 8 = 72057594037927936 := by decide
            omega
          have : q * 128 ^ i ≤ 127 * 72057594037927936 := Int.mul_le_mul h1 h8 (by omega) (by omega)
          omega
        · have : i = 9 := by omega
          subst this
          have := h9 rfl
          have : q * 128 ^ 9 ≤ 1 * 9223372036854775808 := Int.mul_le_mul this (by decide) (by decide) (by omega)
          omega
      have j11 : (i = 9 → c ≤ 1) → ∀ (K0 : List Int → Int → Int → Int → Int → Option (Int × Int × Int × Unit)) (K1 : Int → Int → Int → Option (Int × Int × Int × Unit)), ref03Get.j11 fu K0 K1 b A n (128 ^ i) i c = (if c ≥ 128 then K0 b A (n + (c - 128) * 128 ^ i) (128 ^ (i + 1)) (i + 1 : Nat) else if c = 0 ∧ i > 0 then K1 0 0 2 else K1 (n + c * 128 ^ i) (A + ((i : Int) + 1)) 0) := by
        intro h9 K0 K1
        unfold ref03Get.j11
        have e2 : Int.tmod c 128 = c % 128 := Int.tmod_eq_emod_of_nonneg hc.1
        have e3 : IntKind.u64.wrap (c % 128) = c % 128 := wrap_u64 (by omega) (by omega)
        have hq := hle (c % 128) (by omega) (by omega) (fun h => by have := h9 h; omega)
        have hnn : 0 ≤ (c % 128) * 128 ^ i := Int.mul_nonneg (by omega) (by omega)
        have e4 : IntKind.u64.wrap (c % 128 * 128 ^ i) = c % 128 * 128 ^ i := wrap_u64 hnn (by omega)
        have e5 : IntKind.u64.wrap (n + c % 128 * 128 ^ i) = n + c % 128 * 128 ^ i := wrap_u64 (by omega) (by omega)
        have e7 : IntKind.i64.wrap ((A : Int) + ((i + 1 : Nat) : Int)) = A + ((i : Int) + 1) := by rw [wrap_i64 (by omega) (by omega)]; omega
        simp only [e2, e3, e4, e5, e1, e7]
        by_cases h128 : c ≥ 128
        · have hlt : ¬ c < 128 := by omega
          have hi8 : i ≤ 8 := by
            rcases Nat.lt_or_ge i 9 with h | h
            · omega
            · have := h9 (by omega); omega
          have e8 : IntKind.u64.wrap (128 ^ i * 128) = 128 ^ (i + 1) := by
            rw [Int.pow_succ]
            have h8 : (128 : Int) ^ i ≤ 72057594037927936 := by
              have h1 : 128 ^ i ≤ 128 ^ 8 := Nat.pow_le_pow_right (by omega) (by omega)
              have e : (128 : Int) ^ i = ((128 ^ i : Nat) : Int) := by norm_cast
              rw [e]
              have : (128 : Nat) ^ 8 = 72057594037927936 := by decide
              omega
            exact wrap_u64 (by omega) (by omega)
          have : c % 128 = c - 128 := by omega
          simp only [hlt, decide_false, cond_false, e8, this, if_pos h128]
        · have hlt : c < 128 := by omega
          have : c % 128 = c := by omega
          simp only [hlt, decide_true, cond_true, this, if_neg h128]
          by_cases h0 : c = 0
          · subst h0
            by_cases hi0 : i > 0
            · have hd1 : decide (((i + 1 : Nat) : Int) > 1) = true := decide_eq_true (by omega)
              simp only [beq_self_eq_true, cond_true, hd1, hi0, and_self, if_true]
            · have hd1 : decide (((i + 1 : Nat) : Int) > 1) = false := decide_eq_false (by omega)
              simp only [beq_self_eq_true, cond_true, hd1, cond_false, hi0, and_false, if_false]
          · have h0' : (c == 0) = false := beq_false_of_ne h0
            simp only [h0', cond_false, h0, false_and, if_false]
      unfold get1
      by_cases h9 : i = 9 ∧ c > 1
      · have h9' : ((i : Int) == 9) = true := by rw [h9.1]; rfl
        have h1' : decide (c > 1) = true := decide_eq_true h9.2
        simp [h9', h1', if_pos h9, fin1]
      · have hside : i = 9 → c ≤ 1 := fun h => by
          by_cases hx : c > 1
          · exact absurd ⟨h, hx⟩ h9
          · omega
        rw [if_neg h9]
        have both : ∀ X Y : Option (Int × Int × Int × Unit), (cond ((i : Int) == 9) (cond (decide (c > 1)) X Y) Y) = Y := fun X Y => by
          cases hx : ((i : Int) == 9) with
          | false => rfl
          | true =>
            have : c ≤ 1 := hside (by have := eq_of_beq hx; omega)
            have hd : decide (c > 1) = false := decide_eq_false (by omega)
            simp only [cond_true, hd, cond_false]
        rw [j11 hside, both]
        by_cases h128 : c ≥ 128
        · have hi8 : i ≤ 8 := by
            rcases Nat.lt_or_ge i 9 with h | h
            · omega
            · have := hside (by omega); omega
          rw [if_pos h128, if_pos h128]
          have hq : (c - 128) * 128 ^ i + n < 128 ^ (i + 1) := by
            rw [Int.pow_succ]
            have : (c - 128) * 128 ^ i ≤ 127 * 128 ^ i := Int.mul_le_mul_of_nonneg_right (by omega) (by omega)
            omega
          exact ih (i + 1) _ (by omega) (by omega) (by omega) (by have : 0 ≤ (c - 128) * 128 ^ i := Int.mul_nonneg (by omega) (by omega); omega) (by omega)
        · rw [if_neg h128, if_neg h128]
          by_cases h0 : c = 0 ∧ i > 0
          · rw [if_pos h0, if_pos h0]; simp [fin1]
          · rw [if_neg h0, if_neg h0]; simp [fin1]
    · have hd : decide (((A + i : Nat) : Int) ≥ b.length) = true := decide_eq_true (by omega)
      rw [List.drop_of_length_le (by omega)]
      simp only [e0, hd, cond_true]
      simp [get1, fin1]
theorem refGet_eq (fu : Nat) (b : List Int) (hb : By b) (hl : b.length ≤ 100000) (hfu : b.length < fu) (at' : Int) : ref03Get fu b at' = some ((got b at').1, (got b at').2.1, (got b at').2.2, ()) := by
  unfold ref03Get got
  by_cases h1 : at' < 0
  · simp [h1]
  · by_cases h2 : at' > b.length
    · simp [h1, h2]
    · obtain ⟨A, rfl⟩ := Int.eq_ofNat_of_zero_le (show 0 ≤ at' by omega)
      have := ref_rounds fu (fun a c d => some (a, c, d, ())) b hb hl A (by omega) fu 0 0 (by omega) (by omega) (by omega) (by omega) (by simp)
      simp only [h1, h2, or_self, if_false, decide_false, cond_false]
      refine this.trans ?_
      simp only [Nat.add_zero, Int.toNat_natCast]
      generalize hq : get1 (b.drop A) 0 0 = q
      unfold fin1 from1
      by_cases h0 : q.2.2 = 0
      · simp [h0]
      · have hz := get1_err (b.drop A) 0 0
        rw [hq] at hz
        by_cases h3 : q.2.2 = 3
        · simp [h3, hz h0]
        · simp [h0, h3, hz h0]
theorem got_v {b : List Int} (hb : By b) (at' : Int) : 0 ≤ (got b at').1 ∧ (got b at').1 < 18446744073709551616 := by
  generalize hq : got b at' = q
  obtain ⟨v, e, er⟩ := q
  by_cases h0 : er = 0
  · subst h0
    obtain ⟨g1, g2, g3, _⟩ := got_ok hb hq
    exact ⟨g2, g3⟩
  · unfold got at hq
    split at hq
    · cases hq; simp
    · have hz := get1_err (b.drop at'.toNat) 0 0
      unfold from1 at hq
      simp only [Prod.mk.injEq] at hq
      obtain ⟨rfl, _, h3⟩ := hq
      have := (hz (by rw [h3]; exact h0)).1
      show 0 ≤ (get1 (b.drop at'.toNat) 0 0).1 ∧ _
      rw [this]; omega
theorem refGetInt_eq (fu : Nat) (b : List Int) (hb : By b) (hl : b.length ≤ 100000) (hfu : b.length < fu) (at' : Int) : ref03GetInt fu b at' = some (zag (got b at').1, (got b at').2.1, (got b at').2.2, ()) := by
  unfold ref03GetInt
  rw [refGet_eq fu b hb hl hfu]
  have hv := got_v hb at'
  generalize (got b at').1 = v at hv
  have e1 : Int.tmod v 2 = v % 2 := Int.tmod_eq_emod_of_nonneg hv.1
  have e2 : Int.tdiv v 2 = v / 2 := Int.tdiv_eq_ediv_of_nonneg hv.1
  have e3 : IntKind.u64.wrap (v / 2) = v / 2 := wrap_u64 (by omega) (by omega)
  have e4 : IntKind.i64.wrap (v / 2) = v / 2 := wrap_i64 (by omega) (by omega)
  have e5 : IntKind.i64.wrap (0 - v / 2) = 0 - v / 2 := wrap_i64 (by omega) (by omega)
  have e6 : IntKind.i64.wrap (0 - v / 2 - 1) = 0 - v / 2 - 1 := wrap_i64 (by omega) (by omega)
  simp only [Option.bind_some, e1, e2, e3, e4, e5, e6]
  unfold zag
  by_cases h : v % 2 = 0
  · simp [h]
  · have h' : (v % 2 == 0) = false := beq_false_of_ne h
    simp only [h', cond_false, if_neg h]
    congr 2
    omega
theorem refGetText_eq (fu : Nat) (b : List Int) (hb : By b) (hl : b.length ≤ 100000) (hfu : b.length < fu) (at' most : Int) (hm : -9223372036854775808 ≤ most ∧ most < 9223372036854775808) : ref03GetText fu b at' most = some ((text1 b at' most).1, (text1 b at' most).2.1, (text1 b at' most).2.2, ()) := by
  unfold ref03GetText text1
  rw [refGet_eq fu b hb hl hfu]
  generalize hq : got b at' = q
  obtain ⟨v, e, er⟩ := q
  simp only [Option.bind_some]
  by_cases h : er = 0
  · subst h
    obtain ⟨g1, g2, g3, j, g4, g5, g6, g7⟩ := got_ok hb hq
    have key : ∀ mm : Int, mm = max most 0 → ref03GetText.j6 fu (fun a c d => some (a, c, d, ())) b mm v e = some ((if v > max most 0 then (([] : List Int), (0 : Int), (4 : Int)) else if v > b.length - e then ([], 0, 3) else (cutL b e (e + v), e + v, 0)).1, (if v > max most 0 then (([] : List Int), (0 : Int), (4 : Int)) else if v > b.length - e then ([], 0, 3) else (cutL b e (e + v), e + v, 0)).2.1, (if v > max most 0 then (([] : List Int), (0 : Int), (4 : Int)) else if v > b.length - e then ([], 0, 3) else (cutL b e (e + v), e + v, 0)).2.2, ()) := fun mm hmm => by
      unfold ref03GetText.j6
      have e1 : IntKind.u64.wrap mm = max most 0 := by rw [hmm]; exact wrap_u64 (by omega) (by omega)
      have e2 : IntKind.u64.wrap (b.length : Int) = b.length := wrap_u64 (by omega) (by omega)
      have e3 : IntKind.i64.wrap ((b.length : Int) - e) = b.length - e := wrap_i64 (by omega) (by omega)
      simp only [e1, e2, e3]
      by_cases h1 : v > max most 0
      · simp [h1]
      · by_cases h2 : v > b.length
        · have h2' : v > b.length - e := by omega
          simp only [h1, h2, h2', decide_false, decide_true, cond_false, cond_true, if_false, if_true]
        · have e4 : IntKind.i64.wrap v = v := wrap_i64 (by omega) (by omega)
          have e5 : IntKind.i64.wrap (e + v) = e + v := wrap_i64 (by omega) (by omega)
          by_cases h3 : v > b.length - e
          · simp only [h1, h2, h3, e4, decide_false, decide_true, cond_false, cond_true, if_false, if_true]
          · simp only [h1, h2, h3, e4, e5, decide_false, cond_false, if_false, cutOk_of (show 0 ≤ e by omega) (show e ≤ e + v by omega) (show e + v ≤ b.length by omega), chk, cond_true]
    simp only [bne_self_eq_false, cond_false, ne_eq, not_true_eq_false, if_false]
    by_cases hlt : most < 0
    · simp only [hlt, decide_true, cond_true]
      exact key 0 (by omega)
    · simp only [hlt, decide_false, cond_false]
      exact key most (by omega)
  · have h' : (er != 0) = true := bne_iff_ne.2 h
    simp [h, h']
theorem refReal_rounds (fu : Nat) (k2 : Int → Int → Option (Nat × Int × Int × Unit)) (b : List Int) (hb : By b) (hl : b.length ≤ 100000) (A : Nat) (hA : A + 8 ≤ b.length) : ∀ (m i : Nat) (n : Int), i ≤ 8 → 8 < i + m → 0 ≤ n → n < 256 ^ i →
    ref03GetReal.l5 fu k2 m b A n i = k2 A (be ((cutL b A (A + 8 : Nat)).drop i) n) := by
  intro m
  have hlen : (cutL b (A : Int) ((A + 8 : Nat) : Int)).length = 8 := by rw [cut_len (by omega) (by omega) (by omega)]; omega
  induction m with
  | zero => intro i n h1 h2; omega
  | succ m ih =>
    intro i n h1 h2 h3 h4
    unfold ref03GetReal.l5 ref03GetReal.b5
    by_cases hi : i < 8
    · have hi' : (i : Int) < 8 := by omega
      have hil : A + i < b.length := by omega
      have hix : ixOk b ((A + i : Nat) : Int) = true := by simp [ixOk]; omega
      have hc := hb _ (List.getElem_mem hil)
      have e0 : IntKind.i64.wrap ((A : Int) + i) = (A + i : Nat) := by rw [wrap_i64 (by omega) (by omega)]; omega
      have e1 : IntKind.i64.wrap ((i : Int) + 1) = (i + 1 : Nat) := wrap_i64 (by omega) (by omega)
      have hp : (256 : Int) ^ i ≤ 72057594037927936 := by
        have h1 : 256 ^ i ≤ 256 ^ 7 := Nat.pow_le_pow_right (by omega) (by omega)
        have e : (256 : Int) ^ i = ((256 ^ i : Nat) : Int) := by rw [Int.natCast_pow]; rfl
        rw [e]
        have : (256 : Nat) ^ 7 = 72057594037927936 := by decide
        omega
      have hget : (cutL b (A : Int) ((A + 8 : Nat) : Int))[i]'(by omega) = b[A + i] := by
        unfold cutL
        rw [List.getElem_take, List.getElem_drop]
        simp only [Int.toNat_natCast]
      rw [List.drop_eq_getElem_cons (by omega), hget]
      simp only [hi', decide_true, cond_true, e0, chk, hix, ixL_get hil, e1]
      generalize b[A + i] = c at hc
      have e2 : IntKind.u64.wrap (n * 256) = n * 256 := wrap_u64 (by omega) (by omega)
      have e3 : IntKind.u64.wrap c = c := wrap_u64 (by omega) (by omega)
      have e4 : IntKind.u64.wrap (n * 256 + c) = n * 256 + c := wrap_u64 (by omega) (by omega)
      rw [e2, e3, e4, ih (i + 1) (n * 256 + c) (by omega) (by omega) (by omega) (by rw [Int.pow_succ]; omega)]
      rfl
    · have : i = 8 := by omega
      subst this
      rw [List.drop_of_length_le (by omega)]
      simp [be]
theorem refGetReal_eq (fu : Nat) (hfu : 10 ≤ fu) (b : List Int) (hb : By b) (hl : b.length ≤ 100000) (at' : Int) : ref03GetReal fu b at' = some ((real1 b at').1, (real1 b at').2.1, (real1 b at').2.2, ()) := by
  unfold ref03GetReal real1
  by_cases h1 : at' < 0
  · simp [h1]
  · have e1 : IntKind.i64.wrap ((b.length : Int) - 8) = b.length - 8 := wrap_i64 (by omega) (by omega)
    by_cases h2 : at' > b.length - 8
    · simp [h1, e1, h2]
    · obtain ⟨A, rfl⟩ := Int.eq_ofNat_of_zero_le (show 0 ≤ at' by omega)
      have e2 : IntKind.i64.wrap ((A : Int) + 8) = A + 8 := wrap_i64 (by omega) (by omega)
      have hlen : (cutL b A (A + 8)).length = 8 := by rw [cut_len (by omega) (by omega) (by omega)]; omega
      have hby : By (cutL b A (A + 8)) := by_cut hb _ _
      have hu := be_u64 hby hlen
      simp only [h1, h2, e1, decide_false, cond_false, or_self, if_false]
      have := refReal_rounds fu (fun atvq2 nq2 =>
          (ref02OfBits fu nq2).bind fun r2 =>
          (ref02PartsBits fu r2.1).bind fun r3 =>
          cond (r3.1 != nq2) (
            some ((0 : Nat), (0 : Int), (2 : Int), ())) (
            (extFrom.f fu (nq2, ())).bind fun r4 =>
            let t5 := IntKind.i64.wrap (atvq2 + (8 : Int))
            some (r4.1, t5, (0 : Int), ()))) b hb hl A (by omega) fu 0 0 (by omega) (by omega) (by omega) (by simp)
      refine this.trans ?_
      rw [List.drop_zero, show ((A + 8 : Nat) : Int) = (A : Int) + 8 from rfl]
      generalize be (cutL b A (A + 8)) 0 = n at hu
      have hpb := partsBits_eq fu n hu.1 hu.2
      obtain ⟨p, hp⟩ : ∃ p, ref02OfBits fu n = some p := ⟨_, rfl⟩
      rw [hp] at hpb ⊢
      have hpb : ref02PartsBits fu p.1 = some (canon n.toNat, ()) := hpb
      simp only [Option.bind_some, hpb, e2]
      by_cases h3 : canon n.toNat = n
      · have h3' : (canon n.toNat != n) = false := by rw [h3]; exact bne_self_eq_false _
        rw [if_pos h3, h3']; rfl
      · have h3' : (canon n.toNat != n) = true := bne_iff_ne.2 h3
        rw [if_neg h3, h3']; rfl


/-! ### Values -/
abbrev Va : Type := Int × Int × Nat × List Int × Unit
def noVa : Va := ((0 : Int), (0 : Int), (0 : Nat), [], ())
def val1 (b : List Int) (at' : Int) : Va × Int × Int :=
  if at' < 0 ∨ at' ≥ b.length then (noVa, 0, 3) else
  if ixL (0 : Int) b at' = 0 then (noVa, at' + 1, 0) else
  if ixL (0 : Int) b at' = 1 then (if (got b (at' + 1)).2.2 = 0 then (((1 : Int), zag (got b (at' + 1)).1, (0 : Nat), [], ()), (got b (at' + 1)).2.1, 0) else (noVa, 0, (got b (at' + 1)).2.2)) else
  if ixL (0 : Int) b at' = 2 then (if (real1 b (at' + 1)).2.2 = 0 then (((2 : Int), (0 : Int), (real1 b (at' + 1)).1, [], ()), (real1 b (at' + 1)).2.1, 0) else (noVa, 0, (real1 b (at' + 1)).2.2)) else
  if ixL (0 : Int) b at' = 3 then (if (text1 b (at' + 1) 255).2.2 = 0 then (((3 : Int), (0 : Int), (0 : Nat), (text1 b (at' + 1) 255).1, ()), (text1 b (at' + 1) 255).2.1, 0) else (noVa, 0, (text1 b (at' + 1) 255).2.2)) else
  (noVa, 0, 11)
theorem ne_bne {x y : Int} (h : ¬ x = y) : (x != y) = true := bne_iff_ne.2 h
theorem ne_beq {x y : Int} (h : ¬ x = y) : (x == y) = false := beq_false_of_ne h
theorem valueGet_eq (fu : Nat) (b : List Int) (hb : By b) (hl : b.length ≤ 100000) (hfu : b.length < fu) (hfu2 : 10 ≤ fu) (at' : Int) : valueGet fu b at' = some ((val1 b at').1, (val1 b at').2.1, (val1 b at').2.2, ()) := by
  unfold valueGet val1
  by_cases h1 : at' < 0
  · rw [if_pos (Or.inl h1), decide_eq_true h1]; rfl
  · by_cases h2 : at' ≥ (b.length : Int)
    · rw [if_pos (Or.inr h2), decide_eq_false h1, decide_eq_true h2]; rfl
    · have e0 : ixOk b at' = true := by unfold ixOk; simp; omega
      have e1 : IntKind.i64.wrap (at' + 1) = at' + 1 := wrap_i64 (by omega) (by omega)
      rw [if_neg (by omega), decide_eq_false h1, decide_eq_false h2]
      simp only [cond_false, e0, e1, chk, cond_true, valueGet.j14]
      generalize ixL (0 : Int) b at' = c
      by_cases c0 : c = 0
      · subst c0; simp [noVa]
      · by_cases c1 : c = 1
        · subst c1
          simp only [ne_beq c0, beq_self_eq_true, cond_true, cond_false, if_neg c0, if_true, getInt_eq fu b hb hl hfu, Option.bind_some]
          by_cases e : (got b (at' + 1)).2.2 = 0
          · simp only [e, bne_self_eq_false, cond_false, if_true]
          · simp only [ne_bne e, cond_true, if_neg e, noVa]
        · by_cases c2 : c = 2
          · subst c2
            simp only [ne_beq c0, ne_beq c1, beq_self_eq_true, cond_true, cond_false, if_neg c0, if_neg c1, if_true, getReal_eq fu hfu2 b hb hl, Option.bind_some]
            by_cases e : (real1 b (at' + 1)).2.2 = 0
            · simp only [e, bne_self_eq_false, cond_false, if_true]
            · simp only [ne_bne e, cond_true, if_neg e, noVa]
          · by_cases c3 : c = 3
            · subst c3
              simp only [ne_beq c0, ne_beq c1, ne_beq c2, beq_self_eq_true, cond_true, cond_false, if_neg c0, if_neg c1, if_neg c2, if_true, getText_eq fu b hb hl hfu (at' + 1) 255 (by omega), Option.bind_some]
              by_cases e : (text1 b (at' + 1) 255).2.2 = 0
              · simp only [e, bne_self_eq_false, cond_false, if_true]
              · simp only [ne_bne e, cond_true, if_neg e, noVa]
            · simp only [ne_beq c0, ne_beq c1, ne_beq c2, ne_beq c3, cond_false, if_neg c0, if_neg c1, if_neg c2, if_neg c3, noVa, ne_bne (show ¬ (11 : Int) = 0 by decide), cond_true]
theorem refVGet_eq (fu : Nat) (b : List Int) (hb : By b) (hl : b.length ≤ 100000) (hfu : b.length < fu) (hfu2 : 10 ≤ fu) (at' : Int) : ref04Get fu b at' = some ((val1 b at').1, (val1 b at').2.1, (val1 b at').2.2, ()) := by
  unfold ref04Get val1
  by_cases h1 : at' < 0
  · rw [if_pos (Or.inl h1), decide_eq_true h1]; rfl
  · by_cases h2 : at' ≥ (b.length : Int)
    · rw [if_pos (Or.inr h2), decide_eq_false h1, decide_eq_true h2]; rfl
    · have e0 : ixOk b at' = true := by unfold ixOk; simp; omega
      have e1 : IntKind.i64.wrap (at' + 1) = at' + 1 := wrap_i64 (by omega) (by omega)
      rw [if_neg (by omega), decide_eq_false h1, decide_eq_false h2]
      simp only [cond_false, e0, e1, chk, cond_true]
      generalize ixL (0 : Int) b at' = c
      by_cases c0 : c = 0
      · subst c0; simp [noVa]
      · by_cases c1 : c = 1
        · subst c1
          simp only [ne_beq c0, beq_self_eq_true, cond_true, cond_false, if_neg c0, if_true, refGetInt_eq fu b hb hl hfu, Option.bind_some]
          by_cases e : (got b (at' + 1)).2.2 = 0
          · simp only [e, bne_self_eq_false, cond_false, if_true]
          · simp only [ne_bne e, cond_true, if_neg e, noVa]
        · by_cases c2 : c = 2
          · subst c2
            simp only [ne_beq c0, ne_beq c1, beq_self_eq_true, cond_true, cond_false, if_neg c0, if_neg c1, if_true, refGetReal_eq fu hfu2 b hb hl, Option.bind_some]
            by_cases e : (real1 b (at' + 1)).2.2 = 0
            · simp only [e, bne_self_eq_false, cond_false, if_true]
            · simp only [ne_bne e, cond_true, if_neg e, noVa]
          · by_cases c3 : c = 3
            · subst c3
              simp only [ne_beq c0, ne_beq c1, ne_beq c2, beq_self_eq_true, cond_true, cond_false, if_neg c0, if_neg c1, if_neg c2, if_true, refGetText_eq fu b hb hl hfu (at' + 1) 255 (by omega), Option.bind_some]
              by_cases e : (text1 b (at' + 1) 255).2.2 = 0
              · simp only [e, bne_self_eq_false, cond_false, if_true]
              · simp only [ne_bne e, cond_true, if_neg e, noVa]
            · simp only [ne_beq c0, ne_beq c1, ne_beq c2, ne_beq c3, cond_false, if_neg c0, if_neg c1, if_neg c2, if_neg c3, noVa]
def F64 (x : Nat) : Prop := x < 18446744073709551616
theorem from_bind {β : Type} (fu x : Nat) (K : (Kd.struct extFrom.rs).T → Option β) : (extFrom.f fu ((x : Int), ())).bind K = K (x, ()) := rfl
theorem extBits_eq (fu : Nat) {x : Nat} (h : F64 x) : extBits.f fu (x, ()) = some ((x : Int), ()) := by
  show (match decide (x < 18446744073709551616) with | true => some ((x : Int), ()) | false => none) = _
  have : decide (x < 18446744073709551616) = true := decide_eq_true (show x < 18446744073709551616 from h)
  rw [this]
theorem bits_bind {β : Type} (fu : Nat) {x : Nat} (h : F64 x) (K : (Kd.struct extBits.rs).T → Option β) : (extBits.f fu (x, ())).bind K = K ((x : Int), ()) := by rw [extBits_eq fu h]; rfl
/-- May a value be? -/
def mayV (v : Va) : Bool := decide (v.1 ≤ 3) && (decide (v.2.1 = 0) || decide (v.1 = 1)) && (decide (v.2.2.1 = 0) || decide (v.1 = 2)) && (decide (v.2.2.2.1 = []) || decide (v.1 = 3)) && decide (v.2.2.2.1.length ≤ 255)
theorem valueMay_eq (fu : Nat) (v : Va) (h : F64 v.2.2.1) : valueMay fu v = some (mayV v, ()) := by
  obtain ⟨k, i, x, s, u⟩ := v
  have h0 : F64 0 := by unfold F64; omega
  have q1 : ∀ y : Nat, (((0 : Nat) : Int) == (y : Int)) = decide (y = 0) := fun y => by
    by_cases hy : y = 0
    · subst hy; rfl
    · rw [decide_eq_false hy]; exact ne_beq (by omega)
  have q2 : ∀ y : Int, ((0 : Int) == y) = decide (y = 0) := fun y => by
    by_cases hy : y = 0
    · subst hy; rfl
    · rw [decide_eq_false hy]; exact ne_beq (by omega)
  have q3 : ∀ y : List Int, (([] : List Int) == y) = decide (y = []) := fun y => by cases y <;> rfl
  have q4 : decide ((s.length : Int) ≤ 255) = decide (s.length ≤ 255) := by
    by_cases hs : s.length ≤ 255
    · rw [decide_eq_true hs, decide_eq_true (by omega)]
    · rw [decide_eq_false hs, decide_eq_false (by omega)]
  have h' : F64 x := h
  unfold valueMay valueHeld mayV
  by_cases k1 : k = 1
  · subst k1
    simp only [beq_self_eq_true, cond_true, Option.bind_some, bits_bind fu h', bits_bind fu h0, q1, q3, q4]
    cases decide (s.length ≤ 255) <;> cases decide (s = []) <;> cases decide (x = 0) <;> simp
  · by_cases k2 : k = 2
    · subst k2
      simp only [ne_beq (show ¬ (2 : Int) = 1 by decide), beq_self_eq_true, cond_true, cond_false, Option.bind_some, bits_bind fu h', q2, q3, q4]
      cases decide (s.length ≤ 255) <;> cases decide (s = []) <;> cases decide (i = 0) <;> simp
    · by_cases k3 : k = 3
      · subst k3
        simp only [ne_beq (show ¬ (3 : Int) = 1 by decide), ne_beq (show ¬ (3 : Int) = 2 by decide), beq_self_eq_true, cond_true, cond_false, Option.bind_some, bits_bind fu h', bits_bind fu h0, q1, q2, q4]
        cases decide (s.length ≤ 255) <;> cases decide (i = 0) <;> cases decide (x = 0) <;> simp
      · simp only [ne_beq k1, ne_beq k2, ne_beq k3, cond_false, Option.bind_some, bits_bind fu h', bits_bind fu h0, q1, q2, q3, q4, k1, k2, k3, decide_false, Bool.or_false]
        cases decide (k ≤ 3) <;> cases decide (s.length ≤ 255) <;> cases decide (i = 0) <;> cases decide (x = 0) <;> cases decide (s = []) <;> simp
/-- Are two the same? -/
def same4 (a b : Va) : Bool := decide (a.1 = b.1) && (if a.1 = 1 then decide (a.2.1 = b.2.1) else if a.1 = 2 then decide (canon a.2.2.1 = canon b.2.2.1) else if a.1 = 3 then decide (a.2.2.2.1 = b.2.2.2.1) else true)
theorem refBits_bind {β : Type} (fu : Nat) {x : Nat} (h : F64 x) (K : Int × Unit → Option β) : ((ref02Of fu x).bind fun r1 => (ref02PartsBits fu r1.1).bind K) = K (canon x, ()) := by
  unfold ref02Of
  rw [bits_bind fu h]
  have h' : x < 18446744073709551616 := h
  have e := partsBits_eq fu (x : Int) (by omega) (by omega)
  rw [Int.toNat_natCast] at e
  show ((((ref02OfBits fu (x : Int)).bind fun r2 => some (r2.1, ())).bind fun r1 => (ref02PartsBits fu r1.1).bind K)) = _
  cases hq : ref02OfBits fu (x : Int) with
  | none => rw [hq] at e; exact absurd e (by simp)
  | some r =>
    rw [hq] at e
    simp only [Option.bind_some] at e ⊢
    rw [e]; rfl
theorem same4_eq (fu : Nat) (a b : Va) (ha : F64 a.2.2.1) (hb : F64 b.2.2.1) : ref04Same fu a b = some (same4 a b, ()) := by
  unfold ref04Same same4
  by_cases h : a.1 = b.1
  · simp only [h, bne_self_eq_false, cond_false, decide_true, Bool.true_and]
    by_cases k1 : b.1 = 1
    · simp only [k1, beq_self_eq_true, cond_true, if_true]
      congr 2
    · by_cases k2 : b.1 = 2
      · simp only [k2, ne_beq (show ¬ (2 : Int) = 1 by decide), beq_self_eq_true, cond_true, cond_false, show ¬ (2 : Int) = 1 by decide, if_false, if_true]
        rw [refBits_bind fu ha, refBits_bind fu hb]
        congr 2
      · by_cases k3 : b.1 = 3
        · simp only [k3, ne_beq (show ¬ (3 : Int) = 1 by decide), ne_beq (show ¬ (3 : Int) = 2 by decide), beq_self_eq_true, cond_true, cond_false, show ¬ (3 : Int) = 1 by decide, show ¬ (3 : Int) = 2 by decide, if_false, if_true]
          congr 2
          cases hq : decide (a.2.2.2.1 = b.2.2.2.1) with
          | true => rw [of_decide_eq_true hq]; exact beq_self_eq_true _
          | false => exact beq_false_of_ne (of_decide_eq_false hq)
        · simp only [ne_beq k1, ne_beq k2, ne_beq k3, cond_false, if_neg k1, if_neg k2, if_neg k3]
  · simp only [ne_bne h, cond_true, decide_eq_false h, Bool.false_and]
theorem same4_refl (a : Va) : same4 a a = true := by
  unfold same4
  simp
/-- A value's writing. -/
def putV (v : Va) : List Int := v.1 :: (if v.1 = 1 then putN 9 (zig v.2.1) else if v.1 = 2 then bytes8 (canon v.2.2.1) else if v.1 = 3 then putN 9 v.2.2.2.1.length ++ v.2.2.2.1 else [])
/-- A value's parts fit. -/
def vaOk (v : Va) : Prop := (0 ≤ v.1 ∧ v.1 ≤ 255) ∧ (-9223372036854775808 ≤ v.2.1 ∧ v.2.1 < 9223372036854775808) ∧ F64 v.2.2.1 ∧ By v.2.2.2.1
theorem mkOk0 {n : Int} (h0 : 0 ≤ n) (h1 : n ≤ 500000) : mkOk (0 : Int) n 1 = true := by
  have hL : (1000000 : Int) ≤ (LIM : Int) := by decide
  unfold mkOk
  simp only [Bool.and_eq_true, decide_eq_true_eq]
  omega
theorem mayV_len {v : Va} (h : mayV v = true) : v.2.2.2.1.length ≤ 255 := by
  unfold mayV at h; simp only [Bool.and_eq_true, decide_eq_true_eq] at h; exact h.2
theorem putReal_eq' (fu : Nat) (hfu : 9 ≤ fu) (b : List Int) (x : Nat) (hl : b.length ≤ 400000) (hx : x < 18446744073709551616) : packPutRealDat fu b x = some (b ++ bytes8 (canon x), ()) := by
  have := putReal_eq (fu - 9) b x hl hx
  rwa [show fu - 9 + 9 = fu by omega] at this
theorem valuePut_eq (fu : Nat) (hfu : 12 ≤ fu) (b : List Int) (v : Va) (hl : b.length ≤ 300000) (hv : vaOk v) : valuePut fu b v = some (if mayV v = true then b ++ putV v else [], if mayV v = true then 0 else 1, ()) := by
  unfold valuePut
  simp only [valueMay_eq fu v hv.2.2.1, Option.bind_some]
  by_cases hm : mayV v = true
  · have e1 : IntKind.i64.wrap ((b.length : Int) + 1) = b.length + 1 := wrap_i64 (by omega) (by omega)
    have e2 : mkOk (0 : Int) ((b.length : Int) + 1) 1 = true := mkOk0 (by omega) (by omega)
    have e3 : apOk ([] : List Int) b 1 = true := apOk1 (by simp; omega)
    have e4 : apOk b [v.1] 1 = true := apOk1 (by simp; omega)
    have hlen := mayV_len hm
    simp only [hm, Bool.not_true, cond_false, e1, e2, chk, cond_true, if_true, Int.toNat_zero, List.replicate_zero, e3, List.nil_append, e4]
    unfold putV
    by_cases k1 : v.1 = 1
    · simp only [k1, beq_self_eq_true, cond_true, putInt_eq fu hfu (b ++ [1]) v.2.1 (by simp; omega) hv.2.1.1 hv.2.1.2, Option.bind_some, if_true, List.append_assoc, List.singleton_append]
    · by_cases k2 : v.1 = 2
      · simp only [k2, ne_beq (show ¬ (2 : Int) = 1 by decide), beq_self_eq_true, cond_true, cond_false, putReal_eq' fu (by omega) (b ++ [2]) v.2.2.1 (by simp; omega) hv.2.2.1, Option.bind_some, show ¬ (2 : Int) = 1 by decide, if_false, if_true, List.append_assoc, List.singleton_append]
      · by_cases k3 : v.1 = 3
        · simp only [k3, ne_beq (show ¬ (3 : Int) = 1 by decide), ne_beq (show ¬ (3 : Int) = 2 by decide), beq_self_eq_true, cond_true, cond_false, putText_eq fu hfu (b ++ [3]) v.2.2.2.1 (by simp; omega) (by omega), Option.bind_some, show ¬ (3 : Int) = 1 by decide, show ¬ (3 : Int) = 2 by decide, if_false, if_true, List.append_assoc, List.nil_append, List.cons_append]
        · simp only [ne_beq k1, ne_beq k2, ne_beq k3, cond_false, if_neg k1, if_neg k2, if_neg k3]
  · have hm' : mayV v = false := by simpa using hm
    simp [hm']
theorem zig_zag {v : Int} (h : 0 ≤ v) : zig (zag v) = v := by
  unfold zag zig
  split <;> split <;> omega
theorem canon_of_cut {b : List Int} {at' : Int} {x : Nat} {e : Int} (h : real1 b at' = (x, e, 0)) : canon x = x := by
  unfold real1 at h
  split at h
  · cases h
  · split at h
    · rename_i hc
      simp only [Prod.mk.injEq, and_true] at h
      obtain ⟨rfl, -⟩ := h
      rw [hc]
      unfold canon at hc
      split at hc <;> omega
    · cases h
theorem text_short {b : List Int} (hb : By b) {at' e : Int} {s : List Int} (hq : text1 b at' 255 = (s, e, 0)) : s.length ≤ 255 ∧ By s := by
  unfold text1 at hq
  split at hq
  · rename_i h0
    simp only [Prod.mk.injEq] at hq
    exact absurd hq.2.2 h0
  · split at hq
    · cases hq
    · split at hq
      · cases hq
      · rename_i _ h1 h2
        simp only [Prod.mk.injEq, and_true] at hq
        obtain ⟨rfl, rfl⟩ := hq
        refine ⟨?_, by_cut hb _ _⟩
        unfold cutL
        rw [List.length_take]
        omega
/-- What is got is put as it stood. -/
theorem val_ok {b : List Int} (hb : By b) (hl : b.length ≤ 100000) {at' e : Int} {v : Va} (h : val1 b at' = (v, e, 0)) : 0 ≤ at' ∧ at' < e ∧ e ≤ b.length ∧ vaOk v ∧ mayV v = true ∧ cutL b at' e = putV v := by
  unfold val1 at h
  split at h
  · cases h
  · rename_i hat
    have h0 : 0 ≤ at' := by omega
    have hx : ixL (0 : Int) b at' = b[at'.toNat]'(by omega) := by
      have := ixL_get (l := b) (i := at'.toNat) (by omega)
      rwa [show ((at'.toNat : Nat) : Int) = at' by omega] at this
    have cut1 : cutL b at' (at' + 1) = [ixL (0 : Int) b at'] := by
      unfold cutL
      rw [hx, show (at' + 1 - at').toNat = 1 by omega, List.drop_eq_getElem_cons (show at'.toNat < b.length by omega)]
      rfl
    generalize hc : ixL (0 : Int) b at' = c at h cut1
    have f0 : F64 0 := by unfold F64; omega
    split at h
    · rename_i c0
      subst c0
      cases h
      exact ⟨h0, by omega, by omega, ⟨by decide, by decide, f0, fun _ hx => nomatch hx⟩, by decide, by rw [cut1]; rfl⟩
    · split at h
      · rename_i c0 c1
        subst c1
        generalize hq : got b (at' + 1) = q at h
        obtain ⟨w, e', er⟩ := q
        simp only at h
        split at h
        · rename_i hz
          subst hz
          simp only [Prod.mk.injEq, and_true] at h
          obtain ⟨rfl, rfl⟩ := h
          obtain ⟨g1, g2, g3, j, g4, g5, g6, g7⟩ := got_ok hb hq
          refine ⟨h0, by omega, by omega, ⟨by simp, ?_, f0, fun _ hx => nomatch hx⟩, by simp [mayV], ?_⟩
          · show -9223372036854775808 ≤ zag _ ∧ zag _ < 9223372036854775808
            unfold zag; split <;> omega
          · rw [← cut_app h0 (show at' ≤ at' + 1 by omega) (by omega) (by omega), cut1, g7]
            show _ = (1 : Int) :: (if (1 : Int) = 1 then putN 9 (zig (zag _)) else _)
            rw [if_pos rfl, zig_zag g2]; rfl
        · rename_i hz
          simp only [Prod.mk.injEq] at h
          exact absurd h.2.2 hz
      · split at h
        · rename_i c0 c1 c2
          subst c2
          generalize hq : real1 b (at' + 1) = q at h
          obtain ⟨w, e', er⟩ := q
          simp only at h
          split at h
          · rename_i hz
            subst hz
            simp only [Prod.mk.injEq, and_true] at h
            obtain ⟨rfl, rfl⟩ := h
            obtain ⟨g1, g2, g3, g4, g5⟩ := real_ok hb hq
            refine ⟨h0, by omega, by omega, ⟨by simp, by simp, g4, fun _ hx => nomatch hx⟩, by simp [mayV], ?_⟩
            rw [← cut_app h0 (show at' ≤ at' + 1 by omega) (by omega) (by omega), cut1, g5]
            rfl
          · rename_i hz
            simp only [Prod.mk.injEq] at h
            exact absurd h.2.2 hz
        · split at h
          · rename_i c0 c1 c2 c3
            subst c3
            generalize hq : text1 b (at' + 1) 255 = q at h
            obtain ⟨s, e', er⟩ := q
            simp only at h
            split at h
            · rename_i hz
              subst hz
              simp only [Prod.mk.injEq, and_true] at h
              obtain ⟨rfl, rfl⟩ := h
              obtain ⟨g1, g2, g3, g4, g5⟩ := text_ok hb hq
              have hs := text_short hb hq
              refine ⟨h0, by omega, by omega, ⟨by simp, by simp, f0, hs.2⟩, ?_, ?_⟩
              · unfold mayV; simp; exact hs.1
              · rw [← cut_app h0 (show at' ≤ at' + 1 by omega) (by omega) (by omega), cut1, g5]
                rfl
            · rename_i hz
              simp only [Prod.mk.injEq] at h
              exact absurd h.2.2 hz
          · simp only [Prod.mk.injEq] at h
            exact absurd h.2.2 (by decide)
theorem refPut_rounds (fu : Nat) (k2 : Int → List Int → Option (((List Int) × Unit) × (Unit))) : ∀ (k m : Nat) (n : Int) (out : List Int), k < m → 0 ≤ n → n < 128 ^ (k + 1) → n < 18446744073709551616 → out.length + k ≤ 500000 →
    ∃ last init, putN k n = init ++ [last] ∧ 0 ≤ last ∧ last < 128 ∧ ref03Put.l3 fu k2 m n out = k2 last (out ++ init) := by
  intro k
  induction k with
  | zero =>
    intro m n out hm h0 h1 _ hl
    obtain ⟨m, rfl⟩ : ∃ j, m = j + 1 := ⟨m - 1, by omega⟩
    have hn : ¬ n ≥ 128 := by have : (128 : Int) ^ (0 + 1) = 128 := by decide
                              omega
    refine ⟨n, [], by simp [putN], h0, by omega, ?_⟩
    unfold ref03Put.l3 ref03Put.b3
    simp [hn]
  | succ k ih =>
    intro m n out hm h0 h1 h64 hl
    obtain ⟨m, rfl⟩ : ∃ j, m = j + 1 := ⟨m - 1, by omega⟩
    unfold ref03Put.l3 ref03Put.b3 putN
    by_cases hn : n ≥ 128
    · have t1 : Int.tmod n 128 = n % 128 := Int.tmod_eq_emod_of_nonneg h0
      have t2 : Int.tdiv n 128 = n / 128 := Int.tdiv_eq_ediv_of_nonneg h0
      have e1 : IntKind.u64.wrap (n / 128) = n / 128 := wrap_u64 (by omega) (by omega)
      have e2 : IntKind.u8.wrap (IntKind.u64.wrap (n % 128 + 128)) = n % 128 + 128 := by rw [wrap_u64 (by omega) (by omega), wrap_u8]; omega
      rw [pow_succ128] at h1
      obtain ⟨last, init, q1, q2, q3, q4⟩ := ih m (n / 128) (out ++ [n % 128 + 128]) (by omega) (by omega) (by omega) (by omega) (by simp; omega)
      refine ⟨last, (n % 128 + 128) :: init, by rw [if_pos hn, q1]; rfl, q2, q3, ?_⟩
      have e3 : apOk out [n % 128 + 128] 1 = true := apOk1 (by simp; omega)
      simp only [hn, decide_true, cond_true, t1, t2, e1, e2, e3, chk]
      rw [q4, List.append_assoc]
      rfl
    · refine ⟨n, [], by rw [if_neg hn]; rfl, h0, by omega, ?_⟩
      simp [hn]
theorem refPut_eq (fu : Nat) (hfu : 12 ≤ fu) (b : List Int) (n : Int) (hl : b.length ≤ 400000) (h0 : 0 ≤ n) (h1 : n < 18446744073709551616) : ref03Put fu b n = some ((b ++ putN 9 n, ()), ()) := by
  have hp : (128 : Int) ^ (9 + 1) = 1180591620717411303424 := by decide
  obtain ⟨last, init, p1, p2, p3, p4⟩ := refPut_rounds fu (fun nq2 outq2 => 
      chk (apOk outq2 ([IntKind.u8.wrap nq2]) 1) <|
      let t3 := outq2 ++ ([IntKind.u8.wrap nq2])
      some ((t3, ()), (()))) 9 fu n b (by omega) h0 (by omega) h1 (by omega)
  have hlen := putN_len 9 n
  rw [p1] at hlen
  simp only [List.length_append, List.length_cons, List.length_nil] at hlen
  have e1 : IntKind.u8.wrap last = last := by rw [wrap_u8]; omega
  have e2 : apOk (b ++ init) [last] 1 = true := apOk1 (by simp; omega)
  have e3 : apOk ([] : List Int) b 1 = true := apOk1 (by simp; omega)
  unfold ref03Put
  simp only [e3, chk, cond_true, List.nil_append]
  refine p4.trans ?_
  simp only [e1, e2, chk, cond_true, p1, List.append_assoc]
theorem refPutD_rounds (fu : Nat) (k2 : Int → List Int → Option ((List Int) × Unit)) : ∀ (k m : Nat) (n : Int) (out : List Int), k < m → 0 ≤ n → n < 128 ^ (k + 1) → n < 18446744073709551616 → out.length + k ≤ 500000 →
    ∃ last init, putN k n = init ++ [last] ∧ 0 ≤ last ∧ last < 128 ∧ ref03PutDat.l3 fu k2 m n out = k2 last (out ++ init) := by
  intro k
  induction k with
  | zero =>
    intro m n out hm h0 h1 _ hl
    obtain ⟨m, rfl⟩ : ∃ j, m = j + 1 := ⟨m - 1, by omega⟩
    have hn : ¬ n ≥ 128 := by have : (128 : Int) ^ (0 + 1) = 128 := by decide
                              omega
    refine ⟨n, [], by simp [putN], h0, by omega, ?_⟩
    unfold ref03PutDat.l3 ref03PutDat.b3
    simp [hn]
  | succ k ih =>
    intro m n out hm h0 h1 h64 hl
    obtain ⟨m, rfl⟩ : ∃ j, m = j + 1 := ⟨m - 1, by omega⟩
    unfold ref03PutDat.l3 ref03PutDat.b3 putN
    by_cases hn : n ≥ 128
    · have t1 : Int.tmod n 128 = n % 128 := Int.tmod_eq_emod_of_nonneg h0
      have t2 : Int.tdiv n 128 = n / 128 := Int.tdiv_eq_ediv_of_nonneg h0
      have e1 : IntKind.u64.wrap (n / 128) = n / 128 := wrap_u64 (by omega) (by omega)
      have e2 : IntKind.u8.wrap (IntKind.u64.wrap (n % 128 + 128)) = n % 128 + 128 := by rw [wrap_u64 (by omega) (by omega), wrap_u8]; omega
      rw [pow_succ128] at h1
      obtain ⟨last, init, q1, q2, q3, q4⟩ := ih m (n / 128) (out ++ [n % 128 + 128]) (by omega) (by omega) (by omega) (by omega) (by simp; omega)
      refine ⟨last, (n % 128 + 128) :: init, by rw [if_pos hn, q1]; rfl, q2, q3, ?_⟩
      have e3 : apOk out [n % 128 + 128] 1 = true := apOk1 (by simp; omega)
      simp only [hn, decide_true, cond_true, t1, t2, e1, e2, e3, chk]
      rw [q4, List.append_assoc]
      rfl
    · refine ⟨n, [], by rw [if_neg hn]; rfl, h0, by omega, ?_⟩
      simp [hn]
theorem refPutD_eq (fu : Nat) (hfu : 12 ≤ fu) (b : List Int) (n : Int) (hl : b.length ≤ 400000) (h0 : 0 ≤ n) (h1 : n < 18446744073709551616) : ref03PutDat fu b n = some (b ++ putN 9 n, ()) := by
  have hp : (128 : Int) ^ (9 + 1) = 1180591620717411303424 := by decide
  obtain ⟨last, init, p1, p2, p3, p4⟩ := refPutD_rounds fu (fun nq2 outq2 => 
      chk (apOk outq2 ([IntKind.u8.wrap nq2]) 1) <|
      let t3 := outq2 ++ ([IntKind.u8.wrap nq2])
      some (t3, ())) 9 fu n b (by omega) h0 (by omega) h1 (by omega)
  have hlen := putN_len 9 n
  rw [p1] at hlen
  simp only [List.length_append, List.length_cons, List.length_nil] at hlen
  have e1 : IntKind.u8.wrap last = last := by rw [wrap_u8]; omega
  have e2 : apOk (b ++ init) [last] 1 = true := apOk1 (by simp; omega)
  have e3 : apOk ([] : List Int) b 1 = true := apOk1 (by simp; omega)
  unfold ref03PutDat
  simp only [e3, chk, cond_true, List.nil_append]
  refine p4.trans ?_
  simp only [e1, e2, chk, cond_true, p1, List.append_assoc]

theorem zig_fits {n : Int} (h0 : -9223372036854775808 ≤ n) (h1 : n < 9223372036854775808) : 0 ≤ zig n ∧ zig n < 18446744073709551616 := by
  unfold zig; split <;> omega
theorem refPutInt_eq (fu : Nat) (hfu : 12 ≤ fu) (b : List Int) (n : Int) (hl : b.length ≤ 400000) (h0 : -9223372036854775808 ≤ n) (h1 : n < 9223372036854775808) : ref03PutInt fu b n = some (b ++ putN 9 (zig n), ()) := by
  unfold ref03PutInt
  by_cases h : n ≥ 0
  · have e1 : IntKind.u64.wrap n = n := wrap_u64 (by omega) (by omega)
    have e2 : IntKind.u64.wrap (2 * n) = zig n := by rw [wrap_u64 (by omega) (by omega)]; unfold zig; rw [if_pos h]
    have hz := zig_fits h0 h1
    simp only [decide_eq_true h, cond_true, e1, e2, refPutD_eq fu hfu b _ hl hz.1 hz.2, Option.bind_some]
  · have e0 : IntKind.i64.wrap (n + 1) = n + 1 := wrap_i64 (by omega) (by omega)
    have e3 : IntKind.i64.wrap (0 - (n + 1)) = -n - 1 := by rw [wrap_i64 (by omega) (by omega)]; omega
    have e1 : IntKind.u64.wrap (-n - 1) = -n - 1 := wrap_u64 (by omega) (by omega)
    have e4 : IntKind.u64.wrap (2 * (-n - 1)) = 2 * (-n - 1) := wrap_u64 (by omega) (by omega)
    have e2 : IntKind.u64.wrap (2 * (-n - 1) + 1) = zig n := by rw [wrap_u64 (by omega) (by omega)]; unfold zig; rw [if_neg h]; omega
    have hz := zig_fits h0 h1
    simp only [decide_eq_false h, cond_false, e0, e3, e1, e4, e2, refPutD_eq fu hfu b _ hl hz.1 hz.2, Option.bind_some]
theorem refPutText_eq (fu : Nat) (hfu : 12 ≤ fu) (b s : List Int) (hl : b.length ≤ 400000) (hs : s.length ≤ 400000) : ref03PutText fu b s = some (b ++ putN 9 s.length ++ s, ()) := by
  unfold ref03PutText
  have e1 : IntKind.u64.wrap (s.length : Int) = s.length := wrap_u64 (by omega) (by omega)
  have := putN_len 9 s.length
  have e2 : apOk (b ++ putN 9 s.length) s 1 = true := apOk1 (by rw [List.length_append]; omega)
  simp only [e1, refPut_eq fu hfu b s.length hl (by omega) (by omega), Option.bind_some, e2, chk, cond_true]
theorem refReal_step (fu : Nat) (k2 : List Int → List Int → Option ((List Int) × Unit)) (m k : Nat) (hk : k < 8) (out : List Int) (n : Int) (h0 : 0 ≤ n) (h1 : n < 18446744073709551616) (c0 : List Int) (hc : c0.length = 8) :
    ref03PutReal.l6 fu k2 (m + 1) out n (k : Int) c0 = ref03PutReal.l6 fu k2 m out (n / 256) ((k : Int) - 1) (c0.set k (n % 256)) := by
  have t1 : Int.tmod n 256 = n % 256 := Int.tmod_eq_emod_of_nonneg h0
  have t2 : Int.tdiv n 256 = n / 256 := Int.tdiv_eq_ediv_of_nonneg h0
  have e1 : IntKind.u8.wrap (n % 256) = n % 256 := by rw [wrap_u8]; omega
  have e2 : IntKind.u64.wrap (n / 256) = n / 256 := wrap_u64 (by omega) (by omega)
  have e3 : IntKind.i64.wrap ((k : Int) - 1) = k - 1 := wrap_i64 (by omega) (by omega)
  have e4 : ixArr 8 (k : Int) = true := by unfold ixArr; simp; omega
  have e5 : nOk c0 8 = true := by unfold nOk; rw [hc]; rfl
  conv => lhs; unfold ref03PutReal.l6 ref03PutReal.b6
  simp only [decide_eq_true (show (k : Int) ≥ 0 by omega), cond_true, t1, t2, e1, e2, e3, e4, e5, chk, stL, Int.toNat_natCast]
theorem refReal_end (fu : Nat) (k2 : List Int → List Int → Option ((List Int) × Unit)) (m : Nat) (out : List Int) (n : Int) (c0 : List Int) : ref03PutReal.l6 fu k2 (m + 1) out n (-1) c0 = k2 out c0 := by
  unfold ref03PutReal.l6 ref03PutReal.b6
  rfl
theorem refReal_rounds8 (fu : Nat) (k2 : List Int → List Int → Option ((List Int) × Unit)) (f : Nat) (out : List Int) (n : Int) (h0 : 0 ≤ n) (h1 : n < 18446744073709551616) :
    ref03PutReal.l6 fu k2 (f + 9) out n 7 (List.replicate 8 0) = k2 out (bytes8 n) := by
  refine (refReal_step _ _ (f + 8) 7 (by omega) out n h0 h1 _ rfl).trans ?_
  refine (refReal_step _ _ (f + 7) 6 (by omega) out _ (by omega) (by omega) _ (by simp)).trans ?_
  refine (refReal_step _ _ (f + 6) 5 (by omega) out _ (by omega) (by omega) _ (by simp)).trans ?_
  refine (refReal_step _ _ (f + 5) 4 (by omega) out _ (by omega) (by omega) _ (by simp)).trans ?_
  refine (refReal_step _ _ (f + 4) 3 (by omega) out _ (by omega) (by omega) _ (by simp)).trans ?_
  refine (refReal_step _ _ (f + 3) 2 (by omega) out _ (by omega) (by omega) _ (by simp)).trans ?_
  refine (refReal_step _ _ (f + 2) 1 (by omega) out _ (by omega) (by omega) _ (by simp)).trans ?_
  refine (refReal_step _ _ (f + 1) 0 (by omega) out _ (by omega) (by omega) _ (by simp)).trans ?_
  refine (refReal_end _ _ f _ _ _).trans ?_
  congr 1
  have d1 : n / 256 / 256 = n / 65536 := by omega
  have d2 : n / 65536 / 256 = n / 16777216 := by omega
  have d3 : n / 16777216 / 256 = n / 4294967296 := by omega
  have d4 : n / 4294967296 / 256 = n / 1099511627776 := by omega
  have d5 : n / 1099511627776 / 256 = n / 281474976710656 := by omega
  have d6 : n / 281474976710656 / 256 = n / 72057594037927936 := by omega
  simp only [d1, d2, d3, d4, d5, d6]
  rfl
theorem refPutReal_eq (fu : Nat) (hfu : 9 ≤ fu) (b : List Int) (x : Nat) (hl : b.length ≤ 400000) (hx : F64 x) : ref03PutReal fu b x = some (b ++ bytes8 (canon x), ()) := by
  obtain ⟨f, rfl⟩ : ∃ f, fu = f + 9 := ⟨fu - 9, by omega⟩
  have hc := canon_fits x hx
  unfold ref03PutReal
  rw [show apOk ([] : List Int) b 1 = true from apOk1 (by simp; omega)]
  simp only [chk, cond_true]
  rw [refBits_bind (f + 9) hx]
  have e1 : mkMut (8 : Int) (8 : Int) 1 = true := by decide
  rw [e1, show (8 : Int).toNat = 8 from rfl]
  simp only [cond_true]
  rw [refReal_rounds8 _ _ f _ _ hc.1 hc.2]
  have e2 : nOk (bytes8 (canon x)) 8 = true := rfl
  have e3 : apOk b (bytes8 (canon x)) 1 = true := apOk1 (by simp [bytes8]; omega)
  simp only [List.nil_append, e2, e3, Bool.and_true, cond_true]
theorem refMay_eq (fu : Nat) (v : Va) (h : F64 v.2.2.1) : ref04May fu v = some (mayV v, ()) := by
  obtain ⟨k, i, x, s, u⟩ := v
  have h' : F64 x := h
  have q1 : ((x : Int) == 0) = decide (x = 0) := by
    by_cases hy : x = 0
    · subst hy; rfl
    · rw [decide_eq_false hy]; exact ne_beq (by omega)
  have q2 : ∀ a b : Int, (a == b) = decide (a = b) := fun _ _ => rfl
  have q3 : (s == ([] : List Int)) = decide (s = []) := by cases s <;> rfl
  have q4 : decide ((s.length : Int) ≤ 255) = decide (s.length ≤ 255) := by
    by_cases hs : s.length ≤ 255
    · rw [decide_eq_true hs, decide_eq_true (by omega)]
    · rw [decide_eq_false hs, decide_eq_false (by omega)]
  have q5 : decide (k < 4) = decide (k ≤ 3) := by
    by_cases hs : k ≤ 3
    · rw [decide_eq_true hs, decide_eq_true (by omega)]
    · rw [decide_eq_false hs, decide_eq_false (by omega)]
  unfold ref04May mayV
  unfold ref04May.j2
  rw [bits_bind fu h', bits_bind fu h']
  simp only [ref04May.j3, ref04May.j4, q1, q2, q3, q4, q5]
  cases decide (k ≤ 3) <;> cases decide (s.length ≤ 255) <;> cases decide (i = 0) <;> cases decide (x = 0) <;> cases decide (s = []) <;> cases decide (k = 1) <;> cases decide (k = 2) <;> cases decide (k = 3) <;> rfl
theorem refVPut_eq (fu : Nat) (hfu : 12 ≤ fu) (b : List Int) (v : Va) (hl : b.length ≤ 300000) (hv : vaOk v) : ref04Put fu b v = some (if mayV v = true then b ++ putV v else [], if mayV v = true then 0 else 1, ()) := by
  unfold ref04Put
  simp only [refMay_eq fu v hv.2.2.1, Option.bind_some]
  by_cases hm : mayV v = true
  · have e3 : apOk ([] : List Int) b 1 = true := apOk1 (by simp; omega)
    have e4 : apOk b [v.1] 1 = true := apOk1 (by simp; omega)
    have hlen := mayV_len hm
    simp only [hm, Bool.not_true, cond_false, chk, cond_true, if_true, e3, List.nil_append, e4]
    unfold putV
    by_cases k1 : v.1 = 1
    · simp only [k1, beq_self_eq_true, cond_true, refPutInt_eq fu hfu (b ++ [1]) v.2.1 (by simp; omega) hv.2.1.1 hv.2.1.2, Option.bind_some, if_true, List.append_assoc, List.singleton_append]
    · by_cases k2 : v.1 = 2
      · simp only [k2, ne_beq (show ¬ (2 : Int) = 1 by decide), beq_self_eq_true, cond_true, cond_false, refPutReal_eq fu (by omega) (b ++ [2]) v.2.2.1 (by simp; omega) hv.2.2.1, Option.bind_some, show ¬ (2 : Int) = 1 by decide, if_false, if_true, List.append_assoc, List.singleton_append]
      · by_cases k3 : v.1 = 3
        · simp only [k3, ne_beq (show ¬ (3 : Int) = 1 by decide), ne_beq (show ¬ (3 : Int) = 2 by decide), beq_self_eq_true, cond_true, cond_false, refPutText_eq fu hfu (b ++ [3]) v.2.2.2.1 (by simp; omega) (by omega), Option.bind_some, show ¬ (3 : Int) = 1 by decide, show ¬ (3 : Int) = 2 by decide, if_false, if_true, List.append_assoc, List.nil_append, List.cons_append]
        · simp only [ne_beq k1, ne_beq k2, ne_beq k3, cond_false, if_neg k1, if_neg k2, if_neg k3]
  · have hm' : mayV v = false := by simpa using hm
    simp [hm']
theorem text_put (a rest s : List Int) (hs : s.length ≤ 255) : text1 (a ++ (putN 9 s.length ++ s) ++ rest) a.length 255 = (s, (a.length : Int) + ((putN 9 s.length).length : Int) + s.length, 0) := by
  have g := got_put a (s ++ rest) s.length (by omega) (by omega)
  rw [show a ++ putN 9 (s.length : Int) ++ (s ++ rest) = a ++ (putN 9 s.length ++ s) ++ rest by simp] at g
  unfold text1
  rw [g]
  simp only
  rw [if_neg (by simp), if_neg (by omega), if_neg (by simp; omega)]
  have := cut_mid (a ++ putN 9 s.length) s rest
  rw [show a ++ putN 9 (s.length : Int) ++ s ++ rest = a ++ (putN 9 s.length ++ s) ++ rest by simp, List.length_append] at this
  rw [show ((a.length : Int) + ((putN 9 (s.length : Int)).length : Int)) = ((a.length + (putN 9 (s.length : Int)).length : Nat) : Int) by omega, this]
theorem real_put (a rest : List Int) (x : Nat) (hx : F64 x) : real1 (a ++ bytes8 (canon x) ++ rest) a.length = ((canon x).toNat, (a.length : Int) + 8, 0) := by
  have hc := canon_fits x hx
  have hm := cut_mid a (bytes8 (canon x)) rest
  rw [show (bytes8 (canon x)).length = 8 from rfl] at hm
  unfold real1
  rw [if_neg (by simp [bytes8]; omega)]
  rw [show ((a.length : Int) + ((8 : Nat) : Int)) = (a.length : Int) + 8 from rfl] at hm
  rw [hm, be_bytes8 _ hc.1 hc.2, if_pos (canon_canon x)]
/-- A value with the one NaN. -/
def cv (v : Va) : Va := (v.1, v.2.1, (canon v.2.2.1).toNat, v.2.2.2.1, ())
theorem cv_same (v : Va) : same4 (cv v) v = true := by
  unfold same4 cv
  have h := canon_canon v.2.2.1
  simp [h]
theorem val_put (a rest : List Int) (v : Va) (hv : vaOk v) (hm : mayV v = true) : val1 (a ++ putV v ++ rest) a.length = (cv v, (a.length : Int) + (putV v).length, 0) := by
  have hm0 := hm
  unfold mayV at hm
  simp only [Bool.and_eq_true, Bool.or_eq_true, decide_eq_true_eq] at hm
  obtain ⟨⟨⟨⟨m1, m2⟩, m3⟩, m4⟩, m5⟩ := hm
  obtain ⟨k, i, x, s, u⟩ := v
  simp only at m1 m2 m3 m4 m5
  have hk := hv.1.1
  have hi := zig_fits hv.2.1.1 hv.2.1.2
  have hx : F64 x := hv.2.2.1
  simp only at hk hi
  have e1 : ∀ t : List Int, ixL (0 : Int) (a ++ (k :: t) ++ rest) a.length = k := fun t => by
    unfold ixL; simp
  have e2 : ∀ t : List Int, a ++ (k :: t) ++ rest = (a ++ [k]) ++ t ++ rest := fun t => by simp
  have e3 : (a.length : Int) + 1 = ((a ++ [k]).length : Int) := by simp
  have e4 : ∀ t : List Int, ¬ ((a.length : Int) < 0 ∨ (a.length : Int) ≥ ((a ++ (k :: t) ++ rest).length : Int)) := fun t => by simp; omega
  have c0 : (canon 0).toNat = 0 := by decide
  unfold val1 cv
  simp only
  by_cases k0 : k = 0
  · subst k0
    have : i = 0 := by omega
    have : x = 0 := by omega
    have hs0 : s = [] := by rcases m4 with h | h; exact h; omega
    subst_vars
    have p : putV (0, 0, 0, [], u) = 0 :: [] := rfl
    rw [p, if_neg (e4 _), e1, if_pos rfl, c0]
    simp [noVa]
  · by_cases k1 : k = 1
    · subst k1
      have : x = 0 := by omega
      have hs0 : s = [] := by rcases m4 with h | h; exact h; omega
      subst_vars
      have p : putV (1, i, 0, [], u) = 1 :: putN 9 (zig i) := rfl
      rw [p, if_neg (e4 _), e1, if_neg k0, if_pos rfl, e2, e3, got_put _ rest _ hi.1 hi.2, if_pos rfl, zag_zig, c0]
      simp; omega
    · by_cases k2 : k = 2
      · subst k2
        have : i = 0 := by omega
        have hs0 : s = [] := by rcases m4 with h | h; exact h; omega
        subst_vars
        have p : putV (2, 0, x, [], u) = 2 :: bytes8 (canon x) := rfl
        rw [p, if_neg (e4 _), e1, if_neg k0, if_neg k1, if_pos rfl, e2, e3, real_put _ rest _ hx, if_pos rfl]
        simp [bytes8]; omega
      · have k3 : k = 3 := by omega
        subst k3
        have : i = 0 := by omega
        have : x = 0 := by omega
        subst_vars
        have p : putV (3, 0, 0, s, u) = 3 :: (putN 9 s.length ++ s) := rfl
        rw [p, if_neg (e4 _), e1, if_neg k0, if_neg k1, if_neg k2, if_pos rfl, e2, e3, text_put _ rest _ m5, if_pos rfl, c0]
        simp; omega
theorem bytes8_len (n : Int) : (bytes8 n).length = 8 := rfl
theorem putV_len {v : Va} (hm : mayV v = true) : (putV v).length ≤ 300 := by
  have := mayV_len hm
  have h1 := putN_len 9 (zig v.2.1)
  have h2 := putN_len 9 (v.2.2.2.1.length)
  unfold putV
  split
  · simp only [List.length_cons]; omega
  · split
    · simp only [List.length_cons, bytes8_len]; omega
    · split
      · simp only [List.length_cons, List.length_append]; omega
      · simp
theorem putV_by {v : Va} (hv : vaOk v) (hm : mayV v = true) : By (putV v) := by
  have hi := zig_fits hv.2.1.1 hv.2.1.2
  have hk := hv.1
  have hs := hv.2.2.2
  have hl := mayV_len hm
  unfold putV
  intro x hx
  rcases List.mem_cons.1 hx with rfl | hx
  · exact hk
  · split at hx
    · exact putN_by9 _ hi.1 hi.2 x hx
    · split at hx
      · exact bytes8_by _ x hx
      · split at hx
        · exact by_app (putN_by9 _ (by omega) (by omega)) hs x hx
        · exact nomatch hx

/-! ### Events -/
abbrev Ev : Type := Int × List Va × Unit
def noEv : Ev := ((0 : Int), [], ())
def valsN (b : List Int) : Nat → Int → List Va × Int × Int
  | 0, at' => ([], at', 0)
  | n + 1, at' => if (val1 b at').2.2 = 0 then (if (valsN b n (val1 b at').2.1).2.2 = 0 then ((val1 b at').1 :: (valsN b n (val1 b at').2.1).1, (valsN b n (val1 b at').2.1).2.1, 0) else ([], 0, (valsN b n (val1 b at').2.1).2.2)) else ([], 0, (val1 b at').2.2)
theorem apOk40 {xs ys : List Va} (h : xs.length + ys.length ≤ 100000) : apOk xs ys 40 = true := by
  have hL : (10000000 : Nat) ≤ LIM := by decide
  unfold apOk
  exact decide_eq_true (by omega)
theorem get_rounds5 (fu : Nat) (k1 : Int → Int → Int → List Va → Option (Ev × Int × Int × Unit)) (k2 : Int → Int → List Va → Int → List Va → Option (Ev × Int × Int × Unit)) (b : List Int) (hb : By b) (hl : b.length ≤ 100000) (hfu : b.length < fu) (hfu2 : 10 ≤ fu) (c0 c1 : Int) (c0x : List Va) : ∀ (k m : Nat) (i : Int) (at' : Int) (acc : List Va), k < m → 0 ≤ i → i + k ≤ 1000 → acc.length + k ≤ 1000 →
    eventGet.l9 fu k1 k2 m b at' (i + k) i c0 c0x c1 acc = if (valsN b k at').2.2 = 0 then k2 (valsN b k at').2.1 c0 c0x c1 (acc ++ (valsN b k at').1) else k1 0 (valsN b k at').2.2 0 [] := by
  intro k
  induction k with
  | zero =>
    intro m i at' acc hm h0 h1 h2
    obtain ⟨m, rfl⟩ : ∃ j, m = j + 1 := ⟨m - 1, by omega⟩
    unfold eventGet.l9 eventGet.b9 valsN
    rw [decide_eq_false (by omega), cond_false, if_pos rfl, List.append_nil]
  | succ k ih =>
    intro m i at' acc hm h0 h1 h2
    obtain ⟨m, rfl⟩ : ∃ j, m = j + 1 := ⟨m - 1, by omega⟩
    have e1 : IntKind.i64.wrap (i + 1) = i + 1 := wrap_i64 (by omega) (by omega)
    have e2 : apOk acc [(val1 b at').1] 40 = true := apOk40 (by simp; omega)
    have e3 : i + ((k + 1 : Nat) : Int) = (i + 1) + (k : Nat) := by omega
    conv => lhs; unfold eventGet.l9 eventGet.b9
    rw [decide_eq_true (by omega), cond_true, valueGet_eq fu b hb hl hfu hfu2]
    simp only [Option.bind_some]
    unfold valsN
    by_cases he : (val1 b at').2.2 = 0
    · simp only [he, bne_self_eq_false, cond_false, e1, e2, chk, cond_true, if_true]
      rw [e3, ih m (i + 1) (val1 b at').2.1 (acc ++ [(val1 b at').1]) (by omega) (by omega) (by omega) (by simp; omega)]
      by_cases hr : (valsN b k (val1 b at').2.1).2.2 = 0
      · simp only [hr, if_true, List.append_assoc, List.singleton_append]
      · simp only [if_neg hr]
    · simp only [ne_bne he, cond_true, if_neg he]
theorem refGet_rounds5 (fu : Nat) (k1 : Int → Int → Int → List Va → Option (Ev × Int × Int × Unit)) (k2 : Int → Int → List Va → Int → List Va → Option (Ev × Int × Int × Unit)) (b : List Int) (hb : By b) (hl : b.length ≤ 100000) (hfu : b.length < fu) (hfu2 : 10 ≤ fu) (c0 c1 c2 : Int) (c0x c1x : List Va) : ∀ (k m : Nat) (i : Int) (at' : Int) (acc : List Va), k < m → 0 ≤ i → i + k ≤ 1000 → acc.length + k ≤ 1000 →
    ref05Get.l10 fu k1 k2 m b at' (i + k) i c0 c0x c1 c1x c2 acc = if (valsN b k at').2.2 = 0 then k2 (valsN b k at').2.1 c0 c0x c2 (acc ++ (valsN b k at').1) else k1 0 (valsN b k at').2.2 c1 c1x := by
  intro k
  induction k with
  | zero =>
    intro m i at' acc hm h0 h1 h2
    obtain ⟨m, rfl⟩ : ∃ j, m = j + 1 := ⟨m - 1, by omega⟩
    unfold ref05Get.l10 ref05Get.b10 valsN
    rw [decide_eq_false (by omega), cond_false, if_pos rfl, List.append_nil]
  | succ k ih =>
    intro m i at' acc hm h0 h1 h2
    obtain ⟨m, rfl⟩ : ∃ j, m = j + 1 := ⟨m - 1, by omega⟩
    have e1 : IntKind.i64.wrap (i + 1) = i + 1 := wrap_i64 (by omega) (by omega)
    have e2 : apOk acc [(val1 b at').1] 40 = true := apOk40 (by simp; omega)
    have e3 : i + ((k + 1 : Nat) : Int) = (i + 1) + (k : Nat) := by omega
    conv => lhs; unfold ref05Get.l10 ref05Get.b10
    rw [decide_eq_true (by omega), cond_true, refVGet_eq fu b hb hl hfu hfu2]
    simp only [Option.bind_some]
    unfold valsN
    by_cases he : (val1 b at').2.2 = 0
    · simp only [he, bne_self_eq_false, cond_false, e1, e2, chk, cond_true, if_true]
      rw [e3, ih m (i + 1) (val1 b at').2.1 (acc ++ [(val1 b at').1]) (by omega) (by omega) (by omega) (by simp; omega)]
      by_cases hr : (valsN b k (val1 b at').2.1).2.2 = 0
      · simp only [hr, if_true, List.append_assoc, List.singleton_append]
      · simp only [if_neg hr]
    · simp only [ne_bne he, cond_true, if_neg he]
def ev1 (b : List Int) (at' : Int) : Ev × Int × Int :=
  if at' < 0 ∨ at' > b.length - 2 then (noEv, 0, 3) else
  if ixL (0 : Int) b (at' + 1) > 8 then (noEv, 0, 12) else
  if (valsN b (ixL (0 : Int) b (at' + 1)).toNat (at' + 2)).2.2 = 0 then ((ixL (0 : Int) b at', (valsN b (ixL (0 : Int) b (at' + 1)).toNat (at' + 2)).1, ()), (valsN b (ixL (0 : Int) b (at' + 1)).toNat (at' + 2)).2.1, 0)
  else (noEv, 0, (valsN b (ixL (0 : Int) b (at' + 1)).toNat (at' + 2)).2.2)
theorem ix_by {b : List Int} (hb : By b) {i : Int} (h0 : 0 ≤ i) (h1 : i < b.length) : 0 ≤ ixL (0 : Int) b i ∧ ixL (0 : Int) b i ≤ 255 := by
  have := ixL_get (l := b) (i := i.toNat) (by omega)
  rw [show ((i.toNat : Nat) : Int) = i by omega] at this
  rw [this]
  exact hb _ (List.getElem_mem _)
theorem eventGet_eq (fu : Nat) (b : List Int) (hb : By b) (hl : b.length ≤ 100000) (hfu : b.length < fu) (hfu2 : 1000 ≤ fu) (at' : Int) (ha : -9223372036854775808 ≤ at' ∧ at' < 9223372036854775808) : eventGet fu b at' = some ((ev1 b at').1, (ev1 b at').2.1, (ev1 b at').2.2, ()) := by
  unfold eventGet ev1
  have e0 : IntKind.i64.wrap ((b.length : Int) - 2) = b.length - 2 := wrap_i64 (by omega) (by omega)
  simp only [e0]
  by_cases h1 : at' < 0
  · rw [if_pos (Or.inl h1), decide_eq_true h1]; rfl
  · by_cases h2 : at' > (b.length : Int) - 2
    · rw [if_pos (Or.inr h2), decide_eq_false h1, decide_eq_true h2]; rfl
    · have i0 : ixOk b at' = true := by unfold ixOk; simp; omega
      have i1 : ixOk b (at' + 1) = true := by unfold ixOk; simp; omega
      have e1 : IntKind.i64.wrap (at' + 1) = at' + 1 := wrap_i64 (by omega) (by omega)
      have e2 : IntKind.i64.wrap (at' + 2) = at' + 2 := wrap_i64 (by omega) (by omega)
      have hx := ix_by hb (i := at' + 1) (by omega) (by omega)
      rw [if_neg (by omega), decide_eq_false h1, decide_eq_false h2]
      simp only [cond_false, i0, i1, e1, e2, chk, cond_true]
      generalize ixL (0 : Int) b (at' + 1) = n at hx
      have e3 : IntKind.i64.wrap n = n := wrap_i64 (by omega) (by omega)
      rw [e3]
      by_cases h3 : n > 8
      · simp only [decide_eq_true h3, cond_true, if_pos h3, noEv]
      · have e4 : n = (0 : Int) + (n.toNat : Int) := by omega
        rw [decide_eq_false h3, if_neg h3, cond_false]
        conv => lhs; rw [e4]
        rw [get_rounds5 fu _ _ b hb hl hfu (by omega) _ _ _ n.toNat fu 0 (at' + 2) [] (by omega) (by omega) (by omega) (by simp; omega)]
        by_cases hr : (valsN b n.toNat (at' + 2)).2.2 = 0
        · simp only [hr, if_true, List.nil_append]
        · simp only [if_neg hr, noEv]
theorem refEGet_eq (fu : Nat) (b : List Int) (hb : By b) (hl : b.length ≤ 100000) (hfu : b.length < fu) (hfu2 : 1000 ≤ fu) (at' : Int) (ha : -9223372036854775808 ≤ at' ∧ at' < 9223372036854775808) : ref05Get fu b at' = some ((ev1 b at').1, (ev1 b at').2.1, (ev1 b at').2.2, ()) := by
  unfold ref05Get ev1
  have e0 : IntKind.i64.wrap ((b.length : Int) - 2) = b.length - 2 := wrap_i64 (by omega) (by omega)
  simp only [e0]
  by_cases h1 : at' < 0
  · rw [if_pos (Or.inl h1), decide_eq_true h1]; rfl
  · by_cases h2 : at' > (b.length : Int) - 2
    · rw [if_pos (Or.inr h2), decide_eq_false h1, decide_eq_true h2]; rfl
    · have i0 : ixOk b at' = true := by unfold ixOk; simp; omega
      have i1 : ixOk b (at' + 1) = true := by unfold ixOk; simp; omega
      have e1 : IntKind.i64.wrap (at' + 1) = at' + 1 := wrap_i64 (by omega) (by omega)
      have e2 : IntKind.i64.wrap (at' + 2) = at' + 2 := wrap_i64 (by omega) (by omega)
      have hx := ix_by hb (i := at' + 1) (by omega) (by omega)
      rw [if_neg (by omega), decide_eq_false h1, decide_eq_false h2]
      simp only [cond_false, i0, i1, e1, e2, chk, cond_true]
      generalize ixL (0 : Int) b (at' + 1) = n at hx
      have e3 : IntKind.i64.wrap n = n := wrap_i64 (by omega) (by omega)
      rw [e3]
      by_cases h3 : n > 8
      · simp only [decide_eq_true h3, cond_true, if_pos h3, noEv]
      · have e4 : n = (0 : Int) + (n.toNat : Int) := by omega
        rw [decide_eq_false h3, if_neg h3, cond_false]
        conv => lhs; rw [e4]
        rw [refGet_rounds5 fu _ _ b hb hl hfu (by omega) _ _ _ _ _ n.toNat fu 0 (at' + 2) [] (by omega) (by omega) (by omega) (by simp; omega)]
        by_cases hr : (valsN b n.toNat (at' + 2)).2.2 = 0
        · simp only [hr, if_true, List.nil_append]
        · simp only [if_neg hr, noEv]
/-- An event's fields' writing. -/
def putVs (l : List Va) : List Int := l.flatMap putV
theorem vals_ok {b : List Int} (hb : By b) (hl : b.length ≤ 100000) : ∀ (n : Nat) (at' e : Int) (l : List Va), 0 ≤ at' → at' ≤ b.length → valsN b n at' = (l, e, 0) → l.length = n ∧ at' ≤ e ∧ e ≤ b.length ∧ (∀ v ∈ l, vaOk v ∧ mayV v = true) ∧ cutL b at' e = putVs l := by
  intro n
  induction n with
  | zero =>
    intro at' e l h0 h1 h
    unfold valsN at h
    cases h
    exact ⟨rfl, by omega, h1, fun _ hx => (nomatch hx), by unfold cutL putVs; simp⟩
  | succ n ih =>
    intro at' e l h0 h1 h
    unfold valsN at h
    generalize hq : val1 b at' = q at h
    obtain ⟨v, e1, er⟩ := q
    simp only at h
    split at h
    · rename_i hz
      subst hz
      obtain ⟨g0, g1, g2, g3, g4, g5⟩ := val_ok hb hl hq
      generalize hr : valsN b n e1 = r at h
      obtain ⟨l2, e2, er2⟩ := r
      simp only at h
      split at h
      · rename_i hz
        subst hz
        simp only [Prod.mk.injEq, and_true] at h
        obtain ⟨rfl, rfl⟩ := h
        obtain ⟨i1, i2, i3, i4, i5⟩ := ih e1 e2 l2 (by omega) g2 hr
        refine ⟨by simp [i1], by omega, i3, fun w hw => ?_, ?_⟩
        · rcases List.mem_cons.1 hw with rfl | hw
          · exact ⟨g3, g4⟩
          · exact i4 w hw
        · rw [← cut_app g0 (show at' ≤ e1 by omega) (by omega) i3, g5, i5]
          simp [putVs]
      · rename_i hz
        simp only [Prod.mk.injEq] at h
        exact absurd h.2.2 hz
    · rename_i hz
      simp only [Prod.mk.injEq] at h
      exact absurd h.2.2 hz
def mayE (e : Ev) : Bool := decide (e.2.1.length ≤ 8) && e.2.1.all mayV
def putE (e : Ev) : List Int := e.1 :: (e.2.1.length : Int) :: putVs e.2.1
def evOk (e : Ev) : Prop := (0 ≤ e.1 ∧ e.1 ≤ 255) ∧ ∀ v ∈ e.2.1, vaOk v
theorem cut_one {b : List Int} {i : Int} (h0 : 0 ≤ i) (h1 : i < b.length) : cutL b i (i + 1) = [ixL (0 : Int) b i] := by
  have hx := ixL_get (l := b) (i := i.toNat) (by omega)
  rw [show ((i.toNat : Nat) : Int) = i by omega] at hx
  unfold cutL
  rw [hx, show (i + 1 - i).toNat = 1 by omega, List.drop_eq_getElem_cons (show i.toNat < b.length by omega)]
  rfl
theorem ev_ok {b : List Int} (hb : By b) (hl : b.length ≤ 100000) {at' e : Int} {x : Ev} (h : ev1 b at' = (x, e, 0)) : 0 ≤ at' ∧ at' + 2 ≤ e ∧ e ≤ b.length ∧ evOk x ∧ mayE x = true ∧ cutL b at' e = putE x := by
  unfold ev1 at h
  split at h
  · cases h
  · rename_i hat
    have hx0 := ix_by hb (i := at') (by omega) (by omega)
    have hx1 := ix_by hb (i := at' + 1) (by omega) (by omega)
    have c0 := cut_one (b := b) (i := at') (by omega) (by omega)
    have c1 := cut_one (b := b) (i := at' + 1) (by omega) (by omega)
    rw [show at' + 1 + 1 = at' + 2 by omega] at c1
    generalize ixL (0 : Int) b at' = t at h hx0 c0
    generalize ixL (0 : Int) b (at' + 1) = n at h hx1 c1
    split at h
    · cases h
    · generalize hr : valsN b n.toNat (at' + 2) = r at h
      obtain ⟨l2, e2, er2⟩ := r
      simp only at h
      split at h
      · rename_i hz
        subst hz
        simp only [Prod.mk.injEq, and_true] at h
        obtain ⟨rfl, rfl⟩ := h
        obtain ⟨i1, i2, i3, i4, i5⟩ := vals_ok hb hl n.toNat (at' + 2) e2 l2 (by omega) (by omega) hr
        refine ⟨by omega, i2, i3, ⟨hx0, fun v hv => (i4 v hv).1⟩, ?_, ?_⟩
        · unfold mayE
          rw [Bool.and_eq_true]
          exact ⟨decide_eq_true (by show l2.length ≤ 8; omega), List.all_eq_true.2 fun v hv => (i4 v hv).2⟩
        · rw [← cut_app (show 0 ≤ at' by omega) (show at' ≤ at' + 1 by omega) (by omega) i3, ← cut_app (show 0 ≤ at' + 1 by omega) (show at' + 1 ≤ at' + 2 by omega) (by omega) i3, c0, c1, i5]
          unfold putE
          rw [show ((l2.length : Nat) : Int) = n by omega]
          rfl
      · rename_i hz
        simp only [Prod.mk.injEq] at h
        exact absurd h.2.2 hz
theorem ixV {l : List Va} {i : Nat} (h : i < l.length) : ixL ((0 : Int), (0 : Int), (0 : Nat), ([] : List Int), ()) l i = l[i] := by
  unfold ixL
  simp [List.getElem?_eq_getElem h]
theorem ixOkN {α : Type} {l : List α} {i : Nat} (h : i < l.length) : ixOk l (i : Int) = true := by unfold ixOk; simp; omega
theorem drop_one {α : Type} {l : List α} {i : Nat} (h : i < l.length) : l.drop i = l[i] :: l.drop (i + 1) := List.drop_eq_getElem_cons h
theorem index_rounds (fu : Nat) (k1 : Int → Option ((Int × Unit) × (Unit))) (k2 : Unit → Option ((Int × Unit) × (Unit))) (l : List Va) (hv : ∀ v ∈ l, vaOk v) (hl : l.length ≤ 1000) : ∀ (k m i : Nat), i + k = l.length → k < m →
    ((l.drop i).all mayV = true → slicesIndexFunc.l2 fu k1 k2 m l l.length i = k2 ()) ∧ ((l.drop i).all mayV = false → ∃ j : Nat, slicesIndexFunc.l2 fu k1 k2 m l l.length i = k1 j) := by
  intro k
  induction k with
  | zero =>
    intro m i h1 h2
    obtain ⟨m, rfl⟩ : ∃ j, m = j + 1 := ⟨m - 1, by omega⟩
    rw [List.drop_eq_nil_of_le (by omega)]
    refine ⟨fun _ => ?_, fun h => absurd h (by decide)⟩
    unfold slicesIndexFunc.l2 slicesIndexFunc.b2
    rw [decide_eq_false (by omega), cond_false]
  | succ k ih =>
    intro m i h1 h2
    obtain ⟨m, rfl⟩ : ∃ j, m = j + 1 := ⟨m - 1, by omega⟩
    have hi : i < l.length := by omega
    have e1 : IntKind.i64.wrap ((i : Int) + 1) = ((i + 1 : Nat) : Int) := wrap_i64 (by omega) (by omega)
    have := ih m (i + 1) (by omega) (by omega)
    rw [drop_one hi]
    unfold slicesIndexFunc.l2 slicesIndexFunc.b2 eventMay1
    rw [decide_eq_true (by omega), cond_true, ixOkN hi, ixV hi]
    simp only [valueMay_eq fu _ (hv _ (List.getElem_mem hi)).2.2.1, chk, cond_true, Option.bind_some, e1, List.all_cons]
    cases hm : mayV l[i] with
    | true => simpa using this
    | false => simp only [Bool.false_and, Bool.not_false, cond_true]; exact ⟨fun h => (nomatch h), fun _ => ⟨i, rfl⟩⟩
theorem mayE_eq (fu : Nat) (hfu : 10 ≤ fu) (e : Ev) (he : evOk e) : eventMay fu e = some (mayE e, ()) := by
  unfold eventMay mayE
  by_cases hl : e.2.1.length ≤ 8
  · have := index_rounds fu (fun vq3 => some ((vq3, ()), (()))) (fun _ => some (((-1 : Int), ()), (()))) e.2.1 he.2 (by omega) e.2.1.length fu 0 (by omega) (by omega)
    rw [List.drop_zero] at this
    unfold slicesContainsFunc slicesIndexFunc
    simp only [decide_eq_true (show (e.2.1.length : Int) ≤ 8 by omega), decide_eq_true hl, cond_true, Bool.true_and]
    cases hm : e.2.1.all mayV with
    | true =>
      rw [show ((0 : Int)) = ((0 : Nat) : Int) from rfl]
      rw [this.1 hm]; rfl
    | false =>
      obtain ⟨j, hj⟩ := this.2 hm
      rw [show ((0 : Int)) = ((0 : Nat) : Int) from rfl]
      rw [hj]
      simp only [Option.bind_some, decide_eq_true (show (j : Int) ≥ ((0 : Nat) : Int) by omega), Bool.not_true]
  · simp only [decide_eq_false (show ¬ (e.2.1.length : Int) ≤ 8 by omega), decide_eq_false hl, cond_false, Bool.false_and]
theorem clone_eq (fu : Nat) (b : List Int) (hl : b.length ≤ 500000) : slicesClone fu b = some ((b, ()), ()) := by
  have e1 : apOk ([] : List Int) b 1 = true := apOk1 (by simp; omega)
  unfold slicesClone
  simp only [e1, chk, cond_true, List.nil_append]
  cases b with
  | nil => unfold nilQ both; simp
  | cons x q => rfl
theorem putVs_cons (v : Va) (l : List Va) : putVs (v :: l) = putV v ++ putVs l := by simp [putVs]
theorem put_rounds5 (fu : Nat) (hfu : 12 ≤ fu) (k2 : List Int → Option ((List Int) × Int × Unit)) (l : List Va) (hv : ∀ v ∈ l, vaOk v ∧ mayV v = true) (hl : l.length ≤ 8) : ∀ (k m i : Nat) (out : List Int), i + k = l.length → k < m → out.length + 300 * k ≤ 200000 →
    eventPut.l5 fu k2 m out l l.length i = k2 (out ++ putVs (l.drop i)) := by
  intro k
  induction k with
  | zero =>
    intro m i out h1 h2 h3
    obtain ⟨m, rfl⟩ : ∃ j, m = j + 1 := ⟨m - 1, by omega⟩
    rw [List.drop_eq_nil_of_le (by omega)]
    unfold eventPut.l5 eventPut.b5
    rw [decide_eq_false (by omega), cond_false]
    simp [putVs]
  | succ k ih =>
    intro m i out h1 h2 h3
    obtain ⟨m, rfl⟩ : ∃ j, m = j + 1 := ⟨m - 1, by omega⟩
    have hi : i < l.length := by omega
    have e1 : IntKind.i64.wrap ((i : Int) + 1) = ((i + 1 : Nat) : Int) := wrap_i64 (by omega) (by omega)
    obtain ⟨q1, q2⟩ := hv _ (List.getElem_mem hi)
    have hp := putV_len q2
    rw [drop_one hi]
    unfold eventPut.l5 eventPut.b5
    rw [decide_eq_true (by omega), cond_true, ixOkN hi, ixV hi]
    simp only [valuePut_eq fu hfu out _ (show out.length ≤ 300000 by omega) q1, chk, cond_true, Option.bind_some, e1, if_pos q2]
    rw [ih m (i + 1) _ (by omega) (by omega) (by rw [List.length_append]; omega), putVs_cons, List.append_assoc]
theorem mayE_len {e : Ev} (h : mayE e = true) : e.2.1.length ≤ 8 := by
  unfold mayE at h; rw [Bool.and_eq_true] at h; exact of_decide_eq_true h.1
theorem mayE_all {e : Ev} (h : mayE e = true) : ∀ v ∈ e.2.1, mayV v = true := by
  unfold mayE at h; rw [Bool.and_eq_true] at h; exact List.all_eq_true.1 h.2
theorem eventPut_eq (fu : Nat) (hfu : 12 ≤ fu) (b : List Int) (e : Ev) (hl : b.length ≤ 100000) (he : evOk e) : eventPut fu b e = some (if mayE e = true then b ++ putE e else [], if mayE e = true then 0 else 1, ()) := by
  unfold eventPut
  rw [mayE_eq fu (by omega) e he]
  simp only [Option.bind_some]
  cases hm : mayE e with
  | false => rfl
  | true =>
    have h8 := mayE_len hm
    have e2 : IntKind.u8.wrap (e.2.1.length : Int) = e.2.1.length := by rw [wrap_u8]; omega
    have e3 : apOk b [e.1, (e.2.1.length : Int)] 1 = true := apOk1 (by simp; omega)
    simp only [Bool.not_true, cond_false, clone_eq fu b (by omega), Option.bind_some, e2, e3, chk, cond_true, if_true]
    have := put_rounds5 fu hfu (fun outq2 => some (outq2, (0 : Int), ())) e.2.1 (fun v hv => ⟨he.2 v hv, mayE_all hm v hv⟩) h8 e.2.1.length fu 0 (b ++ [e.1, (e.2.1.length : Int)]) (by omega) (by omega) (by simp; omega)
    rw [List.drop_zero] at this
    refine this.trans ?_
    unfold putE
    simp
theorem fixed05 (fu : Nat) (hfu : 12 ≤ fu) : law05Fixed fu = some (true, ()) := by
  unfold law05Fixed
  rw [eventPut_eq fu hfu [] ((3 : Int), [], ()) (by simp) ⟨by decide, fun _ h => nomatch h⟩]
  rfl
theorem same_rounds5 (fu : Nat) (k1 : Bool → Option (Bool × Unit)) (k2 : Unit → Option (Bool × Unit)) (a b : Ev) (hl : a.2.1.length = b.2.1.length) (hmax : a.2.1.length ≤ 140737488355328) (ha : ∀ v ∈ a.2.1, F64 v.2.2.1) (hb : ∀ v ∈ b.2.1, F64 v.2.2.1)
    (hs : ∀ (i : Nat) (h : i < a.2.1.length) (h' : i < b.2.1.length), same4 a.2.1[i] b.2.1[i] = true) : ∀ (k m i : Nat), i + k = a.2.1.length → k < m → ref05Same.l4 fu k1 k2 m a.2.1.length i a b = k2 () := by
  intro k
  induction k with
  | zero =>
    intro m i h1 h2
    obtain ⟨m, rfl⟩ : ∃ j, m = j + 1 := ⟨m - 1, by omega⟩
    unfold ref05Same.l4 ref05Same.b4
    rw [decide_eq_false (by omega), cond_false]
  | succ k ih =>
    intro m i h1 h2
    obtain ⟨m, rfl⟩ : ∃ j, m = j + 1 := ⟨m - 1, by omega⟩
    have hi : i < a.2.1.length := by omega
    have hi' : i < b.2.1.length := by omega
    have e1 : IntKind.i64.wrap ((i : Int) + 1) = ((i + 1 : Nat) : Int) := wrap_i64 (by omega) (by omega)
    unfold ref05Same.l4 ref05Same.b4
    rw [decide_eq_true (by omega), cond_true, ixOkN hi, ixOkN hi', ixV hi, ixV hi']
    simp only [same4_eq fu _ _ (ha _ (List.getElem_mem hi)) (hb _ (List.getElem_mem hi')), hs i hi hi', chk, cond_true, Option.bind_some, Bool.not_true, cond_false, e1]
    exact ih m (i + 1) (by omega) (by omega)
theorem same5 (fu : Nat) (a b : Ev) (ht : a.1 = b.1) (hl : a.2.1.length = b.2.1.length) (hfu : a.2.1.length < fu) (hmax : a.2.1.length ≤ 140737488355328) (ha : ∀ v ∈ a.2.1, F64 v.2.2.1) (hb : ∀ v ∈ b.2.1, F64 v.2.2.1)
    (hs : ∀ (i : Nat) (h : i < a.2.1.length) (h' : i < b.2.1.length), same4 a.2.1[i] b.2.1[i] = true) : ref05Same fu a b = some (true, ()) := by
  have e2 : ((a.2.1.length : Int) != (b.2.1.length : Int)) = false := by rw [hl]; exact bne_self_eq_false _
  unfold ref05Same
  rw [ht]
  simp only [bne_self_eq_false, cond_false, e2]
  exact same_rounds5 fu _ _ a b hl hmax ha hb hs a.2.1.length fu 0 (by omega) hfu
theorem same5_refl (fu : Nat) (a : Ev) (hfu : a.2.1.length < fu) (hmax : a.2.1.length ≤ 140737488355328) (ha : ∀ v ∈ a.2.1, F64 v.2.2.1) : ref05Same fu a a = some (true, ()) :=
  same5 fu a a rfl rfl hfu hmax ha ha (fun _ _ _ => same4_refl _)
theorem ev1_noEv {b : List Int} {at' : Int} {x : Ev} {e er : Int} (h : ev1 b at' = (x, e, er)) (her : er ≠ 0) : x = noEv ∧ e = 0 := by
  unfold ev1 at h
  split at h
  · cases h; exact ⟨rfl, rfl⟩
  · split at h
    · cases h; exact ⟨rfl, rfl⟩
    · split at h
      · simp only [Prod.mk.injEq] at h
        exact absurd h.2.2.symm her
      · cases h; exact ⟨rfl, rfl⟩
theorem lawEventGets (b : List Int) (at' : Int) (h : okAll law05EventGets.con.ps (b, at', ())) : law05EventGets 4000 b at' = some (true, ()) := by
  have hb : By b := byOf h.1
  have ha : -9223372036854775808 ≤ at' ∧ at' < 9223372036854775808 := i64Of h.2.1
  unfold law05EventGets
  by_cases hl : (b.length : Int) > 3000
  · simp only [decide_eq_true hl, cond_true, fixed05 4000 (by omega), Option.bind_some]
  · simp only [decide_eq_false hl, cond_false, eventGet_eq 4000 b hb (by omega) (by omega) (by omega) at' ha, refEGet_eq 4000 b hb (by omega) (by omega) (by omega) at' ha, fixed05 4000 (by omega), Option.bind_some, Bool.not_true]
    generalize hq : ev1 b at' = q
    obtain ⟨x, e, er⟩ := q
    simp only [bne_self_eq_false, cond_false]
    by_cases her : er = 0
    · subst her
      obtain ⟨g0, g1, g2, g3, g4, g5⟩ := ev_ok hb (by omega) hq
      have hc : cutOk b at' e = true := cutOk_of g0 (by omega) g2
      have h8 := mayE_len g4
      have b1 : ((0 : Int) == 0) = true := rfl
      rw [same5_refl 4000 x (by omega) (by omega) (fun v hv => (g3.2 v hv).2.2.1)]
      simp only [Option.bind_some, Bool.not_true, bne_self_eq_false, cond_false, eventPut_eq 4000 (by omega) [] x (by simp) g3, g4, if_true, b1, cond_true, decide_eq_true (show at' ≥ 0 from g0), decide_eq_true (show at' ≤ e by omega), decide_eq_true g2, hc, chk, List.nil_append, g5, beq_self_eq_true]
    · obtain ⟨rfl, rfl⟩ := ev1_noEv hq her
      rw [same5_refl 4000 noEv (by decide) (by decide) (fun v hv => nomatch hv)]
      simp only [Option.bind_some, Bool.not_true, cond_false, ne_bne her, cond_true]
abbrev Lg : Type := Int × Int × Int × Ev × Unit
def noLg : Lg := ((0 : Int), (0 : Int), (0 : Int), ((0 : Int), [], ()), ())
def read1 (b : List Int) : Lg × Int :=
  if (got b 0).2.2 = 0 then
    if (got b 0).1 > 4294967295 then (noLg, 5) else
    if (got b (got b 0).2.1).2.2 = 0 then
      if (got b (got b (got b 0).2.1).2.1).2.2 = 0 then
        if (ev1 b (got b (got b (got b 0).2.1).2.1).2.1).2.2 = 0 then
          if (ev1 b (got b (got b (got b 0).2.1).2.1).2.1).2.1 = b.length then (((got b 0).1, (got b (got b 0).2.1).1, (got b (got b (got b 0).2.1).2.1).1, (ev1 b (got b (got b (got b 0).2.1).2.1).2.1).1, ()), 0)
          else (noLg, 2)
        else (noLg, (ev1 b (got b (got b (got b 0).2.1).2.1).2.1).2.2)
      else (noLg, (got b (got b (got b 0).2.1).2.1).2.2)
    else (noLg, (got b (got b 0).2.1).2.2)
  else (noLg, (got b 0).2.2)
theorem got_end {b : List Int} (hb : By b) {at' : Int} (h : (got b at').2.2 = 0) : 0 ≤ (got b at').2.1 ∧ (got b at').2.1 ≤ b.length ∧ cutL b at' (got b at').2.1 = putN 9 (got b at').1 ∧ 0 ≤ at' ∧ at' ≤ (got b at').2.1 := by
  generalize hq : got b at' = q at h
  obtain ⟨v, e, er⟩ := q
  simp only at h
  subst h
  obtain ⟨g1, g2, g3, j, g4, g5, g6, g7⟩ := got_ok hb hq
  exact ⟨by show 0 ≤ e; omega, by show e ≤ _; omega, g7, g1, by show at' ≤ e; omega⟩
theorem wrap_u32 {x : Int} (h0 : 0 ≤ x) (h1 : x ≤ 4294967295) : IntKind.u32.wrap x = x := by
  simp only [IntKind.wrap, IntKind.signed, IntKind.bits]
  simp
  omega
theorem refRead_eq (fu : Nat) (b : List Int) (hb : By b) (hl : b.length ≤ 100000) (hfu : b.length < fu) (hfu2 : 1000 ≤ fu) : ref05Read fu b = some ((read1 b).1, (read1 b).2, ()) := by
  unfold ref05Read read1
  rw [refGet_eq fu b hb hl hfu]
  simp only [Option.bind_some]
  by_cases h1 : (got b 0).2.2 = 0
  · have v1 := got_v hb 0
    have c1 := got_end hb h1
    generalize got b 0 = g1 at h1 v1 c1
    obtain ⟨n1, p1, r1⟩ := g1
    simp only at h1 v1 c1
    subst h1
    simp only [bne_self_eq_false, cond_false, if_true]
    by_cases hn : n1 > 4294967295
    · simp only [decide_eq_true hn, cond_true, if_pos hn, noLg]
    · rw [if_neg hn]
      simp only [decide_eq_false hn, cond_false, refGet_eq fu b hb hl hfu, Option.bind_some, wrap_u32 v1.1 (show n1 ≤ 4294967295 by omega)]
      by_cases h2 : (got b p1).2.2 = 0
      · have c2 := got_end hb h2
        generalize got b p1 = g2 at h2 c2
        obtain ⟨n2, p2, r2⟩ := g2
        simp only at h2 c2
        subst h2
        simp only [bne_self_eq_false, cond_false, if_true]
        by_cases h3 : (got b p2).2.2 = 0
        · have c3 := got_end hb h3
          generalize got b p2 = g3 at h3 c3
          obtain ⟨n3, p3, r3⟩ := g3
          simp only at h3 c3
          subst h3
          simp only [bne_self_eq_false, cond_false, if_true, refEGet_eq fu b hb hl hfu hfu2 p3 (by omega), Option.bind_some]
          by_cases h4 : (ev1 b p3).2.2 = 0
          · simp only [h4, bne_self_eq_false, cond_false, if_true]
            by_cases h5 : (ev1 b p3).2.1 = b.length
            · simp only [h5, bne_self_eq_false, cond_false, if_true]
            · simp only [ne_bne h5, cond_true, if_neg h5, noLg]
          · simp only [ne_bne h4, cond_true, if_neg h4, noLg]
        · simp only [ne_bne h3, cond_true, if_neg h3, noLg]
      · simp only [ne_bne h2, cond_true, if_neg h2, noLg]
  · simp only [ne_bne h1, cond_true, if_neg h1, noLg]
theorem num_step (fu : Nat) (k1 : List Int → Int → Int → Option ((List Int) × Int × Int × Unit)) (k2 : List Int → Int → Option ((List Int) × Int × Int × Unit)) (b : List Int) (hb : By b) (hl : b.length ≤ 100000) (hfu : b.length < fu) (m : Nat) (out : List Int) (ho : out.length ≤ 10) (at' i : Int) (h0 : 0 ≤ i) (h3 : i < 3) :
    eventNumbers.l4 fu k1 k2 (m + 1) b out at' 3 i = if (got b at').2.2 = 0 then (if out.length = 0 ∧ (got b at').1 > 4294967295 then k1 [] 0 5 else eventNumbers.l4 fu k1 k2 m b (out ++ [(got b at').1]) (got b at').2.1 3 (i + 1)) else k1 [] 0 (got b at').2.2 := by
  have e1 : IntKind.i64.wrap (i + 1) = i + 1 := wrap_i64 (by omega) (by omega)
  have e2 : apOk out [(got b at').1] 8 = true := by
    have hL : (10000000 : Nat) ≤ LIM := by decide
    unfold apOk
    exact decide_eq_true (by simp; omega)
  conv => lhs; unfold eventNumbers.l4 eventNumbers.b4
  rw [decide_eq_true h3, cond_true, packGet_eq fu b hb hl hfu]
  simp only [Option.bind_some, eventNumbers.j8, e1, e2, chk, cond_true]
  by_cases h1 : (got b at').2.2 = 0
  · have b1 : ((0 : Int) == 0) = true := rfl
    have b5 : ((5 : Int) != 0) = true := rfl
    simp only [h1, b1, b5, bne_self_eq_false, cond_false, cond_true, if_true]
    by_cases ho0 : out.length = 0
    · simp only [ho0, Int.natCast_zero, b1, cond_true, true_and]
      by_cases hn : (got b at').1 > 4294967295
      · simp only [decide_eq_true hn, cond_true, if_pos hn]
      · simp only [decide_eq_false hn, cond_false, if_neg hn]
    · simp only [ne_beq (show ¬ (out.length : Int) = 0 by omega), cond_false, ho0, false_and, if_false]
  · simp only [ne_beq h1, ne_bne h1, cond_false, cond_true, if_neg h1]
theorem num_end (fu : Nat) (k1 : List Int → Int → Int → Option ((List Int) × Int × Int × Unit)) (k2 : List Int → Int → Option ((List Int) × Int × Int × Unit)) (b : List Int) (m : Nat) (out : List Int) (at' : Int) :
    eventNumbers.l4 fu k1 k2 (m + 1) b out at' 3 3 = k2 out at' := by
  unfold eventNumbers.l4 eventNumbers.b4
  rfl
theorem eventRead_eq (f : Nat) (b : List Int) (hb : By b) (hl : b.length ≤ 100000) (hfu : b.length < f) (hfu2 : 1000 ≤ f) : eventRead (f + 4) b = some ((read1 b).1, (read1 b).2, ()) := by
  unfold eventRead eventNumbers read1
  rw [num_step (f + 4) _ _ b hb hl (by omega) (f + 3) [] (by simp) 0 0 (by omega) (by omega)]
  by_cases h1 : (got b 0).2.2 = 0
  · have v1 := got_v hb 0
    have c1 := got_end hb h1
    generalize got b 0 = g1 at h1 v1 c1
    obtain ⟨n1, p1, r1⟩ := g1
    simp only at h1 v1 c1
    subst h1
    simp only [if_true, List.length_nil, true_and]
    by_cases hn : n1 > 4294967295
    · have b5 : ((5 : Int) != 0) = true := rfl
      simp only [if_pos hn, Option.bind_some, b5, cond_true, noLg]
    · rw [if_neg hn, if_neg hn, num_step (f + 4) _ _ b hb hl (by omega) (f + 2) _ (by simp) p1 (0 + 1) (by omega) (by omega)]
      by_cases h2 : (got b p1).2.2 = 0
      · have c2 := got_end hb h2
        generalize got b p1 = g2 at h2 c2
        obtain ⟨n2, p2, r2⟩ := g2
        simp only at h2 c2
        subst h2
        simp only [if_true]
        rw [if_neg (by simp), num_step (f + 4) _ _ b hb hl (by omega) (f + 1) _ (by simp) p2 (0 + 1 + 1) (by omega) (by omega)]
        by_cases h3 : (got b p2).2.2 = 0
        · have c3 := got_end hb h3
          generalize got b p2 = g3 at h3 c3
          obtain ⟨n3, p3, r3⟩ := g3
          simp only at h3 c3
          subst h3
          simp only [if_true]
          rw [if_neg (by simp), show (0 + 1 + 1 + 1 : Int) = 3 from rfl, num_end]
          simp only [Option.bind_some, bne_self_eq_false, cond_false, eventGet_eq (f + 4) b hb hl (by omega) (by omega) p3 (by omega)]
          by_cases h4 : (ev1 b p3).2.2 = 0
          · have hev := ev_ok hb hl (show ev1 b p3 = ((ev1 b p3).1, (ev1 b p3).2.1, 0) from Prod.ext rfl (Prod.ext rfl h4))
            have hle := hev.2.2.1
            simp only [h4, bne_self_eq_false, cond_false, if_true]
            by_cases h5 : (ev1 b p3).2.1 = b.length
            · have x0 : ixOk ([] ++ [n1] ++ [n2] ++ [n3]) (0 : Int) = true := rfl
              have x1 : ixOk ([] ++ [n1] ++ [n2] ++ [n3]) (1 : Int) = true := rfl
              have x2 : ixOk ([] ++ [n1] ++ [n2] ++ [n3]) (2 : Int) = true := rfl
              have y0 : ixL (0 : Int) ([] ++ [n1] ++ [n2] ++ [n3]) (0 : Int) = n1 := rfl
              have y1 : ixL (0 : Int) ([] ++ [n1] ++ [n2] ++ [n3]) (1 : Int) = n2 := rfl
              have y2 : ixL (0 : Int) ([] ++ [n1] ++ [n2] ++ [n3]) (2 : Int) = n3 := rfl
              rw [x0, x1, x2, y0, y1, y2]
              simp only [decide_eq_false (show ¬ (ev1 b p3).2.1 < b.length by omega), cond_false, chk, cond_true, wrap_u32 v1.1 (show n1 ≤ 4294967295 by omega), if_pos h5]
            · simp only [decide_eq_true (show (ev1 b p3).2.1 < b.length by omega), cond_true, if_neg h5, noLg]
          · simp only [ne_bne h4, cond_true, if_neg h4, noLg]
        · simp only [if_neg h3, Option.bind_some, ne_bne h3, cond_true, noLg]
      · simp only [if_neg h2, Option.bind_some, ne_bne h2, cond_true, noLg]
  · simp only [if_neg h1, Option.bind_some, ne_bne h1, cond_true, noLg]
def lgOk (l : Lg) : Prop := (0 ≤ l.1 ∧ l.1 ≤ 4294967295) ∧ (0 ≤ l.2.1 ∧ l.2.1 < 18446744073709551616) ∧ (0 ≤ l.2.2.1 ∧ l.2.2.1 < 18446744073709551616) ∧ evOk l.2.2.2.1
def putL (l : Lg) : List Int := putN 9 l.1 ++ (putN 9 l.2.1 ++ (putN 9 l.2.2.1 ++ putE l.2.2.2.1))
theorem putNat_eq (fu : Nat) (hfu : 12 ≤ fu) (b : List Int) (n : Int) (hl : b.length ≤ 400000) (h0 : 0 ≤ n) (h1 : n < 18446744073709551616) : packPutDat fu b n = some (b ++ putN 9 n, ()) := (put_eq fu hfu b n hl h0 h1).2
theorem write_eq (fu : Nat) (hfu : 12 ≤ fu) (l : Lg) (h : lgOk l) : eventWrite fu l = some (if mayE l.2.2.2.1 = true then putL l else [], if mayE l.2.2.2.1 = true then 0 else 1, ()) := by
  obtain ⟨⟨h1, h2⟩, ⟨h3, h4⟩, ⟨h5, h6⟩, h7⟩ := h
  have e1 : IntKind.u64.wrap l.1 = l.1 := wrap_u64 (by omega) (by omega)
  have l1 := putN_len 9 l.1
  have l2 := putN_len 9 l.2.1
  have l3 := putN_len 9 l.2.2.1
  unfold eventWrite
  simp only [e1, putNat_eq fu hfu [] l.1 (by simp) h1 (by omega), Option.bind_some, List.nil_append]
  rw [putNat_eq fu hfu _ l.2.1 (by omega) h3 h4]
  simp only [Option.bind_some]
  rw [putNat_eq fu hfu _ l.2.2.1 (by rw [List.length_append]; omega) h5 h6]
  simp only [Option.bind_some]
  rw [eventPut_eq fu hfu _ _ (by rw [List.length_append, List.length_append]; omega) h7]
  simp only [Option.bind_some]
  cases mayE l.2.2.2.1 with
  | true => simp only [if_true, putL, List.append_assoc]
  | false => rfl
theorem sameL (fu : Nat) (a b : Lg) (h1 : a.1 = b.1) (h2 : a.2.1 = b.2.1) (h3 : a.2.2.1 = b.2.2.1) (hs : ref05Same fu a.2.2.2.1 b.2.2.2.1 = some (true, ())) : ref05SameLogged fu a b = some (true, ()) := by
  unfold ref05SameLogged
  rw [hs, h1, h2, h3]
  simp only [beq_self_eq_true, cond_true, Option.bind_some]
theorem read_ok {b : List Int} (hb : By b) (hl : b.length ≤ 100000) {l : Lg} (h : read1 b = (l, 0)) : lgOk l ∧ mayE l.2.2.2.1 = true ∧ putL l = b := by
  unfold read1 at h
  split at h
  · rename_i h1
    have v1 := got_v hb 0
    have c1 := got_end hb h1
    generalize got b 0 = g1 at h h1 v1 c1
    obtain ⟨n1, p1, r1⟩ := g1
    simp only at h h1 v1 c1
    split at h
    · cases h
    · rename_i hn
      split at h
      · rename_i h2
        have v2 := got_v hb p1
        have c2 := got_end hb h2
        generalize got b p1 = g2 at h h2 v2 c2
        obtain ⟨n2, p2, r2⟩ := g2
        simp only at h h2 v2 c2
        split at h
        · rename_i h3
          have v3 := got_v hb p2
          have c3 := got_end hb h3
          generalize got b p2 = g3 at h h3 v3 c3
          obtain ⟨n3, p3, r3⟩ := g3
          simp only at h h3 v3 c3
          split at h
          · rename_i h4
            generalize hx : ev1 b p3 = x at h h4
            obtain ⟨x, e, er⟩ := x
            simp only at h h4
            subst h4
            have hev := ev_ok hb hl hx
            split at h
            · rename_i h5
              cases h
              refine ⟨⟨⟨v1.1, by omega⟩, v2, v3, hev.2.2.2.1⟩, hev.2.2.2.2.1, ?_⟩
              show putN 9 n1 ++ (putN 9 n2 ++ (putN 9 n3 ++ putE x)) = b
              rw [← c1.2.2.1, ← c2.2.2.1, ← c3.2.2.1, ← hev.2.2.2.2.2, cut_app (by omega) (by omega) (by omega) (by omega), cut_app (by omega) (by omega) (by omega) (by omega), cut_app (by omega) (by omega) (by omega) (by omega), h5]
              unfold cutL
              simp
            · cases h
          · rename_i h4
            simp only [Prod.mk.injEq] at h
            exact absurd h.2 h4
        · rename_i h3
          simp only [Prod.mk.injEq] at h
          exact absurd h.2 h3
      · rename_i h2
        simp only [Prod.mk.injEq] at h
        exact absurd h.2 h2
  · rename_i h1
    simp only [Prod.mk.injEq] at h
    exact absurd h.2 h1
theorem read_no {b : List Int} {l : Lg} {er : Int} (h : read1 b = (l, er)) (he : er ≠ 0) : l = noLg := by
  unfold read1 at h
  split at h
  · split at h
    · cases h; rfl
    · split at h
      · split at h
        · split at h
          · split at h
            · simp only [Prod.mk.injEq] at h
              exact absurd h.2.symm he
            · cases h; rfl
          · cases h; rfl
        · cases h; rfl
      · cases h; rfl
  · cases h; rfl
theorem lawEventReads (b : List Int) (h : okAll law05EventReads.con.ps (b, ())) : law05EventReads 4004 b = some (true, ()) := by
  have hb : By b := byOf h.1
  unfold law05EventReads
  by_cases hl : (b.length : Int) > 3000
  · simp only [decide_eq_true hl, cond_true, fixed05 4004 (by omega), Option.bind_some]
  · simp only [decide_eq_false hl, cond_false, eventRead_eq 4000 b hb (by omega) (by omega) (by omega), refRead_eq 4004 b hb (by omega) (by omega) (by omega), fixed05 4004 (by omega), Option.bind_some, Bool.not_true]
    generalize hq : read1 b = q
    obtain ⟨l, er⟩ := q
    simp only [bne_self_eq_false, cond_false]
    by_cases her : er = 0
    · subst her
      obtain ⟨g1, g2, g3⟩ := read_ok hb (by omega) hq
      have h8 := mayE_len g2
      have b1 : ((0 : Int) == 0) = true := rfl
      rw [sameL 4004 l l rfl rfl rfl (same5_refl 4004 _ (by omega) (by omega) (fun v hv => (g1.2.2.2.2 v hv).2.2.1))]
      simp only [Option.bind_some, Bool.not_true, bne_self_eq_false, cond_false, write_eq 4004 (by omega) l g1, g2, if_true, b1, cond_true, g3, beq_self_eq_true]
    · rw [read_no hq her, sameL 4004 noLg noLg rfl rfl rfl (same5_refl 4004 noEv (by decide) (by decide) (fun v hv => nomatch hv))]
      simp only [Option.bind_some, Bool.not_true, cond_false, ne_bne her, cond_true]
abbrev Rw : Type := Int × Int × Int × List Int × Unit
def rawV (x : Rw) : Va := (x.1, x.2.1, x.2.2.1.toNat, x.2.2.2.1, ())
theorem raw_eq (fu : Nat) (x : Rw) : law04RawValue fu x = some (rawV x, ()) := rfl
theorem ixR {l : List Rw} {i : Nat} (h : i < l.length) : ixL ((0 : Int), (0 : Int), (0 : Int), ([] : List Int), ()) l i = l[i] := by
  unfold ixL
  simp [List.getElem?_eq_getElem h]
theorem raw_rounds (fu : Nat) (k2 : Int → List Va → Int → List Va → Option (Ev × Unit)) (l : List Rw) (hl : l.length ≤ 140737488355328) (c1 c2 : Int) (c1x : List Va) : ∀ (k m i : Nat), i + k = l.length → k < m →
    law05RawEvent.l3 fu k2 m l l.length i c1 c1x c2 ((l.take (min i 30)).map rawV) = k2 c1 c1x c2 ((l.take 30).map rawV) := by
  intro k
  induction k with
  | zero =>
    intro m i h1 h2
    obtain ⟨m, rfl⟩ : ∃ j, m = j + 1 := ⟨m - 1, by omega⟩
    unfold law05RawEvent.l3 law05RawEvent.b3
    rw [decide_eq_false (by omega), cond_false]
    congr 2
    by_cases h : i ≤ 30
    · rw [show min i 30 = i by omega, List.take_of_length_le (by omega), List.take_of_length_le (by omega)]
    · rw [show min i 30 = 30 by omega]
  | succ k ih =>
    intro m i h1 h2
    obtain ⟨m, rfl⟩ : ∃ j, m = j + 1 := ⟨m - 1, by omega⟩
    have hi : i < l.length := by omega
    have e1 : IntKind.i64.wrap ((i : Int) + 1) = ((i + 1 : Nat) : Int) := wrap_i64 (by omega) (by omega)
    have := ih m (i + 1) (by omega) (by omega)
    unfold law05RawEvent.l3 law05RawEvent.b3
    rw [decide_eq_true (by omega), cond_true, ixOkN hi, ixR hi]
    simp only [raw_eq, chk, cond_true, Option.bind_some, e1]
    by_cases h30 : (i : Int) < 30
    · have e2 : apOk ((l.take (min i 30)).map rawV) [rawV l[i]] 40 = true := apOk40 (by simp; omega)
      simp only [decide_eq_true h30, cond_true, e2]
      rw [show min (i + 1) 30 = i + 1 by omega, List.take_succ_eq_append_getElem hi, List.map_append] at this
      rw [show min i 30 = i by omega]
      exact this
    · simp only [decide_eq_false h30, cond_false]
      rw [show min (i + 1) 30 = 30 by omega] at this
      rw [show min i 30 = 30 by omega]
      exact this
def rawE (x : Int × List Rw × Unit) : Ev := (x.1, (x.2.1.take 30).map rawV, ())
theorem rawE_eq (fu : Nat) (x : Int × List Rw × Unit) (hl : x.2.1.length ≤ 140737488355328) (hfu : x.2.1.length < fu) : law05RawEvent fu x = some (rawE x, ()) := by
  unfold law05RawEvent
  have := raw_rounds fu (fun c1q2 c1q2x2 c2q2 c2q2x2 => some ((c2q2, c2q2x2, ()), ())) x.2.1 hl 0 x.1 [] x.2.1.length fu 0 (by omega) hfu
  rw [show min 0 30 = 0 from rfl, List.take_zero, List.map_nil] at this
  exact this
theorem great_rounds (fu : Nat) (k2 : Int → Option (Bool × Unit)) (e : Ev) (hl : e.2.1.length ≤ 40) : ∀ (k m i : Nat) (n : Int), i + k = e.2.1.length → k < m → ∃ n', ref05Great.l5 fu k2 m n e.2.1.length i e = k2 n' := by
  intro k
  induction k with
  | zero =>
    intro m i n h1 h2
    obtain ⟨m, rfl⟩ : ∃ j, m = j + 1 := ⟨m - 1, by omega⟩
    unfold ref05Great.l5 ref05Great.b5
    rw [decide_eq_false (by omega), cond_false]
    exact ⟨n, rfl⟩
  | succ k ih =>
    intro m i n h1 h2
    obtain ⟨m, rfl⟩ : ∃ j, m = j + 1 := ⟨m - 1, by omega⟩
    have hi : i < e.2.1.length := by omega
    have e1 : IntKind.i64.wrap ((i : Int) + 1) = ((i + 1 : Nat) : Int) := wrap_i64 (by omega) (by omega)
    unfold ref05Great.l5 ref05Great.b5
    rw [decide_eq_true (by omega), cond_true, ixOkN hi, ixV hi]
    simp only [chk, cond_true, e1]
    exact ih m (i + 1) _ (by omega) (by omega)
theorem great_eq (fu : Nat) (hfu : 50 ≤ fu) (e : Ev) : ∃ g, ref05Great fu e = some (g, ()) := by
  unfold ref05Great
  by_cases h : (e.2.1.length : Int) > 40
  · exact ⟨true, by simp only [decide_eq_true h, cond_true]⟩
  · obtain ⟨n', hn⟩ := great_rounds fu (fun nq2 => some (decide (nq2 > (3000 : Int)), ())) e (by omega) e.2.1.length fu 0 e.2.1.length (by omega) (by omega)
    refine ⟨decide (n' > (3000 : Int)), ?_⟩
    simp only [decide_eq_false h, cond_false]
    exact hn
theorem refMay_rounds (fu : Nat) (k1 : Bool → Option (Bool × Unit)) (k2 : Ev → Option (Bool × Unit)) (e : Ev) (hv : ∀ v ∈ e.2.1, vaOk v) (hl : e.2.1.length ≤ 1000) : ∀ (k m i : Nat), i + k = e.2.1.length → k < m →
    ref05May.l2 fu k1 k2 m e.2.1.length i e = if (e.2.1.drop i).all mayV = true then k2 e else k1 false := by
  intro k
  induction k with
  | zero =>
    intro m i h1 h2
    obtain ⟨m, rfl⟩ : ∃ j, m = j + 1 := ⟨m - 1, by omega⟩
    rw [List.drop_eq_nil_of_le (by omega)]
    unfold ref05May.l2 ref05May.b2
    rw [decide_eq_false (by omega), cond_false]
    rfl
  | succ k ih =>
    intro m i h1 h2
    obtain ⟨m, rfl⟩ : ∃ j, m = j + 1 := ⟨m - 1, by omega⟩
    have hi : i < e.2.1.length := by omega
    have e1 : IntKind.i64.wrap ((i : Int) + 1) = ((i + 1 : Nat) : Int) := wrap_i64 (by omega) (by omega)
    have := ih m (i + 1) (by omega) (by omega)
    rw [drop_one hi]
    unfold ref05May.l2 ref05May.b2
    rw [decide_eq_true (by omega), cond_true, ixOkN hi, ixV hi]
    simp only [refMay_eq fu _ (hv _ (List.getElem_mem hi)).2.2.1, chk, cond_true, Option.bind_some, e1, List.all_cons]
    by_cases hm : mayV e.2.1[i] = true
    · simp only [hm, Bool.not_true, cond_false, Bool.true_and]; exact this
    · have hm' : mayV e.2.1[i] = false := by simpa using hm
      simp [hm']
theorem refMayE_eq (fu : Nat) (hfu : 50 ≤ fu) (e : Ev) (he : evOk e) (hl : e.2.1.length ≤ 30) : ref05May fu e = some (mayE e, ()) := by
  unfold ref05May mayE
  have := refMay_rounds fu (fun vq3 => some (vq3, ())) (fun b0q4 => some (decide ((b0q4.2.1.length : Int) ≤ (8 : Int)), ())) e he.2 (by omega) e.2.1.length fu 0 (by omega) (by omega)
  rw [List.drop_zero] at this
  refine Eq.trans this ?_
  have q : decide ((e.2.1.length : Int) ≤ 8) = decide (e.2.1.length ≤ 8) := by
    by_cases hs : e.2.1.length ≤ 8
    · rw [decide_eq_true hs, decide_eq_true (by omega)]
    · rw [decide_eq_false hs, decide_eq_false (by omega)]
  cases hm : e.2.1.all mayV with
  | true => simp only [if_true, q, Bool.and_true]
  | false => simp
theorem refPut_rounds5 (fu : Nat) (hfu : 12 ≤ fu) (k2 : List Int → Option ((List Int) × Int × Unit)) (e : Ev) (hv : ∀ v ∈ e.2.1, vaOk v ∧ mayV v = true) (hl : e.2.1.length ≤ 8) : ∀ (k m i : Nat) (out : List Int), i + k = e.2.1.length → k < m → out.length + 300 * k ≤ 200000 →
    ref05Put.l7 fu k2 m out e.2.1.length i e = k2 (out ++ putVs (e.2.1.drop i)) := by
  intro k
  induction k with
  | zero =>
    intro m i out h1 h2 h3
    obtain ⟨m, rfl⟩ : ∃ j, m = j + 1 := ⟨m - 1, by omega⟩
    rw [List.drop_eq_nil_of_le (by omega)]
    unfold ref05Put.l7 ref05Put.b7
    rw [decide_eq_false (by omega), cond_false]
    simp [putVs]
  | succ k ih =>
    intro m i out h1 h2 h3
    obtain ⟨m, rfl⟩ : ∃ j, m = j + 1 := ⟨m - 1, by omega⟩
    have hi : i < e.2.1.length := by omega
    have e1 : IntKind.i64.wrap ((i : Int) + 1) = ((i + 1 : Nat) : Int) := wrap_i64 (by omega) (by omega)
    obtain ⟨q1, q2⟩ := hv _ (List.getElem_mem hi)
    have hp := putV_len q2
    rw [drop_one hi]
    unfold ref05Put.l7 ref05Put.b7
    rw [decide_eq_true (by omega), cond_true, ixOkN hi, ixV hi]
    simp only [refVPut_eq fu hfu out _ (show out.length ≤ 300000 by omega) q1, chk, cond_true, Option.bind_some, e1, if_pos q2]
    rw [ih m (i + 1) _ (by omega) (by omega) (by rw [List.length_append]; omega), putVs_cons, List.append_assoc]
theorem refEPut_eq (fu : Nat) (hfu : 50 ≤ fu) (b : List Int) (e : Ev) (hl : b.length ≤ 100000) (he : evOk e) (hn : e.2.1.length ≤ 30) : ref05Put fu b e = some (if mayE e = true then b ++ putE e else [], if mayE e = true then 0 else 1, ()) := by
  unfold ref05Put
  rw [refMayE_eq fu hfu e he hn]
  simp only [Option.bind_some]
  cases hm : mayE e with
  | false => rfl
  | true =>
    have h8 := mayE_len hm
    have e1 : apOk ([] : List Int) b 1 = true := apOk1 (by simp; omega)
    have e2 : IntKind.u8.wrap (e.2.1.length : Int) = e.2.1.length := by rw [wrap_u8]; omega
    have e3 : apOk b [e.1, (e.2.1.length : Int)] 1 = true := apOk1 (by simp; omega)
    simp only [Bool.not_true, cond_false, e1, e2, List.nil_append, e3, chk, cond_true, if_true]
    have := refPut_rounds5 fu (by omega) (fun outq2 => some (outq2, (0 : Int), ())) e (fun v hv => ⟨he.2 v hv, mayE_all hm v hv⟩) h8 e.2.1.length fu 0 (b ++ [e.1, (e.2.1.length : Int)]) (by omega) (by omega) (by simp; omega)
    rw [List.drop_zero] at this
    refine this.trans ?_
    unfold putE
    simp
theorem own_eq5 (fu : Nat) (e : Ev) (hl : e.2.1.length ≤ 30) : eventOwn fu e = some ((e.1, e.2.1, ()), ()) := by
  unfold eventOwn slicesCloneDatF47
  have e1 : apOk ([] : List Va) e.2.1 40 = true := apOk40 (by simp; omega)
  simp only [e1, chk, cond_true, List.nil_append]
  generalize e.2.1 = l
  cases l with
  | nil => unfold nilQ both; simp
  | cons x q => rfl
theorem vals_put (rest : List Int) : ∀ (l : List Va) (a : List Int), (∀ v ∈ l, vaOk v ∧ mayV v = true) → valsN (a ++ putVs l ++ rest) l.length a.length = (l.map cv, (a.length : Int) + (putVs l).length, 0) := by
  intro l
  induction l with
  | nil => intro a h; simp [valsN, putVs]
  | cons v l ih =>
    intro a h
    obtain ⟨q1, q2⟩ := h v (List.mem_cons_self ..)
    have hv := val_put a (putVs l ++ rest) v q1 q2
    have hr := ih (a ++ putV v) (fun w hw => h w (List.mem_cons_of_mem _ hw))
    rw [show a ++ putV v ++ (putVs l ++ rest) = a ++ putVs (v :: l) ++ rest by rw [putVs_cons]; simp] at hv
    rw [show a ++ putV v ++ putVs l ++ rest = a ++ putVs (v :: l) ++ rest by rw [putVs_cons]; simp, show ((a ++ putV v).length : Int) = (a.length : Int) + (putV v).length by simp] at hr
    rw [List.length_cons]
    unfold valsN
    rw [hv, if_pos rfl, hr, if_pos rfl, putVs_cons]
    simp; omega
def cE (e : Ev) : Ev := (e.1, e.2.1.map cv, ())
theorem ev_put (a rest : List Int) (e : Ev) (he : evOk e) (hm : mayE e = true) : ev1 (a ++ putE e ++ rest) a.length = (cE e, (a.length : Int) + (putE e).length, 0) := by
  have h8 := mayE_len hm
  have hv := vals_put rest e.2.1 (a ++ [e.1, (e.2.1.length : Int)]) (fun v hv => ⟨he.2 v hv, mayE_all hm v hv⟩)
  have e0 : a ++ [e.1, (e.2.1.length : Int)] ++ putVs e.2.1 ++ rest = a ++ putE e ++ rest := by unfold putE; simp
  rw [e0] at hv
  have i0 : ixL (0 : Int) (a ++ putE e ++ rest) a.length = e.1 := by unfold putE ixL; simp
  have i1 : ixL (0 : Int) (a ++ putE e ++ rest) ((a.length : Int) + 1) = e.2.1.length := by
    unfold putE ixL
    rw [show ((a.length : Int) + 1).toNat = a.length + 1 by omega]
    simp
  unfold ev1
  rw [if_neg (by unfold putE; simp; omega), i0, i1, if_neg (by omega), Int.toNat_natCast, show (a.length : Int) + 2 = ((a ++ [e.1, (e.2.1.length : Int)]).length : Int) by simp, hv, if_pos rfl]
  unfold putE cE
  simp; omega
theorem cE_same (fu : Nat) (hfu : 50 ≤ fu) (e : Ev) (he : evOk e) (hl : e.2.1.length ≤ 30) : ref05Same fu (cE e) e = some (true, ()) := by
  refine same5 fu (cE e) e rfl (by simp [cE]) (by simp [cE]; omega) (by simp [cE]; omega) ?_ (fun v hv => (he.2 v hv).2.2.1) ?_
  · intro w hw
    obtain ⟨v, hv, rfl⟩ := List.mem_map.1 hw
    have := canon_fits v.2.2.1 (he.2 v hv).2.2.1
    show (canon v.2.2.1).toNat < _
    omega
  · intro i h h'
    have : (cE e).2.1[i] = cv e.2.1[i] := List.getElem_map ..
    rw [this]
    exact cv_same _
theorem putVs_len : ∀ (l : List Va), (∀ v ∈ l, mayV v = true) → (putVs l).length ≤ 300 * l.length := by
  intro l
  induction l with
  | nil => intro _; simp [putVs]
  | cons v l ih =>
    intro h
    have h1 := putV_len (h v (List.mem_cons_self ..))
    have h2 := ih fun w hw => h w (List.mem_cons_of_mem _ hw)
    rw [putVs_cons, List.length_append, List.length_cons]
    omega
theorem putVs_by : ∀ (l : List Va), (∀ v ∈ l, vaOk v ∧ mayV v = true) → By (putVs l) := by
  intro l
  induction l with
  | nil => intro _ x hx; simp [putVs] at hx
  | cons v l ih =>
    intro h
    rw [putVs_cons]
    exact by_app (putV_by (h v (List.mem_cons_self ..)).1 (h v (List.mem_cons_self ..)).2) (ih fun w hw => h w (List.mem_cons_of_mem _ hw))
theorem putE_len {e : Ev} (hm : mayE e = true) : (putE e).length ≤ 2500 := by
  have h8 := mayE_len hm
  have := putVs_len e.2.1 (mayE_all hm)
  unfold putE
  simp only [List.length_cons]; omega
theorem putE_by {e : Ev} (he : evOk e) (hm : mayE e = true) : By (putE e) := by
  have h8 := mayE_len hm
  have := putVs_by e.2.1 (fun v hv => ⟨he.2 v hv, mayE_all hm v hv⟩)
  unfold putE
  intro x hx
  rcases List.mem_cons.1 hx with rfl | hx
  · exact he.1
  · rcases List.mem_cons.1 hx with rfl | hx
    · omega
    · exact this x hx
theorem rawE_ok {x : Int × List Rw × Unit} (h : kS5.ok x) : evOk (rawE x) ∧ (rawE x).2.1.length ≤ 30 ∧ x.2.1.length ≤ 140737488355328 := by
  obtain ⟨h1, h2, -⟩ := h
  have h1 : inR .u8 x.1 := h1
  refine ⟨⟨by simpa [rawE, inR, IntKind.min, IntKind.max, IntKind.signed, IntKind.bits] using h1, ?_⟩, by simp [rawE]; omega, ?_⟩
  · intro v hv
    obtain ⟨w, hw, rfl⟩ := List.mem_map.1 hv
    obtain ⟨k1, k2, k3, k4, -⟩ := h2.2 w (List.mem_of_mem_take hw)
    have k1 : inR .u8 w.1 := k1
    have k2 := i64Of k2
    have k3 : 0 ≤ w.2.2.1 ∧ w.2.2.1 < 18446744073709551616 := u64Of k3
    exact ⟨by simpa [rawV, inR, IntKind.min, IntKind.max, IntKind.signed, IntKind.bits] using k1, k2, by show w.2.2.1.toNat < _; omega, fun c hc => k4.2 c hc⟩
  · have := h2.1
    have hb : x.2.1.length * 1 ≤ x.2.1.length * (Kd.bytes kS4) := Nat.mul_le_mul_left _ (by decide)
    have hr : reachBytes = 140737488351232 + 4096 - 4096 := by decide
    have : x.2.1.length * (Kd.bytes kS4) ≤ reachBytes := this
    omega
theorem lawEventPuts (b : List Int) (x : Int × List Rw × Unit) (h : okAll law05EventPuts.con.ps (b, x, ())) : law05EventPuts (x.2.1.length + 8000) b x = some (true, ()) := by
  have hb : By b := byOf h.1
  obtain ⟨he, hn, hx⟩ := rawE_ok h.2.1
  generalize hf : x.2.1.length + 8000 = fu
  unfold law05EventPuts
  obtain ⟨g, hg⟩ := great_eq fu (by omega) (rawE x)
  rw [rawE_eq fu x hx (by omega)]
  simp only [Option.bind_some, hg, fixed05 fu (by omega)]
  cases g with
  | true => rfl
  | false =>
    by_cases hl : (b.length : Int) > 2000
    · simp only [decide_eq_true hl, cond_true, cond_false]
    · generalize rawE x = e at he hn
      rw [eventPut_eq fu (by omega) b e (by omega) he, refEPut_eq fu (by omega) b e (by omega) he hn, mayE_eq fu (by omega) e he, refMayE_eq fu (by omega) e he hn, own_eq5 fu e hn]
      simp only [decide_eq_false hl, cond_false, Option.bind_some, Bool.not_true, bne_self_eq_false, beq_self_eq_true]
      rw [show (((e.1, e.2.1, ()) : Ev)) = e from rfl, same5_refl fu e (by omega) (by omega) (fun v hv => (he.2 v hv).2.2.1)]
      simp only [Option.bind_some, Bool.not_true, cond_false]
      cases hm : mayE e with
      | false => rfl
      | true =>
        have hp := putE_len hm
        have hpb := putE_by he hm
        have hg := ev_put b [] e he hm
        rw [List.append_nil] at hg
        have e2 : ((b.length : Int) + ((putE e).length : Int) == (((b ++ putE e).length : Nat) : Int)) = true := by simp
        have b1 : ((0 : Int) == 0) = true := rfl
        have b2 : ((0 : Int) != 0) = false := rfl
        simp only [if_true, b2, cond_false]
        rw [eventGet_eq fu (b ++ putE e) (by_app hb hpb) (by simp; omega) (by simp; omega) (by omega) _ (by omega), hg]
        simp only [Option.bind_some, b1, cond_true, e2, cE_same fu (by omega) e he hn]
theorem refWrite_eq (fu : Nat) (hfu : 50 ≤ fu) (l : Lg) (h : lgOk l) (hn : l.2.2.2.1.2.1.length ≤ 30) : ref05Write fu l = some (if mayE l.2.2.2.1 = true then putL l else [], if mayE l.2.2.2.1 = true then 0 else 1, ()) := by
  obtain ⟨⟨h1, h2⟩, ⟨h3, h4⟩, ⟨h5, h6⟩, h7⟩ := h
  have e1 : IntKind.u64.wrap l.1 = l.1 := wrap_u64 (by omega) (by omega)
  have l1 := putN_len 9 l.1
  have l2 := putN_len 9 l.2.1
  have l3 := putN_len 9 l.2.2.1
  unfold ref05Write
  simp only [e1, refPutD_eq fu (by omega) [] l.1 (by simp) h1 (by omega), Option.bind_some, List.nil_append]
  rw [refPutD_eq fu (by omega) _ l.2.1 (by omega) h3 h4]
  simp only [Option.bind_some]
  rw [refPutD_eq fu (by omega) _ l.2.2.1 (by rw [List.length_append]; omega) h5 h6]
  simp only [Option.bind_some]
  rw [refEPut_eq fu hfu _ _ (by rw [List.length_append, List.length_append]; omega) h7 hn]
  simp only [Option.bind_some]
  cases mayE l.2.2.2.1 with
  | true => simp only [if_true, putL, List.append_assoc]
  | false => rfl
theorem read_put (l : Lg) (h : lgOk l) (hm : mayE l.2.2.2.1 = true) : read1 (putL l) = ((l.1, l.2.1, l.2.2.1, cE l.2.2.2.1, ()), 0) := by
  obtain ⟨⟨h1, h2⟩, ⟨h3, h4⟩, ⟨h5, h6⟩, h7⟩ := h
  have g1 := got_put [] (putN 9 l.2.1 ++ (putN 9 l.2.2.1 ++ putE l.2.2.2.1)) l.1 h1 (by omega)
  have g2 := got_put (putN 9 l.1) (putN 9 l.2.2.1 ++ putE l.2.2.2.1) l.2.1 h3 h4
  have g3 := got_put (putN 9 l.1 ++ putN 9 l.2.1) (putE l.2.2.2.1) l.2.2.1 h5 h6
  have g4 := ev_put (putN 9 l.1 ++ putN 9 l.2.1 ++ putN 9 l.2.2.1) [] l.2.2.2.1 h7 hm
  simp only [List.nil_append, List.append_nil, List.append_assoc, List.length_nil, List.length_append, Int.natCast_zero, Int.zero_add, Int.natCast_add] at g1 g2 g3 g4
  unfold read1
  have e : putL l = putN 9 l.1 ++ (putN 9 l.2.1 ++ (putN 9 l.2.2.1 ++ putE l.2.2.2.1)) := rfl
  rw [← e] at g1 g2 g3 g4
  simp only [g1, if_true, g2, g3]
  rw [if_neg (by omega), show ((putN 9 l.1).length : Int) + (putN 9 l.2.1).length + (putN 9 l.2.2.1).length = ((putN 9 l.1).length : Int) + (((putN 9 l.2.1).length : Int) + (putN 9 l.2.2.1).length) by omega]
  simp only [g4, if_true]
  rw [if_pos (by rw [e]; simp; omega)]
theorem lawEventWrites (p s a : Int) (x : Int × List Rw × Unit) (h : okAll law05EventWrites.con.ps (p, s, a, x, ())) : law05EventWrites (x.2.1.length + 8004) p s a x = some (true, ()) := by
  obtain ⟨h1, h2, h3, h4, -⟩ := h
  obtain ⟨he, hn, hx⟩ := rawE_ok h4
  have h1 : inR .u32 p := h1
  have h2 : 0 ≤ s ∧ s < 18446744073709551616 := u64Of h2
  have h3 : 0 ≤ a ∧ a < 18446744073709551616 := u64Of h3
  have h1 : 0 ≤ p ∧ p ≤ 4294967295 := by simpa [inR, IntKind.min, IntKind.max, IntKind.signed, IntKind.bits] using h1
  generalize hf : x.2.1.length + 8000 = fu
  rw [show x.2.1.length + 8004 = fu + 4 by omega]
  unfold law05EventWrites
  obtain ⟨g, hg⟩ := great_eq (fu + 4) (by omega) (rawE x)
  rw [rawE_eq (fu + 4) x hx (by omega)]
  simp only [Option.bind_some, hg, fixed05 (fu + 4) (by omega)]
  cases g with
  | true => rfl
  | false =>
    generalize rawE x = e at he hn
    have hL : lgOk (p, s, a, e, ()) := ⟨h1, h2, h3, he⟩
    rw [write_eq (fu + 4) (by omega) (p, s, a, e, ()) hL, refWrite_eq (fu + 4) (by omega) (p, s, a, e, ()) hL hn]
    simp only [cond_false, Option.bind_some, Bool.not_true, bne_self_eq_false]
    cases hm : mayE e with
    | false => rfl
    | true =>
      have hp := putE_len hm
      have hpb := putE_by he hm
      have l1 := putN_len 9 p
      have l2 := putN_len 9 s
      have l3 := putN_len 9 a
      have b1 : ((0 : Int) == 0) = true := rfl
      have b2 : ((0 : Int) != 0) = false := rfl
      have hb : By (putL (p, s, a, e, ())) := by_app (putN_by9 _ h1.1 (by omega)) (by_app (putN_by9 _ h2.1 h2.2) (by_app (putN_by9 _ h3.1 h3.2) hpb))
      have hlen : (putL (p, s, a, e, ())).length ≤ 2600 := by unfold putL; simp only [List.length_append]; omega
      simp only [if_true, b2, cond_false]
      rw [eventRead_eq fu _ hb (by omega) (by omega) (by omega), read_put _ hL hm]
      simp only [Option.bind_some, b1, cond_true]
      rw [sameL (fu + 4) (p, s, a, cE e, ()) (p, s, a, e, ()) rfl rfl rfl (cE_same (fu + 4) (by omega) e he hn)]
      simp only [Option.bind_some]
end Go.Shal.Pr
