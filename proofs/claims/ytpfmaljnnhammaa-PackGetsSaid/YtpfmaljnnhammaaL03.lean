/- The plain laws of packing: what the printed functions compute is the document's. No condition but that the arguments fit their types. By an AI agent. -/
import Derived.Test.YtpfmaljnnhammaaGen03
set_option linter.unusedVariables false
namespace Go.Shal.Pr
open Go Go.Shal Go.Proofs
theorem wrap_u64 {x : Int} (h0 : 0 ≤ x) (h1 : x < 18446744073709551616) : IntKind.u64.wrap x = x := by
  simp only [IntKind.wrap, IntKind.signed, IntKind.bits]
  simp
  omega
theorem wrap_i64 {x : Int} (h0 : -9223372036854775808 ≤ x) (h1 : x < 9223372036854775808) : IntKind.i64.wrap x = x := by
  simp only [IntKind.wrap, IntKind.signed, IntKind.bits]
  simp
  omega
theorem wrap_u8 (x : Int) : IntKind.u8.wrap x = x % 256 := by
  simp only [IntKind.wrap, IntKind.signed, IntKind.bits]
  simp
theorem min2_eq (x y : Int) : min2 x y = min x y := by unfold min2; split <;> omega
theorem max2_eq (x y : Int) : max2 x y = max x y := by unfold max2; split <;> omega
/-- Bytes. -/
def By (l : List Int) : Prop := ∀ b ∈ l, (0 : Int) ≤ b ∧ b ≤ 255
theorem by_tail {c : Int} {l : List Int} (h : By (c :: l)) : By l := fun b hb => h b (List.mem_cons_of_mem _ hb)
theorem by_cut {l : List Int} (h : By l) (a e : Int) : By (cutL l a e) := fun b hb => h b (List.mem_of_mem_drop (List.mem_of_mem_take hb))

/-- The bits of a sum that meets no carry. -/
theorem or_add (n a : Nat) (k : Nat) (h : n < 2 ^ k) (ht : n + a * 2 ^ k < 18446744073709551616) : bOr .u64 (n : Int) ((a * 2 ^ k : Nat) : Int) = (n + a * 2 ^ k : Nat) := by
  show IntKind.u64.wrap (((BitVec.ofInt 64 (n : Int) ||| BitVec.ofInt 64 ((a * 2 ^ k : Nat) : Int)).toNat : Nat) : Int) = _
  rw [BitVec.ofInt_natCast, BitVec.ofInt_natCast]
  have h1 : n < 2 ^ 64 := by omega
  have h2 : a * 2 ^ k < 2 ^ 64 := by omega
  rw [BitVec.toNat_or, BitVec.toNat_ofNat, BitVec.toNat_ofNat, Nat.mod_eq_of_lt h1, Nat.mod_eq_of_lt h2, Nat.or_comm, Nat.mul_comm a, ← Nat.two_pow_add_eq_or_of_lt h]
  rw [Nat.mul_comm a] at ht
  rw [wrap_u64 (by omega) (by omega)]
  omega
theorem shl_eq (x : Int) (k : Nat) (hk : k < 64) (h0 : 0 ≤ x) (h : x * 2 ^ k < 18446744073709551616) : sShl .u64 x (k : Int) = x * 2 ^ k := by
  unfold sShl
  have e : min (k : Int).toNat IntKind.u64.bits = k := by simp only [IntKind.bits]; omega
  rw [e]
  exact wrap_u64 (Int.mul_nonneg h0 (by exact_mod_cast Nat.zero_le _)) h
theorem shr_eq (x : Int) (k : Nat) (hk : k < 64) : sShr .u64 x (k : Int) = x / 2 ^ k := by
  unfold sShr
  have e : min (k : Int).toNat IntKind.u64.bits = k := by simp only [IntKind.bits]; omega
  rw [e, Int.fdiv_eq_ediv_of_nonneg]
  exact_mod_cast Nat.zero_le _
theorem byte_or (c : Int) (h0 : 0 ≤ c) (h : c ≤ 255) : bOr .u8 c 128 = c % 128 + 128 := by
  have key : ∀ m : Fin 256, bOr .u8 (m.val : Int) 128 = (m.val : Int) % 128 + 128 := by decide +kernel
  have := key ⟨c.toNat, by omega⟩
  simp only at this
  rw [show (c.toNat : Int) = c by omega] at this
  exact this
theorem byte_and (c : Int) (h0 : 0 ≤ c) (h : c ≤ 255) : bAnd .u8 c 127 = c % 128 := by
  have key : ∀ m : Fin 256, bAnd .u8 (m.val : Int) 127 = (m.val : Int) % 128 := by decide +kernel
  have := key ⟨c.toNat, by omega⟩
  simp only at this
  rw [show (c.toNat : Int) = c by omega] at this
  exact this

/-- What stands in front of a row of bytes: the number, how far it goes, the error. -/
def get1 : List Int → Nat → Int → Int × Int × Int
  | [], _, _ => (0, 0, 3)
  | c :: r, i, n => if i = 9 ∧ c > 1 then (0, 0, 4) else if c ≥ 128 then get1 r (i + 1) (n + (c - 128) * 128 ^ i) else if c = 0 ∧ i > 0 then (0, 0, 2) else (n + c * 128 ^ i, (i : Int) + 1, 0)
/-- An answer from a place on. -/
def from1 (at' : Int) (q : Int × Int × Int) : Int × Int × Int := (q.1, if q.2.2 = 0 then at' + q.2.1 else 0, q.2.2)
def got (b : List Int) (at' : Int) : Int × Int × Int := if at' < 0 ∨ at' > b.length then (0, 0, 3) else from1 at' (get1 (b.drop at'.toNat) 0 0)
theorem pow128 (i : Nat) : (128 : Int) ^ i = ((2 ^ (7 * i) : Nat) : Int) := by
  rw [Nat.pow_mul]; norm_cast
theorem pow128_9 {i : Nat} (h : i ≤ 9) : (1 : Int) ≤ 128 ^ i ∧ (128 : Int) ^ i ≤ 9223372036854775808 := by
  have h1 : 128 ^ i ≤ 128 ^ 9 := Nat.pow_le_pow_right (by omega) h
  have h0 : 0 < 128 ^ i := Nat.pow_pos (by omega)
  have e : (128 : Int) ^ i = ((128 ^ i : Nat) : Int) := by norm_cast
  rw [e]
  have : (128 : Nat) ^ 9 = 9223372036854775808 := by decide
  omega
theorem ixL_get {l : List Int} {i : Nat} (h : i < l.length) : ixL (0 : Int) l i = l[i] := by
  unfold ixL
  simp [List.getElem?_eq_getElem h]

def fin1 (k1 : Int → Int → Int → Option (Int × Int × Int × Unit)) (k2 : Unit → Option (Int × Int × Int × Unit)) (at' : Int) (q : Int × Int × Int) : Option (Int × Int × Int × Unit) :=
  if q.2.2 = 0 then k1 q.1 (at' + q.2.1) 0 else if q.2.2 = 3 then k2 () else k1 0 0 q.2.2
theorem get_rounds (fu : Nat) k1 k2 (at' : Int) (b : List Int) (hb : By b) (ha : 0 ≤ at' ∧ at' ≤ 100000) (hl : b.length ≤ 100000) : ∀ (m i : Nat) (n : Int), i ≤ b.length → b.length < i + m → 0 ≤ n → n < 128 ^ i →
    i ≤ 9 → packGet.l5 fu k1 k2 m at' n b b.length i = fin1 k1 k2 at' (get1 (b.drop i) i n) := by
  intro m
  induction m with
  | zero => intro i n h1 h2; omega
  | succ m ih =>
    intro i n h1 h2 hn0 hn hi9
    unfold packGet.l5 packGet.b5
    by_cases hil : i < b.length
    · have hil' : (i : Int) < b.length := by omega
      have hix : ixOk b i = true := by simp [ixOk, hil]
      have e1 : IntKind.i64.wrap ((i : Int) + 1) = (i + 1 : Nat) := wrap_i64 (by omega) (by omega)
      rw [List.drop_eq_getElem_cons hil]
      have hc := hb _ (List.getElem_mem hil)
      simp only [hil', decide_true, cond_true, chk, hix, ixL_get hil]
      generalize b[i] = c at hc
      have hp := pow128_9 hi9
      have hle : ∀ q : Int, 0 ≤ q → q ≤ 127 → (i = 9 → q ≤ 1) → q * 128 ^ i + n < 18446744073709551616 := fun q h0 h1 h9 => by
        rcases Nat.lt_or_ge i 9 with h | h
        · have h8 : (128 : Int) ^ i ≤ 72057594037927936 := by
            have h1 : 128 ^ i ≤ 128 ^ 8 := Nat.pow_le_pow_right (by omega) (by omega)
            have e : (128 : Int) ^ i = ((128 ^ i : Nat) : Int) := by norm_cast
            rw [e]
            have : (128 : Nat) ^ 8 = 72057594037927936 := by decide
            omega
          have : q * 128 ^ i ≤ 127 * 72057594037927936 := Int.mul_le_mul h1 h8 (by omega) (by omega)
          omega
        · have : i = 9 := by omega
          subst this
          have := h9 rfl
          have : q * 128 ^ 9 ≤ 1 * 9223372036854775808 := Int.mul_le_mul this (by decide) (by decide) (by omega)
          omega
      have j9 : ∀ (c : Int), 0 ≤ c → c ≤ 255 → (i = 9 → c ≤ 1) → ∀ K0 K1, packGet.j9 fu K0 K1 at' n i c b b.length i = (if c ≥ 128 then K0 at' (n + (c - 128) * 128 ^ i) b b.length i else if c = 0 ∧ i > 0 then K1 0 0 2 else K1 (n + c * 128 ^ i) (at' + ((i : Int) + 1)) 0) := by
        intro c hc0 hc1 h9 K0 K1
        unfold packGet.j9 packGet.j50013
        have e2 : IntKind.u64.wrap (bAnd .u8 c 127) = c % 128 := by rw [byte_and c hc0 hc1]; exact wrap_u64 (by omega) (by omega)
        have e3 : IntKind.i64.wrap ((7 : Int) * i) = (7 * i : Nat) := by rw [wrap_i64 (by omega) (by omega)]; omega
        have hq := hle (c % 128) (by omega) (by omega) (fun h => by have := h9 h; omega)
        have hnn : 0 ≤ (c % 128) * 128 ^ i := Int.mul_nonneg (by omega) (by omega)
        have e4 : sShl .u64 (c % 128) ((7 * i : Nat) : Int) = (c % 128) * 128 ^ i := by
          have hpp : (2 : Int) ^ (7 * i) = 128 ^ i := by rw [pow128]; norm_cast
          rw [shl_eq _ (7 * i) (by omega) (by omega) (by rw [hpp]; omega), hpp]
        have e5 : bOr .u64 n ((c % 128) * 128 ^ i) = n + (c % 128) * 128 ^ i := by
          obtain ⟨N, rfl⟩ := Int.eq_ofNat_of_zero_le hn0
          obtain ⟨a, ha⟩ := Int.eq_ofNat_of_zero_le (show 0 ≤ c % 128 by omega)
          rw [ha, pow128] at hq ⊢
          rw [pow128] at hn
          have hq' : N + a * 2 ^ (7 * i) < 18446744073709551616 := by
            have : ((N + a * 2 ^ (7 * i) : Nat) : Int) < 18446744073709551616 := by rw [Int.natCast_add, Int.natCast_mul]; omega
            omega
          have := or_add N a (7 * i) (by omega) hq'
          rw [Int.natCast_add, Int.natCast_mul] at this
          exact this
        have hneg : (decide (((7 * i : Nat) : Int) < 0)) = false := decide_eq_false (by omega)
        have e6 : IntKind.i64.wrap (at' + i) = at' + i := wrap_i64 (by omega) (by omega)
        have e7 : IntKind.i64.wrap (at' + i + 1) = at' + ((i : Int) + 1) := by rw [wrap_i64 (by omega) (by omega)]; omega
        simp only [e2, e3, e4, e5, hneg, chk, Bool.not_false, cond_true, e6, e7]
        by_cases h128 : c ≥ 128
        · have : c % 128 = c - 128 := by omega
          simp only [h128, decide_true, cond_true, this, if_true]
        · have : c % 128 = c := by omega
          simp only [h128, decide_false, cond_false, this, if_false]
          by_cases h0 : c = 0
          · subst h0
            by_cases hi0 : i > 0
            · simp [hi0]
            · simp [hi0]
          · have h0' : (c == 0) = false := beq_false_of_ne h0
            simp [h0, h0']
      unfold get1
      by_cases h9 : i = 9 ∧ c > 1
      · have h9' : ((i : Int) == 9) = true := by rw [h9.1]; rfl
        have h1' : decide (c > 1) = true := decide_eq_true h9.2
        simp [h9', h1', if_pos h9, fin1]
      · have hside : i = 9 → c ≤ 1 := fun h => by
          by_cases hx : c > 1
          · exact absurd ⟨h, hx⟩ h9
          · omega
        rw [if_neg h9]
        have both : ∀ X Y : Option (Int × Int × Int × Unit), (cond ((i : Int) == 9) (cond (decide (c > 1)) X Y) Y) = Y := fun X Y => by
          cases hx : ((i : Int) == 9) with
          | false => rfl
          | true =>
            have : c ≤ 1 := hside (by have := eq_of_beq hx; omega)
            have hd : decide (c > 1) = false := decide_eq_false (by omega)
            simp only [cond_true, hd, cond_false]
        rw [j9 c hc.1 hc.2 hside, both]
        by_cases h128 : c ≥ 128
        · have hi8 : i ≤ 8 := by
            rcases Nat.lt_or_ge i 9 with h | h
            · omega
            · have := hside (by omega); omega
          rw [if_pos h128, if_pos h128]
          simp only [e1]
          have hq : (c - 128) * 128 ^ i + n < 128 ^ (i + 1) := by
            rw [Int.pow_succ]
            have : (c - 128) * 128 ^ i ≤ 127 * 128 ^ i := Int.mul_le_mul_of_nonneg_right (by omega) (by omega)
            omega
          exact ih (i + 1) _ (by omega) (by omega) (by have : 0 ≤ (c - 128) * 128 ^ i := Int.mul_nonneg (by omega) (by omega); omega) (by omega) (by omega)
        · rw [if_neg h128, if_neg h128]
          by_cases h0 : c = 0 ∧ i > 0
          · rw [if_pos h0, if_pos h0]; simp [fin1]
          · rw [if_neg h0, if_neg h0]; simp [fin1]
    · have hx : ¬ (i : Int) < b.length := by omega
      rw [List.drop_of_length_le (by omega)]
      simp [hx, get1, fin1]

theorem get1_err : ∀ (l : List Int) (i : Nat) (n : Int), (get1 l i n).2.2 ≠ 0 → (get1 l i n).1 = 0 ∧ (get1 l i n).2.1 = 0 := by
  intro l
  induction l with
  | nil => intro i n _; exact ⟨rfl, rfl⟩
  | cons c r ih =>
    intro i n
    unfold get1
    split
    · intro _; exact ⟨rfl, rfl⟩
    · split
      · exact ih _ _
      · split
        · intro _; exact ⟨rfl, rfl⟩
        · intro h; exact absurd rfl h
theorem packGet_eq (fu : Nat) (b : List Int) (hb : By b) (hl : b.length ≤ 100000) (hfu : b.length < fu) (at' : Int) : packGet fu b at' = some ((got b at').1, (got b at').2.1, (got b at').2.2, ()) := by
  unfold packGet got
  by_cases h1 : at' < 0
  · simp [h1]
  · by_cases h2 : at' > b.length
    · simp [h1, h2]
    · have hcut : cutOk b at' b.length = true := by simp [cutOk]; omega
      have e : cutL b at' b.length = b.drop at'.toNat := by
        unfold cutL
        rw [List.take_of_length_le]
        rw [List.length_drop]; omega
      have hd : By (b.drop at'.toNat) := fun x hx => hb x (List.mem_of_mem_drop hx)
      have hdl : (b.drop at'.toNat).length ≤ b.length := by rw [List.length_drop]; omega
      have hn : ¬ (at' < 0 ∨ at' > b.length) := by omega
      simp only [h1, h2, or_self, if_false, decide_false, cond_false, hcut, chk, cond_true, e]
      have := get_rounds fu (fun a c d => some (a, c, d, ())) (fun _ => some (0, 0, 3, ())) at' (b.drop at'.toNat) hd (by omega) (by omega) fu 0 0 (by omega) (by omega) (by omega) (by simp) (by omega)
      refine this.trans ?_
      rw [List.drop_zero]
      generalize hq : get1 (b.drop at'.toNat) 0 0 = q
      unfold fin1 from1
      by_cases h0 : q.2.2 = 0
      · simp [h0]
      · by_cases h3 : q.2.2 = 3
        · have hz := get1_err (b.drop at'.toNat) 0 0
          rw [hq] at hz
          simp [h3, hz h0]
        · have hz := get1_err (b.drop at'.toNat) 0 0
          rw [hq] at hz
          simp [h0, h3, hz h0]

/-- A number's writing. -/
def putN : Nat → Int → List Int
  | 0, n => [n]
  | k + 1, n => if n ≥ 128 then (n % 128 + 128) :: putN k (n / 128) else [n]
theorem putN_len : ∀ (k : Nat) (n : Int), (putN k n).length ≤ k + 1 ∧ 0 < (putN k n).length
  | 0, n => by simp [putN]
  | k + 1, n => by
    unfold putN
    split
    · have := putN_len k (n / 128)
      simp only [List.length_cons]
      omega
    · simp
theorem apOk1 {xs ys : List Int} (h : xs.length + ys.length ≤ 1000000) : apOk xs ys 1 = true := by
  unfold apOk
  exact decide_eq_true (Nat.le_trans (Nat.mul_le_mul_right 1 h) (by decide))
def tab8 : List Int := ([0, 1, 2, 2, 3, 3, 3, 3, 4, 4, 4, 4, 4, 4, 4, 4, 5, 5, 5, 5, 5, 5, 5, 5, 5, 5, 5, 5, 5, 5, 5, 5, 6, 6, 6, 6, 6, 6, 6, 6, 6, 6, 6, 6, 6, 6, 6, 6, 6, 6, 6, 6, 6, 6, 6, 6, 6, 6, 6, 6, 6, 6, 6, 6, 7, 7, 7, 7, 7, 7, 7, 7, 7, 7, 7, 7, 7, 7, 7, 7, 7, 7, 7, 7, 7, 7, 7, 7, 7, 7, 7, 7, 7, 7, 7, 7, 7, 7, 7, 7, 7, 7, 7, 7, 7, 7, 7, 7, 7, 7, 7, 7, 7, 7, 7, 7, 7, 7, 7, 7, 7, 7, 7, 7, 7, 7, 7, 7, 8, 8, 8, 8, 8, 8, 8, 8, 8, 8, 8, 8, 8, 8, 8, 8, 8, 8, 8, 8, 8, 8, 8, 8, 8, 8, 8, 8, 8, 8, 8, 8, 8, 8, 8, 8, 8, 8, 8, 8, 8, 8, 8, 8, 8, 8, 8, 8, 8, 8, 8, 8, 8, 8, 8, 8, 8, 8, 8, 8, 8, 8, 8, 8, 8, 8, 8, 8, 8, 8, 8, 8, 8, 8, 8, 8, 8, 8, 8, 8, 8, 8, 8, 8, 8, 8, 8, 8, 8, 8, 8, 8, 8, 8, 8, 8, 8, 8, 8, 8, 8, 8, 8, 8, 8, 8, 8, 8, 8, 8, 8, 8, 8, 8, 8, 8, 8, 8, 8, 8, 8, 8, 8, 8, 8, 8, 8, 8] : List Int)
theorem tab8_ok (x : Int) (h0 : 0 ≤ x) (h1 : x < 256) : ixOk tab8 x = true ∧ 0 ≤ ixL 0 tab8 x ∧ ixL 0 tab8 x ≤ 8 := by
  have key : ∀ m : Fin 256, ixOk tab8 (m.val : Int) = true ∧ 0 ≤ ixL 0 tab8 (m.val : Int) ∧ ixL 0 tab8 (m.val : Int) ≤ 8 := by decide +kernel
  have := key ⟨x.toNat, by omega⟩
  simp only at this
  rw [show (x.toNat : Int) = x by omega] at this
  exact this
theorem len_j7 (fu : Nat) k1 (x n : Int) (h0 : 0 ≤ x) (h1 : x < 65536) (hn : 0 ≤ n) (hn1 : n ≤ 100) : ∃ r, bitsLen64.j7 fu k1 x n = k1 r ∧ 0 ≤ r ∧ r ≤ n + 16 := by
  unfold bitsLen64.j7
  rw [show ([0, 1, 2, 2, 3, 3, 3, 3, 4, 4, 4, 4, 4, 4, 4, 4, 5, 5, 5, 5, 5, 5, 5, 5, 5, 5, 5, 5, 5, 5, 5, 5, 6, 6, 6, 6, 6, 6, 6, 6, 6, 6, 6, 6, 6, 6, 6, 6, 6, 6, 6, 6, 6, 6, 6, 6, 6, 6, 6, 6, 6, 6, 6, 6, 7, 7, 7, 7, 7, 7, 7, 7, 7, 7, 7, 7, 7, 7, 7, 7, 7, 7, 7, 7, 7, 7, 7, 7, 7, 7, 7, 7, 7, 7, 7, 7, 7, 7, 7, 7, 7, 7, 7, 7, 7, 7, 7, 7, 7, 7, 7, 7, 7, 7, 7, 7, 7, 7, 7, 7, 7, 7, 7, 7, 7, 7, 7, 7, 8, 8, 8, 8, 8, 8, 8, 8, 8, 8, 8, 8, 8, 8, 8, 8, 8, 8, 8, 8, 8, 8, 8, 8, 8, 8, 8, 8, 8, 8, 8, 8, 8, 8, 8, 8, 8, 8, 8, 8, 8, 8, 8, 8, 8, 8, 8, 8, 8, 8, 8, 8, 8, 8, 8, 8, 8, 8, 8, 8, 8, 8, 8, 8, 8, 8, 8, 8, 8, 8, 8, 8, 8, 8, 8, 8, 8, 8, 8, 8, 8, 8, 8, 8, 8, 8, 8, 8, 8, 8, 8, 8, 8, 8, 8, 8, 8, 8, 8, 8, 8, 8, 8, 8, 8, 8, 8, 8, 8, 8, 8, 8, 8, 8, 8, 8, 8, 8, 8, 8, 8, 8, 8, 8, 8, 8, 8, 8] : List Int) = tab8 from rfl]
  have fits : ∀ y : Int, 0 ≤ y → y ≤ 1000 → IntKind.i64.wrap y = y := fun y a b => wrap_i64 (by omega) (by omega)
  by_cases h : x ≥ 256
  · have e1 : sShr .u64 x 8 = x / 256 := by have := shr_eq x 8 (by omega); simpa using this
    have e2 : IntKind.u8.wrap (x / 256) = x / 256 := by rw [wrap_u8]; omega
    obtain ⟨q1, q2, q3⟩ := tab8_ok (x / 256) (by omega) (by omega)
    simp only [h, decide_true, cond_true, e1, e2, q1, chk]
    rw [fits (n + 8) (by omega) (by omega), fits (ixL 0 tab8 (x / 256)) q2 (by omega), fits _ (by omega) (by omega)]
    exact ⟨_, rfl, by omega, by omega⟩
  · obtain ⟨q1, q2, q3⟩ := tab8_ok x (by omega) (by omega)
    have e2 : IntKind.u8.wrap x = x := by rw [wrap_u8]; omega
    simp only [h, decide_false, cond_false, e2, q1, chk, cond_true]
    rw [fits (ixL 0 tab8 x) q2 (by omega), fits _ (by omega) (by omega)]
    exact ⟨_, rfl, by omega, by omega⟩
theorem len_j4 (fu : Nat) k1 (x n : Int) (h0 : 0 ≤ x) (h1 : x < 4294967296) (hn : 0 ≤ n) (hn1 : n ≤ 64) : ∃ r, bitsLen64.j4 fu k1 x n = k1 r ∧ 0 ≤ r ∧ r ≤ n + 32 := by
  unfold bitsLen64.j4
  by_cases h : x ≥ 65536
  · have e1 : sShr .u64 x 16 = x / 65536 := by have := shr_eq x 16 (by omega); simpa using this
    have e2 : IntKind.i64.wrap (n + 16) = n + 16 := wrap_i64 (by omega) (by omega)
    simp only [h, decide_true, cond_true, e1, e2]
    obtain ⟨r, h1, h2, h3⟩ := len_j7 fu (fun q => k1 q) (x / 65536) (n + 16) (by omega) (by omega) (by omega) (by omega)
    exact ⟨r, h1, h2, by omega⟩
  · simp only [h, decide_false, cond_false]
    obtain ⟨r, h1, h2, h3⟩ := len_j7 fu (fun q => k1 q) x n (by omega) (by omega) (by omega) (by omega)
    exact ⟨r, h1, h2, by omega⟩
theorem len64_le (fu : Nat) (n : Int) (h0 : 0 ≤ n) (h1 : n < 18446744073709551616) : ∃ r, bitsLen64 fu n = some (r, ()) ∧ 0 ≤ r ∧ r ≤ 64 := by
  unfold bitsLen64
  by_cases h : n ≥ 4294967296
  · have e1 : sShr .u64 n 32 = n / 4294967296 := by have := shr_eq n 32 (by omega); simpa using this
    simp only [h, decide_true, cond_true, e1]
    obtain ⟨r, h1, h2, h3⟩ := len_j4 fu (fun q => some (q, ())) (n / 4294967296) 32 (by omega) (by omega) (by omega) (by omega)
    exact ⟨r, h1, h2, by omega⟩
  · simp only [h, decide_false, cond_false]
    obtain ⟨r, h1, h2, h3⟩ := len_j4 fu (fun q => some (q, ())) n 0 (by omega) (by omega) (by omega) (by omega)
    exact ⟨r, h1, h2, by omega⟩
theorem size_le (fu : Nat) (n : Int) (h0 : 0 ≤ n) (h1 : n < 18446744073709551616) : ∃ r, packSize fu n = some (r, ()) ∧ 0 ≤ r ∧ r ≤ 10 := by
  unfold packSize
  obtain ⟨r, q1, q2, q3⟩ := len64_le fu n h0 h1
  have e1 : IntKind.i64.wrap (max2 r 1 + 6) = max r 1 + 6 := by rw [max2_eq, wrap_i64 (by omega) (by omega)]
  have e2 : Int.tdiv (max r 1 + 6) 7 = (max r 1 + 6) / 7 := Int.tdiv_eq_ediv_of_nonneg (by omega)
  have e3 : IntKind.i64.wrap ((max r 1 + 6) / 7) = (max r 1 + 6) / 7 := wrap_i64 (by omega) (by omega)
  simp only [q1, Option.bind_some, e1, e2, e3]
  exact ⟨_, rfl, by omega, by omega⟩
theorem own_eq (fu : Nat) (b : List Int) (room : Int) (hl : b.length ≤ 500000) (h0 : 0 ≤ room) (h1 : room ≤ 1000) : packOwn fu b room = some ((b, ()), ()) := by
  unfold packOwn
  have e1 : IntKind.i64.wrap ((b.length : Int) + room) = b.length + room := wrap_i64 (by omega) (by omega)
  have e2 : mkOk 0 ((b.length : Int) + room) 1 = true := by
    have hL : (1000000 : Int) ≤ (LIM : Int) := by decide
    unfold mkOk
    simp only [Bool.and_eq_true, decide_eq_true_eq]
    omega
  have e3 : apOk ([] : List Int) b 1 = true := apOk1 (by simp; omega)
  simp only [e1, e2, chk, cond_true, Int.toNat_zero, List.replicate_zero, e3, List.nil_append]
theorem pow_succ128 (k : Nat) : (128 : Int) ^ (k + 1) = 128 * 128 ^ k := by rw [Int.pow_succ, Int.mul_comm]
theorem putO_rounds (fu : Nat) (k2 : Int → List Int → Option (((List Int) × Unit) × (Unit))) : ∀ (k m : Nat) (n : Int) (out : List Int), k < m → 0 ≤ n → n < 128 ^ (k + 1) → out.length + k ≤ 500000 →
    ∃ last init, putN k n = init ++ [last] ∧ 0 ≤ last ∧ last < 128 ∧ packPut.l2 fu k2 m n out = k2 last (out ++ init) := by
  intro k
  induction k with
  | zero =>
    intro m n out hm h0 h1 hl
    obtain ⟨m, rfl⟩ : ∃ j, m = j + 1 := ⟨m - 1, by omega⟩
    have hn : ¬ n ≥ 128 := by have : (128 : Int) ^ (0 + 1) = 128 := by decide
                              omega
    refine ⟨n, [], by simp [putN], h0, by omega, ?_⟩
    unfold packPut.l2 packPut.b2
    simp [hn]
  | succ k ih =>
    intro m n out hm h0 h1 hl
    obtain ⟨m, rfl⟩ : ∃ j, m = j + 1 := ⟨m - 1, by omega⟩
    unfold packPut.l2 packPut.b2 putN
    by_cases hn : n ≥ 128
    · have e1 : sShr .u64 n 7 = n / 128 := by have := shr_eq n 7 (by omega); simpa using this
      have e2 : bOr .u8 (IntKind.u8.wrap n) 128 = n % 128 + 128 := by rw [wrap_u8, byte_or _ (by omega) (by omega)]; omega
      rw [pow_succ128] at h1
      obtain ⟨last, init, q1, q2, q3, q4⟩ := ih m (n / 128) (out ++ [n % 128 + 128]) (by omega) (by omega) (by omega) (by simp; omega)
      refine ⟨last, (n % 128 + 128) :: init, by rw [if_pos hn, q1]; rfl, q2, q3, ?_⟩
      have e3 : apOk out [n % 128 + 128] 1 = true := apOk1 (by simp; omega)
      simp only [hn, decide_true, cond_true, e1, e2, e3, chk]
      rw [q4, List.append_assoc]
      rfl
    · refine ⟨n, [], by rw [if_neg hn]; rfl, h0, by omega, ?_⟩
      simp [hn]
theorem putD_rounds (fu : Nat) (k2 : Int → List Int → Option ((List Int) × Unit)) : ∀ (k m : Nat) (n : Int) (out : List Int), k < m → 0 ≤ n → n < 128 ^ (k + 1) → out.length + k ≤ 500000 →
    ∃ last init, putN k n = init ++ [last] ∧ 0 ≤ last ∧ last < 128 ∧ packPutDat.l2 fu k2 m n out = k2 last (out ++ init) := by
  intro k
  induction k with
  | zero =>
    intro m n out hm h0 h1 hl
    obtain ⟨m, rfl⟩ : ∃ j, m = j + 1 := ⟨m - 1, by omega⟩
    have hn : ¬ n ≥ 128 := by have : (128 : Int) ^ (0 + 1) = 128 := by decide
                              omega
    refine ⟨n, [], by simp [putN], h0, by omega, ?_⟩
    unfold packPutDat.l2 packPutDat.b2
    simp [hn]
  | succ k ih =>
    intro m n out hm h0 h1 hl
    obtain ⟨m, rfl⟩ : ∃ j, m = j + 1 := ⟨m - 1, by omega⟩
    unfold packPutDat.l2 packPutDat.b2 putN
    by_cases hn : n ≥ 128
    · have e1 : sShr .u64 n 7 = n / 128 := by have := shr_eq n 7 (by omega); simpa using this
      have e2 : bOr .u8 (IntKind.u8.wrap n) 128 = n % 128 + 128 := by rw [wrap_u8, byte_or _ (by omega) (by omega)]; omega
      rw [pow_succ128] at h1
      obtain ⟨last, init, q1, q2, q3, q4⟩ := ih m (n / 128) (out ++ [n % 128 + 128]) (by omega) (by omega) (by omega) (by simp; omega)
      refine ⟨last, (n % 128 + 128) :: init, by rw [if_pos hn, q1]; rfl, q2, q3, ?_⟩
      have e3 : apOk out [n % 128 + 128] 1 = true := apOk1 (by simp; omega)
      simp only [hn, decide_true, cond_true, e1, e2, e3, chk]
      rw [q4, List.append_assoc]
      rfl
    · refine ⟨n, [], by rw [if_neg hn]; rfl, h0, by omega, ?_⟩
      simp [hn]
theorem put_eq (fu : Nat) (hfu : 12 ≤ fu) (b : List Int) (n : Int) (hl : b.length ≤ 400000) (h0 : 0 ≤ n) (h1 : n < 18446744073709551616) : packPut fu b n = some ((b ++ putN 9 n, ()), ()) ∧ packPutDat fu b n = some (b ++ putN 9 n, ()) := by
  obtain ⟨r, q1, q2, q3⟩ := size_le fu n h0 h1
  have hp : (128 : Int) ^ (9 + 1) = 1180591620717411303424 := by decide
  constructor
  · obtain ⟨last, init, p1, p2, p3, p4⟩ := putO_rounds fu (fun nq2 outq2 => 
      chk (apOk outq2 ([IntKind.u8.wrap nq2]) 1) <|
      let t3 := outq2 ++ ([IntKind.u8.wrap nq2])
      some ((t3, ()), (()))) 9 fu n b (by omega) h0 (by omega) (by omega)
    have hlen := putN_len 9 n
    rw [p1] at hlen
    simp only [List.length_append, List.length_cons, List.length_nil] at hlen
    have e1 : IntKind.u8.wrap last = last := by rw [wrap_u8]; omega
    have e2 : apOk (b ++ init) [last] 1 = true := apOk1 (by simp; omega)
    unfold packPut
    simp only [q1, Option.bind_some, own_eq fu b r (by omega) q2 (by omega)]
    refine p4.trans ?_
    simp only [e1, e2, chk, cond_true, p1, List.append_assoc]
  · obtain ⟨last, init, p1, p2, p3, p4⟩ := putD_rounds fu (fun nq2 outq2 => 
      chk (apOk outq2 ([IntKind.u8.wrap nq2]) 1) <|
      let t3 := outq2 ++ ([IntKind.u8.wrap nq2])
      some (t3, ())) 9 fu n b (by omega) h0 (by omega) (by omega)
    have hlen := putN_len 9 n
    rw [p1] at hlen
    simp only [List.length_append, List.length_cons, List.length_nil] at hlen
    have e1 : IntKind.u8.wrap last = last := by rw [wrap_u8]; omega
    have e2 : apOk (b ++ init) [last] 1 = true := apOk1 (by simp; omega)
    unfold packPutDat
    simp only [q1, Option.bind_some, own_eq fu b r (by omega) q2 (by omega)]
    refine p4.trans ?_
    simp only [e1, e2, chk, cond_true, p1, List.append_assoc]
/-- What is got is put as it stood. -/
theorem get_put : ∀ (k i : Nat) (l : List Int) (n v e : Int), By l → i + k = 9 → get1 l i n = (v, e, 0) →
    ∃ (m : Int) (j : Nat), v = n + m * 128 ^ i ∧ 0 ≤ m ∧ m < 2 * 128 ^ k ∧ e = i + j ∧ 0 < j ∧ j ≤ l.length ∧ l.take j = putN k m ∧ (i > 0 → 1 ≤ m) := by
  intro k
  induction k with
  | zero =>
    intro i l n v e hb hi h
    cases l with
    | nil => cases h
    | cons c r =>
      have hc := hb c List.mem_cons_self
      unfold get1 at h
      split at h
      · cases h
      · rename_i h9
        have hc1 : ¬ c > 1 := fun hx => h9 ⟨by omega, hx⟩
        rw [if_neg (by omega)] at h
        split at h
        · cases h
        · rename_i h0
          cases h
          refine ⟨c, 1, rfl, hc.1, by omega, by omega, by omega, by simp, by simp [putN], fun hi0 => ?_⟩
          rcases Int.lt_or_le 0 c with hx | hx
          · omega
          · exact absurd ⟨by omega, hi0⟩ h0
  | succ k ih =>
    intro i l n v e hb hi h
    cases l with
    | nil => cases h
    | cons c r =>
      have hc := hb c List.mem_cons_self
      unfold get1 at h
      rw [if_neg (by omega)] at h
      have hpk : (1 : Int) ≤ 128 ^ k := by
        have : 0 < 128 ^ k := Nat.pow_pos (by omega)
        have e : (128 : Int) ^ k = ((128 ^ k : Nat) : Int) := by norm_cast
        omega
      split at h
      · rename_i h128
        obtain ⟨m, j, q1, q2, q3, q4, q5, q6, q7, q8⟩ := ih (i + 1) r _ v e (by_tail hb) (by omega) h
        have hm1 := q8 (by omega)
        refine ⟨c - 128 + 128 * m, j + 1, ?_, by omega, by rw [Int.pow_succ]; omega, by omega, by omega, by simp; omega, ?_, fun _ => by omega⟩
        · rw [q1, Int.pow_succ, Int.add_mul, Int.mul_comm 128 m, Int.mul_assoc m 128, Int.mul_comm 128 (128 ^ i)]; omega
        · rw [List.take_succ_cons, q7]
          conv => rhs; unfold putN
          rw [if_pos (by omega), show (c - 128 + 128 * m) % 128 + 128 = c by omega, show (c - 128 + 128 * m) / 128 = m by omega]
      · rename_i h128
        split at h
        · cases h
        · rename_i h0
          cases h
          refine ⟨c, 1, rfl, hc.1, by rw [Int.pow_succ]; omega, by omega, by omega, by simp, ?_, fun hi0 => ?_⟩
          · conv => rhs; unfold putN
            rw [if_neg (by omega)]; simp
          · rcases Int.lt_or_le 0 c with hx | hx
            · omega
            · exact absurd ⟨by omega, hi0⟩ h0
/-- What is put is got as it was. -/
theorem put_get : ∀ (k i : Nat) (m n : Int) (rest : List Int), i + k = 9 → 0 ≤ m → m < 2 * 128 ^ k → (i > 0 → 1 ≤ m) → get1 (putN k m ++ rest) i n = (n + m * 128 ^ i, (i : Int) + ((putN k m).length : Int), 0) := by
  intro k
  induction k with
  | zero =>
    intro i m n rest hi h0 h1 hp
    have hm1 : m ≤ 1 := by simp at h1; omega
    unfold putN get1
    simp only [List.cons_append, List.nil_append]
    rw [if_neg (by omega), if_neg (by omega), if_neg (fun h => by have := hp h.2; omega)]
    simp
  | succ k ih =>
    intro i m n rest hi h0 h1 hp
    unfold putN
    split
    · rename_i hge
      simp only [List.cons_append]
      unfold get1
      rw [if_neg (by omega), if_pos (by omega)]
      rw [ih (i + 1) (m / 128) _ rest (by omega) (by omega) (by rw [Int.pow_succ] at h1; omega) (fun _ => by omega)]
      simp only [List.length_cons]
      refine Prod.ext ?_ (Prod.ext ?_ rfl)
      · show n + (m % 128 + 128 - 128) * 128 ^ i + m / 128 * 128 ^ (i + 1) = n + m * 128 ^ i
        rw [Int.pow_succ, Int.mul_comm (128 ^ i) 128, ← Int.mul_assoc, Int.add_assoc, ← Int.add_mul]
        congr 2
        omega
      · show ((i + 1 : Nat) : Int) + ((putN k (m / 128)).length : Int) = (i : Int) + (((putN k (m / 128)).length + 1 : Nat) : Int)
        omega
    · rename_i hlt
      simp only [List.cons_append, List.nil_append]
      unfold get1
      rw [if_neg (by omega), if_neg (by omega), if_neg (fun h => by have := hp h.2; omega)]
      simp
theorem got_ok {b : List Int} (hb : By b) {at' v e : Int} (h : got b at' = (v, e, 0)) : 0 ≤ at' ∧ 0 ≤ v ∧ v < 18446744073709551616 ∧ ∃ j : Nat, e = at' + j ∧ 0 < j ∧ at' + j ≤ b.length ∧ cutL b at' e = putN 9 v := by
  unfold got at h
  split at h
  · cases h
  · rename_i hn
    generalize hq : get1 (b.drop at'.toNat) 0 0 = q at h
    obtain ⟨v', e', er⟩ := q
    unfold from1 at h
    simp only [Prod.mk.injEq] at h
    obtain ⟨rfl, h2, rfl⟩ := h
    rw [if_pos rfl] at h2
    obtain ⟨m, j, q1, q2, q3, q4, q5, q6, q7, q8⟩ := get_put 9 0 (b.drop at'.toNat) 0 v' e' (fun x hx => hb x (List.mem_of_mem_drop hx)) rfl hq
    have hv : v' = m := by rw [q1]; simp
    rw [List.length_drop] at q6
    have hp : (2 : Int) * 128 ^ 9 = 18446744073709551616 := by decide
    refine ⟨by omega, by omega, by omega, j, by omega, q5, by omega, ?_⟩
    rw [hv, ← q7]
    unfold cutL
    rw [show (e - at').toNat = j by omega]
/-- A number put and got. -/
theorem got_put (a rest : List Int) (n : Int) (h0 : 0 ≤ n) (h1 : n < 18446744073709551616) : got (a ++ putN 9 n ++ rest) a.length = (n, (a.length : Int) + ((putN 9 n).length : Int), 0) := by
  unfold got
  rw [if_neg (by simp; omega)]
  have hp : (2 : Int) * 128 ^ 9 = 18446744073709551616 := by decide
  have e : (a ++ putN 9 n ++ rest).drop (a.length : Int).toNat = putN 9 n ++ rest := by simp
  rw [e, put_get 9 0 n 0 rest rfl h0 (by omega) (fun h => by omega)]
  unfold from1
  simp
theorem fixed03 : law03Fixed 3000 = some (true, ()) := by kernel_rfl
theorem cut_len {b : List Int} {x y : Int} (h0 : 0 ≤ x) (h1 : x ≤ y) (h2 : y ≤ b.length) : (cutL b x y).length = (y - x).toNat := by
  unfold cutL
  rw [List.length_take, List.length_drop]
  omega
theorem cut_app {b : List Int} {x y z : Int} (h0 : 0 ≤ x) (h1 : x ≤ y) (h2 : y ≤ z) (h3 : z ≤ b.length) : cutL b x y ++ cutL b y z = cutL b x z := by
  unfold cutL
  have e : b.drop y.toNat = (b.drop x.toNat).drop (y - x).toNat := by rw [List.drop_drop]; congr 1; omega
  rw [e, show (z - x).toNat = (y - x).toNat + (z - y).toNat by omega, List.take_add]
theorem cutOk_of {b : List Int} {x y : Int} (h0 : 0 ≤ x) (h1 : x ≤ y) (h2 : y ≤ b.length) : cutOk b x y = true := by simp [cutOk, h0, h1, h2]

/-- A text at a place. -/
def text1 (b : List Int) (at' most : Int) : List Int × Int × Int :=
  if (got b at').2.2 ≠ 0 then ([], 0, (got b at').2.2) else if (got b at').1 > max most 0 then ([], 0, 4) else if (got b at').1 > b.length - (got b at').2.1 then ([], 0, 3)
  else (cutL b (got b at').2.1 ((got b at').2.1 + (got b at').1), (got b at').2.1 + (got b at').1, 0)
theorem getText_eq (fu : Nat) (b : List Int) (hb : By b) (hl : b.length ≤ 100000) (hfu : b.length < fu) (at' most : Int) (hm : -9223372036854775808 ≤ most ∧ most < 9223372036854775808) : packGetText fu b at' most = some ((text1 b at' most).1, (text1 b at' most).2.1, (text1 b at' most).2.2, ()) := by
  unfold packGetText text1
  rw [packGet_eq fu b hb hl hfu]
  generalize hq : got b at' = q
  obtain ⟨v, e, er⟩ := q
  simp only [Option.bind_some]
  by_cases h : er = 0
  · subst h
    obtain ⟨g1, g2, g3, j, g4, g5, g6, g7⟩ := got_ok hb hq
    have e1 : IntKind.u64.wrap (max2 most 0) = max most 0 := by rw [max2_eq]; exact wrap_u64 (by omega) (by omega)
    have e2 : IntKind.i64.wrap ((b.length : Int) - e) = b.length - e := wrap_i64 (by omega) (by omega)
    have e3 : IntKind.u64.wrap ((b.length : Int) - e) = b.length - e := wrap_u64 (by omega) (by omega)
    simp only [bne_self_eq_false, cond_false, e1, e2, e3, ne_eq, not_true_eq_false, if_false]
    by_cases h1 : v > max most 0
    · simp [h1]
    · by_cases h2 : v > b.length - e
      · simp only [h1, h2, decide_false, decide_true, cond_false, cond_true, if_false, if_true]
      · have e4 : IntKind.i64.wrap v = v := wrap_i64 (by omega) (by omega)
        have e5 : IntKind.i64.wrap (e + v) = e + v := wrap_i64 (by omega) (by omega)
        simp only [h1, h2, decide_false, cond_false, if_false, e4, e5, cutOk_of (show 0 ≤ e by omega) (show e ≤ e + v by omega) (show e + v ≤ b.length by omega), chk, cond_true]
  · have h' : (er != 0) = true := bne_iff_ne.2 h
    simp [h, h']
theorem text_ok {b : List Int} (hb : By b) {at' most e : Int} {s : List Int} (h : text1 b at' most = (s, e, 0)) : 0 ≤ at' ∧ at' ≤ e ∧ e ≤ b.length ∧ (s.length : Int) ≤ b.length ∧ cutL b at' e = putN 9 s.length ++ s := by
  unfold text1 at h
  generalize hq : got b at' = q at h
  obtain ⟨v, e', er⟩ := q
  simp only at h
  split at h
  · rename_i h0
    simp only [Prod.mk.injEq] at h
    exact absurd h.2.2 h0
  · rename_i h0
    have h0 : er = 0 := by omega
    subst h0
    split at h
    · cases h
    · split at h
      · cases h
      · rename_i h1 h2
        cases h
        obtain ⟨g1, g2, g3, j, g4, g5, g6, g7⟩ := got_ok hb hq
        have hlen : (cutL b e' (e' + v)).length = v.toNat := by rw [cut_len (by omega) (by omega) (by omega)]; omega
        refine ⟨g1, by omega, by omega, by omega, ?_⟩
        rw [hlen, show (v.toNat : Int) = v by omega, ← g7]
        exact (cut_app g1 (by omega) (by omega) (by omega)).symm
theorem putText_eq (fu : Nat) (hfu : 12 ≤ fu) (b s : List Int) (hl : b.length ≤ 400000) (hs : s.length ≤ 400000) : packPutText fu b s = some (b ++ putN 9 s.length ++ s, ()) := by
  unfold packPutText
  have e1 : IntKind.u64.wrap (s.length : Int) = s.length := wrap_u64 (by omega) (by omega)
  have := putN_len 9 s.length
  have e2 : apOk (b ++ putN 9 s.length) s 1 = true := apOk1 (by rw [List.length_append]; omega)
  simp only [e1, (put_eq fu hfu b s.length hl (by omega) (by omega)).1, Option.bind_some, e2, chk, cond_true]

/-- The bits of a number, the one NaN for all. -/
def isNan (x : Nat) : Prop := x % 9223372036854775808 > 9218868437227405312
instance : DecidablePred isNan := fun x => inferInstanceAs (Decidable (_ > _))
def canon (x : Nat) : Int := if isNan x then 9221120237041090560 else x
theorem nan_iff (x : Nat) : fNeq x x = decide (isNan x) := by
  unfold fNeq
  show (FloatKind.f64.format.order x x != some .eq) = _
  have hsw : FloatKind.f64.format.signWeight = 9223372036854775808 := by decide
  have hir : FloatKind.f64.format.infRung = 9218868437227405312 := by decide
  have hbi : FloatKind.f64.format.binade = 4503599627370496 := by decide
  unfold Ieee.Format.order Ieee.Format.read
  have no : ¬ (x % 9223372036854775808 > 9218868437227405312) → decide (isNan x) = false := fun h => decide_eq_false h
  simp only [hsw, hir, hbi]
  split
  · rename_i h
    rw [no (by omega)]
    simp [Ieee.Datum.order]
  · split
    · rename_i h1 h2
      rw [no (by omega)]
      simp [Ieee.Datum.order]
    · split
      · rename_i h1 h2 h3
        rw [no (by omega)]
        simp [Ieee.Datum.order]
      · rename_i h1 h2 h3
        exact (decide_eq_true (p := isNan x) (show x % 9223372036854775808 > 9218868437227405312 by omega)).symm
theorem realBits_eq (fu : Nat) (x : Nat) (h : x < 18446744073709551616) : realBits fu x = some (canon x, ()) := by
  unfold realBits canon
  rw [nan_iff]
  by_cases hx : isNan x
  · simp [hx]
  · have : extBits.f fu (x, ()) = some ((x : Int), ()) := by
      show (match decide (x < 18446744073709551616) with | true => some ((x : Int), ()) | false => none) = _
      rw [decide_eq_true h]
    simp only [hx, decide_false, cond_false, if_false]
    rw [this]
    rfl
theorem canon_fits (x : Nat) (h : x < 18446744073709551616) : 0 ≤ canon x ∧ canon x < 18446744073709551616 := by
  unfold canon; split <;> omega
theorem realFrom_eq (fu : Nat) (n : Int) (h0 : 0 ≤ n) (h : n < 18446744073709551616) : realFrom fu n = some (if canon n.toNat = n then (n.toNat, true, ()) else (0, false, ())) := by
  unfold realFrom
  have : extFrom.f fu (n, ()) = some (n.toNat, ()) := rfl
  rw [this]
  show ((realBits fu n.toNat).bind fun r2 => cond (r2.1 != n) (some ((0 : Nat), false, ())) (some (n.toNat, true, ()))) = _
  rw [realBits_eq fu n.toNat (by omega)]
  by_cases hx : canon n.toNat = n
  · have hx' : (canon n.toNat != n) = false := by rw [hx]; exact bne_self_eq_false _
    simp only [Option.bind_some, hx', cond_false, if_pos hx]
  · have hx' : (canon n.toNat != n) = true := bne_iff_ne.2 hx
    simp only [Option.bind_some, hx', cond_true, if_neg hx]

def be (l : List Int) (n : Int) : Int := l.foldl (fun n c => n * 256 + c) n
theorem or_comm' (k : IntKind) (x y : Int) : bOr k x y = bOr k y x := by unfold bOr; rw [BitVec.or_comm]
theorem real_rounds (fu : Nat) (k2 : Int → Int → Option (Nat × Int × Int × Unit)) (at' : Int) (v : List Int) (hv : By v) (hl : v.length = 8) : ∀ (m i : Nat) (n : Int), i ≤ 8 → 8 < i + m → 0 ≤ n → n < 256 ^ i →
    packGetReal.l5 fu k2 m at' n v 8 i = k2 at' (be (v.drop i) n) := by
  intro m
  induction m with
  | zero => intro i n h1 h2; omega
  | succ m ih =>
    intro i n h1 h2 h3 h4
    unfold packGetReal.l5 packGetReal.b5
    by_cases hi : i < 8
    · have hi' : (i : Int) < 8 := by omega
      have hil : i < v.length := by omega
      have hix : ixOk v i = true := by simp [ixOk, hil]
      have hc := hv _ (List.getElem_mem hil)
      have e1 : IntKind.i64.wrap ((i : Int) + 1) = (i + 1 : Nat) := wrap_i64 (by omega) (by omega)
      have hp : (256 : Int) ^ i ≤ 72057594037927936 := by
        have h1 : 256 ^ i ≤ 256 ^ 7 := Nat.pow_le_pow_right (by omega) (by omega)
        have e : (256 : Int) ^ i = ((256 ^ i : Nat) : Int) := by rw [Int.natCast_pow]; rfl
        rw [e]
        have : (256 : Nat) ^ 7 = 72057594037927936 := by decide
        omega
      rw [List.drop_eq_getElem_cons hil]
      simp only [hi', decide_true, cond_true, chk, hix, ixL_get hil, e1]
      generalize v[i] = c at hc
      have e2 : sShl .u64 n 8 = n * 256 := by have := shl_eq n 8 (by omega) h3 (by omega); rw [show (2 : Int) ^ 8 = 256 by decide] at this; exact this
      have e3 : IntKind.u64.wrap c = c := wrap_u64 (by omega) (by omega)
      have e4 : bOr .u64 (n * 256) c = n * 256 + c := by
        obtain ⟨N, rfl⟩ := Int.eq_ofNat_of_zero_le h3
        obtain ⟨C, rfl⟩ := Int.eq_ofNat_of_zero_le hc.1
        have := or_add C N 8 (by omega) (by omega)
        rw [or_comm']
        have e : ((N * 2 ^ 8 : Nat) : Int) = (N : Int) * 256 := by omega
        rw [e] at this
        rw [this]
        omega
      rw [e2, e3, e4, ih (i + 1) (n * 256 + c) (by omega) (by omega) (by omega) (by rw [Int.pow_succ]; omega)]
      rfl
    · have : i = 8 := by omega
      subst this
      rw [List.drop_of_length_le (by omega)]
      simp [be]
def real1 (b : List Int) (at' : Int) : Nat × Int × Int :=
  if at' < 0 ∨ at' > b.length - 8 then (0, 0, 3) else if canon (be (cutL b at' (at' + 8)) 0).toNat = be (cutL b at' (at' + 8)) 0 then ((be (cutL b at' (at' + 8)) 0).toNat, at' + 8, 0) else (0, 0, 2)
theorem be_fits : ∀ (l : List Int) (n : Int) (i : Nat), By l → 0 ≤ n → n < 256 ^ i → 0 ≤ be l n ∧ be l n < 256 ^ (i + l.length) := by
  intro l
  induction l with
  | nil => intro n i _ h0 h1; exact ⟨h0, h1⟩
  | cons c r ih =>
    intro n i hb h0 h1
    have hc := hb c List.mem_cons_self
    have := ih (n * 256 + c) (i + 1) (by_tail hb) (by omega) (by rw [Int.pow_succ]; omega)
    rw [show i + (c :: r).length = i + 1 + r.length by simp; omega]
    exact this
theorem be_u64 {l : List Int} (hb : By l) (hl : l.length = 8) : 0 ≤ be l 0 ∧ be l 0 < 18446744073709551616 := by
  have := be_fits l 0 0 hb (by omega) (by simp)
  rw [hl] at this
  have e : (256 : Int) ^ (0 + 8) = 18446744073709551616 := by decide
  omega
theorem getReal_eq (fu : Nat) (hfu : 10 ≤ fu) (b : List Int) (hb : By b) (hl : b.length ≤ 100000) (at' : Int) : packGetReal fu b at' = some ((real1 b at').1, (real1 b at').2.1, (real1 b at').2.2, ()) := by
  unfold packGetReal real1
  by_cases h1 : at' < 0
  · simp [h1]
  · have e1 : IntKind.i64.wrap ((b.length : Int) - 8) = b.length - 8 := wrap_i64 (by omega) (by omega)
    by_cases h2 : at' > b.length - 8
    · simp [h1, e1, h2]
    · have e2 : IntKind.i64.wrap (at' + 8) = at' + 8 := wrap_i64 (by omega) (by omega)
      have hlen : (cutL b at' (at' + 8)).length = 8 := by rw [cut_len (by omega) (by omega) (by omega)]; omega
      have hby : By (cutL b at' (at' + 8)) := by_cut hb _ _
      have hu := be_u64 hby hlen
      simp only [h1, h2, e1, e2, decide_false, cond_false, cutOk_of (show 0 ≤ at' by omega) (show at' ≤ at' + 8 by omega) (show at' + 8 ≤ b.length by omega), chk, cond_true, hlen, or_self, if_false]
      have := real_rounds fu (fun atvq2 nq2 =>
          (realFrom fu nq2).bind fun r4 =>
          cond (!r4.2.1) (
            some ((0 : Nat), (0 : Int), (2 : Int), ())) (
            let t5 := IntKind.i64.wrap (atvq2 + (8 : Int))
            some (r4.1, t5, (0 : Int), ()))) at' (cutL b at' (at' + 8)) hby hlen fu 0 0 (by omega) (by omega) (by omega) (by simp)
      refine this.trans ?_
      simp only [List.drop_zero, realFrom_eq fu _ hu.1 hu.2, Option.bind_some, e2]
      by_cases h3 : canon (be (cutL b at' (at' + 8)) 0).toNat = be (cutL b at' (at' + 8)) 0
      · rw [if_pos h3, if_pos h3]; rfl
      · rw [if_neg h3, if_neg h3]; rfl
/-- Eight bytes, the great ones ahead. -/
def bytes8 (n : Int) : List Int := [n / 72057594037927936 % 256, n / 281474976710656 % 256, n / 1099511627776 % 256, n / 4294967296 % 256, n / 16777216 % 256, n / 65536 % 256, n / 256 % 256, n % 256]
theorem bytes8_be {l : List Int} (hb : By l) (hl : l.length = 8) : bytes8 (be l 0) = l := by
  match l, hl with
  | [a, b, c, d, e, f, g, h], _ =>
    have ha := hb a (by simp); have hbb := hb b (by simp); have hc := hb c (by simp); have hd := hb d (by simp)
    have he := hb e (by simp); have hf := hb f (by simp); have hg := hb g (by simp); have hh := hb h (by simp)
    show bytes8 ((((((((0 * 256 + a) * 256 + b) * 256 + c) * 256 + d) * 256 + e) * 256 + f) * 256 + g) * 256 + h) = _
    unfold bytes8
    congr 1
    · omega
    congr 1
    · omega
    congr 1
    · omega
    congr 1
    · omega
    congr 1
    · omega
    congr 1
    · omega
    congr 1
    · omega
    congr 1
    omega
theorem be_bytes8 (n : Int) (h0 : 0 ≤ n) (h1 : n < 18446744073709551616) : be (bytes8 n) 0 = n := by
  show (((((((0 * 256 + n / 72057594037927936 % 256) * 256 + n / 281474976710656 % 256) * 256 + n / 1099511627776 % 256) * 256 + n / 4294967296 % 256) * 256 + n / 16777216 % 256) * 256 + n / 65536 % 256) * 256 + n / 256 % 256) * 256 + n % 256 = n
  omega
theorem bytes8_by (n : Int) : By (bytes8 n) := by
  intro x hx
  simp only [bytes8, List.mem_cons, List.not_mem_nil, or_false] at hx
  omega
theorem realD_step (fu : Nat) (k2 : List Int → Option ((List Int) × Unit)) (m k : Nat) (hk : k < 64) (out : List Int) (n : Int) (ho : out.length ≤ 900000) :
    packPutRealDat.l4 fu k2 (m + 1) out n (k : Int) = packPutRealDat.l4 fu k2 m (out ++ [n / 2 ^ k % 256]) n ((k : Int) - 8) := by
  have e1 : apOk out [n / 2 ^ k % 256] 1 = true := apOk1 (by simp; omega)
  have e2 : IntKind.i64.wrap ((k : Int) - 8) = k - 8 := wrap_i64 (by omega) (by omega)
  have h1 : decide ((k : Int) ≥ 0) = true := decide_eq_true (by omega)
  have h2 : decide ((k : Int) < 0) = false := decide_eq_false (by omega)
  conv => lhs; unfold packPutRealDat.l4 packPutRealDat.b4
  simp only [h1, h2, cond_true, chk, Bool.not_false, shr_eq n k hk, wrap_u8, e1, e2]
theorem realD_end (fu : Nat) (k2 : List Int → Option ((List Int) × Unit)) (m : Nat) (out : List Int) (n : Int) : packPutRealDat.l4 fu k2 (m + 1) out n (-8) = k2 out := by
  unfold packPutRealDat.l4 packPutRealDat.b4
  rfl
theorem realO_step (fu : Nat) (k2 : List Int → Option (((List Int) × Unit) × (Unit))) (m k : Nat) (hk : k < 64) (out : List Int) (n : Int) (ho : out.length ≤ 900000) :
    packPutReal.l4 fu k2 (m + 1) out n (k : Int) = packPutReal.l4 fu k2 m (out ++ [n / 2 ^ k % 256]) n ((k : Int) - 8) := by
  have e1 : apOk out [n / 2 ^ k % 256] 1 = true := apOk1 (by simp; omega)
  have e2 : IntKind.i64.wrap ((k : Int) - 8) = k - 8 := wrap_i64 (by omega) (by omega)
  have h1 : decide ((k : Int) ≥ 0) = true := decide_eq_true (by omega)
  have h2 : decide ((k : Int) < 0) = false := decide_eq_false (by omega)
  conv => lhs; unfold packPutReal.l4 packPutReal.b4
  simp only [h1, h2, cond_true, chk, Bool.not_false, shr_eq n k hk, wrap_u8, e1, e2]
theorem realO_end (fu : Nat) (k2 : List Int → Option (((List Int) × Unit) × (Unit))) (m : Nat) (out : List Int) (n : Int) : packPutReal.l4 fu k2 (m + 1) out n (-8) = k2 out := by
  unfold packPutReal.l4 packPutReal.b4
  rfl
theorem putReal_eq (f : Nat) (b : List Int) (x : Nat) (hl : b.length ≤ 400000) (hx : x < 18446744073709551616) :
    packPutRealDat (f + 9) b x = some (b ++ bytes8 (canon x), ()) ∧ packPutReal (f + 9) b x = some ((b ++ bytes8 (canon x), ()), ()) := by
  constructor
  · unfold packPutRealDat
    rw [own_eq _ b 8 (by omega) (by omega) (by omega), realBits_eq _ x hx]
    simp only [Option.bind_some]
    generalize canon x = n
    refine (realD_step _ _ (f + 8) 56 (by omega) b n (by omega)).trans ?_
    refine (realD_step _ _ (f + 7) 48 (by omega) _ n (by simp; omega)).trans ?_
    refine (realD_step _ _ (f + 6) 40 (by omega) _ n (by simp; omega)).trans ?_
    refine (realD_step _ _ (f + 5) 32 (by omega) _ n (by simp; omega)).trans ?_
    refine (realD_step _ _ (f + 4) 24 (by omega) _ n (by simp; omega)).trans ?_
    refine (realD_step _ _ (f + 3) 16 (by omega) _ n (by simp; omega)).trans ?_
    refine (realD_step _ _ (f + 2) 8 (by omega) _ n (by simp; omega)).trans ?_
    refine (realD_step _ _ (f + 1) 0 (by omega) _ n (by simp; omega)).trans ?_
    refine (realD_end _ _ f _ n).trans ?_
    simp [bytes8]
  · unfold packPutReal
    rw [own_eq _ b 8 (by omega) (by omega) (by omega), realBits_eq _ x hx]
    simp only [Option.bind_some]
    generalize canon x = n
    refine (realO_step _ _ (f + 8) 56 (by omega) b n (by omega)).trans ?_
    refine (realO_step _ _ (f + 7) 48 (by omega) _ n (by simp; omega)).trans ?_
    refine (realO_step _ _ (f + 6) 40 (by omega) _ n (by simp; omega)).trans ?_
    refine (realO_step _ _ (f + 5) 32 (by omega) _ n (by simp; omega)).trans ?_
    refine (realO_step _ _ (f + 4) 24 (by omega) _ n (by simp; omega)).trans ?_
    refine (realO_step _ _ (f + 3) 16 (by omega) _ n (by simp; omega)).trans ?_
    refine (realO_step _ _ (f + 2) 8 (by omega) _ n (by simp; omega)).trans ?_
    refine (realO_step _ _ (f + 1) 0 (by omega) _ n (by simp; omega)).trans ?_
    refine (realO_end _ _ f _ n).trans ?_
    simp [bytes8]
theorem real_ok {b : List Int} (hb : By b) {at' e : Int} {x : Nat} (h : real1 b at' = (x, e, 0)) : 0 ≤ at' ∧ e = at' + 8 ∧ e ≤ b.length ∧ x < 18446744073709551616 ∧ cutL b at' e = bytes8 (canon x) := by
  unfold real1 at h
  split at h
  · cases h
  · rename_i hn
    split at h
    · rename_i hc
      have hlen : (cutL b at' (at' + 8)).length = 8 := by rw [cut_len (by omega) (by omega) (by omega)]; omega
      have hby : By (cutL b at' (at' + 8)) := by_cut hb _ _
      have hu := be_u64 hby hlen
      simp only [Prod.mk.injEq, and_true] at h
      obtain ⟨rfl, rfl⟩ := h
      exact ⟨by omega, rfl, by omega, by omega, by rw [hc, bytes8_be hby hlen]⟩
    · cases h

/-- THE LAW. -/
theorem lawPackOnly (b : List Int) (at' : Int) (h : okAll law03PackOnly.con.ps (b, at', ())) : law03PackOnly 3000 b at' = some (true, ()) := by
  unfold law03PackOnly
  by_cases hl : (b.length : Int) > 2000
  · simp only [hl, decide_true, cond_true, fixed03, Option.bind_some]
  · have hb : By b := fun x hx => by
      have := h.1.2 x hx
      simp [Kd.ok, inR, IntKind.min, IntKind.max, IntKind.signed, IntKind.bits] at this
      omega
    simp only [hl, decide_false, cond_false]
    rw [packGet_eq 3000 b hb (by omega) (by omega)]
    simp only [Option.bind_some]
    -- what follows
    have h9 : ∀ k1, k1 true = some (true, ()) → law03PackOnly.j9 3000 k1 b at' = some (true, ()) := fun k1 hk => by
      unfold law03PackOnly.j9
      rw [getReal_eq 3000 (by omega) b hb (by omega)]
      generalize hq : real1 b at' = q
      obtain ⟨x, e, er⟩ := q
      simp only [Option.bind_some, fixed03]
      by_cases h0 : er = 0
      · subst h0
        obtain ⟨g1, g2, g3, g4, g5⟩ := real_ok hb hq
        have d1 : decide (e > (b.length : Int)) = false := decide_eq_false (by omega)
        have d2 : decide (at' < 0) = false := decide_eq_false (by omega)
        have d3 : decide (e < at') = false := decide_eq_false (by omega)
        have hp := (putReal_eq 2991 [] x (by simp) g4).1
        simp only [beq_self_eq_true, cond_true, d1, d2, d3, cond_false]
        rw [show (3000 : Nat) = 2991 + 9 from rfl, hp]
        simp only [Option.bind_some, cutOk_of g1 (show at' ≤ e by omega) g3, chk, cond_true, g5, List.nil_append, bne_self_eq_false, cond_false, hk]
      · have h0' : (er == 0) = false := beq_false_of_ne h0
        simp only [h0', cond_false, hk]
    have h6 : ∀ k1, k1 true = some (true, ()) → law03PackOnly.j6 3000 k1 b at' = some (true, ()) := fun k1 hk => by
      unfold law03PackOnly.j6
      rw [getText_eq 3000 b hb (by omega) (by omega) at' 5000 (by omega)]
      generalize hq : text1 b at' 5000 = q
      obtain ⟨s, e, er⟩ := q
      simp only [Option.bind_some]
      by_cases h0 : er = 0
      · subst h0
        obtain ⟨g1, g2, g3, g4, g5⟩ := text_ok hb hq
        have d1 : decide (e > (b.length : Int)) = false := decide_eq_false (by omega)
        have d2 : decide (at' < 0) = false := decide_eq_false (by omega)
        have d3 : decide (e < at') = false := decide_eq_false (by omega)
        simp only [beq_self_eq_true, cond_true, d1, d2, d3, cond_false, putText_eq 3000 (by omega) [] s (by simp) (by omega), Option.bind_some, cutOk_of g1 g2 g3, chk, g5, List.nil_append, bne_self_eq_false]
        exact h9 _ hk
      · have h0' : (er == 0) = false := beq_false_of_ne h0
        simp only [h0', cond_false]
        exact h9 _ hk
    generalize hq : got b at' = q
    obtain ⟨v, e, er⟩ := q
    simp only
    by_cases h0 : er = 0
    · subst h0
      obtain ⟨g1, g2, g3, j, g4, g5, g6, g7⟩ := got_ok hb hq
      have d1 : decide (e > (b.length : Int)) = false := decide_eq_false (by omega)
      have d2 : decide (at' < 0) = false := decide_eq_false (by omega)
      have d3 : decide (e < at') = false := decide_eq_false (by omega)
      simp only [beq_self_eq_true, cond_true, d1, d2, d3, cond_false, (put_eq 3000 (by omega) [] v (by simp) g2 g3).2, Option.bind_some, cutOk_of g1 (show at' ≤ e by omega) (show e ≤ b.length by omega), chk, g7, List.nil_append, bne_self_eq_false]
      exact h6 _ rfl
    · have h0' : (er == 0) = false := beq_false_of_ne h0
      simp only [h0', cond_false]
      exact h6 _ rfl
/-- The zigzag of a signed number. -/
def zig (n : Int) : Int := if n ≥ 0 then 2 * n else -2 * n - 1
theorem xor_zero64 (x : Int) (h0 : 0 ≤ x) (h1 : x < 18446744073709551616) : bXor .u64 x 0 = x := by
  obtain ⟨N, rfl⟩ := Int.eq_ofNat_of_zero_le h0
  show IntKind.u64.wrap (((BitVec.ofInt 64 (N : Int) ^^^ BitVec.ofInt 64 (0 : Int)).toNat : Nat) : Int) = _
  rw [show BitVec.ofInt 64 (0 : Int) = 0#64 from rfl, BitVec.xor_zero, BitVec.ofInt_natCast, BitVec.toNat_ofNat, Nat.mod_eq_of_lt (by omega)]
  exact wrap_u64 (by omega) (by omega)
theorem xor_ones64 (x : Int) (h0 : 0 ≤ x) (h1 : x < 18446744073709551616) : bXor .u64 x 18446744073709551615 = 18446744073709551615 - x := by
  obtain ⟨N, rfl⟩ := Int.eq_ofNat_of_zero_le h0
  show IntKind.u64.wrap (((BitVec.ofInt 64 (N : Int) ^^^ BitVec.ofInt 64 (18446744073709551615 : Int)).toNat : Nat) : Int) = _
  rw [show BitVec.ofInt 64 (18446744073709551615 : Int) = BitVec.allOnes 64 by decide, BitVec.xor_allOnes, BitVec.toNat_not, BitVec.ofInt_natCast, BitVec.toNat_ofNat, Nat.mod_eq_of_lt (by omega)]
  rw [wrap_u64 (by omega) (by omega)]
  omega
theorem shr63 (n : Int) (h0 : -9223372036854775808 ≤ n) (h1 : n < 9223372036854775808) : sShr .i64 n 63 = if n ≥ 0 then 0 else -1 := by
  unfold sShr
  have e : min (63 : Int).toNat IntKind.i64.bits = 63 := by decide
  rw [e, show (2 : Int) ^ 63 = 9223372036854775808 by decide, Int.fdiv_eq_ediv_of_nonneg _ (by omega)]
  split <;> omega
theorem putInt_eq (fu : Nat) (hfu : 12 ≤ fu) (b : List Int) (n : Int) (hl : b.length ≤ 400000) (h0 : -9223372036854775808 ≤ n) (h1 : n < 9223372036854775808) : packPutInt fu b n = some (b ++ putN 9 (zig n), ()) := by
  unfold packPutInt zig
  rw [shr63 n h0 h1]
  have hsh : ∀ x : Int, 0 ≤ x → x < 18446744073709551616 → sShl .u64 x 1 = IntKind.u64.wrap (x * 2) := fun x _ _ => by
    unfold sShl
    have e : min (1 : Int).toNat IntKind.u64.bits = 1 := by decide
    rw [e]
    rfl
  by_cases hn : n ≥ 0
  · have e1 : IntKind.u64.wrap n = n := wrap_u64 (by omega) (by omega)
    have e2 : sShl .u64 n 1 = 2 * n := by rw [hsh n hn (by omega), wrap_u64 (by omega) (by omega)]; omega
    have e3 : IntKind.u64.wrap 0 = 0 := by decide
    simp only [hn, if_true, e1, e2, e3, xor_zero64 (2 * n) (by omega) (by omega), (put_eq fu hfu b (2 * n) hl (by omega) (by omega)).2, Option.bind_some]
  · have e1 : IntKind.u64.wrap n = n + 18446744073709551616 := by
      simp only [IntKind.wrap, IntKind.signed, IntKind.bits]
      simp
      omega
    have e2 : sShl .u64 (n + 18446744073709551616) 1 = 2 * n + 18446744073709551616 := by
      rw [hsh _ (by omega) (by omega)]
      simp only [IntKind.wrap, IntKind.signed, IntKind.bits]
      simp
      omega
    have e3 : IntKind.u64.wrap (-1) = 18446744073709551615 := by decide
    have e4 : (18446744073709551615 : Int) - (2 * n + 18446744073709551616) = -2 * n - 1 := by omega
    simp only [hn, if_false, e1, e2, e3, xor_ones64 (2 * n + 18446744073709551616) (by omega) (by omega), e4, (put_eq fu hfu b (-2 * n - 1) hl (by omega) (by omega)).2, Option.bind_some]
/-- And back. -/
def zag (v : Int) : Int := if v % 2 = 0 then v / 2 else -(v / 2) - 1
theorem and_one (v : Int) (h0 : 0 ≤ v) (h1 : v < 18446744073709551616) : bAnd .u64 v 1 = v % 2 := by
  obtain ⟨N, rfl⟩ := Int.eq_ofNat_of_zero_le h0
  show IntKind.u64.wrap (((BitVec.ofInt 64 (N : Int) &&& BitVec.ofInt 64 (1 : Int)).toNat : Nat) : Int) = _
  rw [show BitVec.ofInt 64 (1 : Int) = 1#64 from rfl, BitVec.toNat_and, BitVec.ofInt_natCast, BitVec.toNat_ofNat, Nat.mod_eq_of_lt (by omega), show (1#64).toNat = 1 from rfl, Nat.and_one_is_mod]
  rw [wrap_u64 (by omega) (by omega)]
  omega
theorem xor_i64_zero (x : Int) (h0 : 0 ≤ x) (h1 : x < 9223372036854775808) : bXor .i64 x 0 = x := by
  obtain ⟨N, rfl⟩ := Int.eq_ofNat_of_zero_le h0
  show IntKind.i64.wrap (((BitVec.ofInt 64 (N : Int) ^^^ BitVec.ofInt 64 (0 : Int)).toNat : Nat) : Int) = _
  rw [show BitVec.ofInt 64 (0 : Int) = 0#64 from rfl, BitVec.xor_zero, BitVec.ofInt_natCast, BitVec.toNat_ofNat, Nat.mod_eq_of_lt (by omega)]
  exact wrap_i64 (by omega) (by omega)
theorem xor_i64_ones (x : Int) (h0 : 0 ≤ x) (h1 : x < 9223372036854775808) : bXor .i64 x (-1) = -x - 1 := by
  obtain ⟨N, rfl⟩ := Int.eq_ofNat_of_zero_le h0
  show IntKind.i64.wrap (((BitVec.ofInt 64 (N : Int) ^^^ BitVec.ofInt 64 (-1 : Int)).toNat : Nat) : Int) = _
  rw [show BitVec.ofInt 64 (-1 : Int) = BitVec.allOnes 64 by decide, BitVec.xor_allOnes, BitVec.toNat_not, BitVec.ofInt_natCast, BitVec.toNat_ofNat, Nat.mod_eq_of_lt (by omega)]
  simp only [IntKind.wrap, IntKind.signed, IntKind.bits]
  simp
  omega
theorem getInt_eq (fu : Nat) (b : List Int) (hb : By b) (hl : b.length ≤ 100000) (hfu : b.length < fu) (at' : Int) : packGetInt fu b at' = some (zag (got b at').1, (got b at').2.1, (got b at').2.2, ()) := by
  unfold packGetInt
  rw [packGet_eq fu b hb hl hfu]
  have hv : 0 ≤ (got b at').1 ∧ (got b at').1 < 18446744073709551616 := by
    generalize hq : got b at' = q
    obtain ⟨v, e, er⟩ := q
    by_cases h0 : er = 0
    · subst h0
      obtain ⟨g1, g2, g3, _⟩ := got_ok hb hq
      exact ⟨g2, g3⟩
    · unfold got at hq
      split at hq
      · cases hq; simp
      · have hz := get1_err (b.drop at'.toNat) 0 0
        unfold from1 at hq
        simp only [Prod.mk.injEq] at hq
        obtain ⟨rfl, _, h3⟩ := hq
        have := (hz (by rw [h3]; exact h0)).1
        rw [this]; omega
  generalize (got b at').1 = v at hv
  simp only [Option.bind_some]
  have e1 : sShr .u64 v 1 = v / 2 := by have := shr_eq v 1 (by omega); simpa using this
  have e2 : IntKind.i64.wrap (v / 2) = v / 2 := wrap_i64 (by omega) (by omega)
  have e3 : IntKind.i64.wrap (v % 2) = v % 2 := wrap_i64 (by omega) (by omega)
  have e4 : IntKind.i64.wrap (0 - v % 2) = 0 - v % 2 := wrap_i64 (by omega) (by omega)
  rw [and_one v hv.1 hv.2, e1, e2, e3, e4]
  unfold zag
  by_cases h : v % 2 = 0
  · rw [if_pos h, h, show (0 : Int) - 0 = 0 by rfl, xor_i64_zero _ (by omega) (by omega)]
  · rw [if_neg h, show v % 2 = 1 by omega, show (0 : Int) - 1 = -1 by rfl, xor_i64_ones _ (by omega) (by omega)]
theorem zag_zig (n : Int) : zag (zig n) = n := by
  unfold zag zig
  split <;> split <;> omega

/-- The document's bits. -/
theorem partsBits_eq (fu : Nat) (n : Int) (h0 : 0 ≤ n) (h1 : n < 18446744073709551616) : ((ref02OfBits fu n).bind fun r => ref02PartsBits fu r.1) = some (canon n.toNat, ()) := by
  unfold ref02OfBits ref02PartsBits ref02PartsNaN canon
  have t1 : Int.tdiv n 4503599627370496 = n / 4503599627370496 := Int.tdiv_eq_ediv_of_nonneg h0
  have t2 : IntKind.u64.wrap (n / 4503599627370496) = n / 4503599627370496 := wrap_u64 (by omega) (by omega)
  have t3 : Int.tmod (n / 4503599627370496) 2048 = n / 4503599627370496 % 2048 := Int.tmod_eq_emod_of_nonneg (by omega)
  have t4 : IntKind.i64.wrap (n / 4503599627370496 % 2048) = n / 4503599627370496 % 2048 := wrap_i64 (by omega) (by omega)
  have t5 : Int.tmod n 4503599627370496 = n % 4503599627370496 := Int.tmod_eq_emod_of_nonneg h0
  have t6 : IntKind.u64.wrap (n / 4503599627370496 % 2048) = n / 4503599627370496 % 2048 := wrap_u64 (by omega) (by omega)
  have t7 : IntKind.u64.wrap (n / 4503599627370496 % 2048 * 4503599627370496) = n / 4503599627370496 % 2048 * 4503599627370496 := wrap_u64 (by omega) (by omega)
  have t8 : IntKind.u64.wrap (n / 4503599627370496 % 2048 * 4503599627370496 + n % 4503599627370496) = n / 4503599627370496 % 2048 * 4503599627370496 + n % 4503599627370496 := wrap_u64 (by omega) (by omega)
  simp only [t1, t2, t3, t4, t5, t6, t7, t8, Option.bind_some]
  have hnan : isNan n.toNat ↔ n / 4503599627370496 % 2048 = 2047 ∧ n % 4503599627370496 ≠ 0 := by
    unfold isNan
    constructor
    · intro h; omega
    · rintro ⟨h1, h2⟩; omega
  by_cases hx : n / 4503599627370496 % 2048 = 2047
  · by_cases hy : n % 4503599627370496 = 0
    · rw [if_neg (fun h => (hnan.1 h).2 hy)]
      simp only [hx, hy, beq_self_eq_true, bne_self_eq_false, cond_true, cond_false, Option.bind_some]
      by_cases hs : n ≥ 9223372036854775808
      · have : IntKind.u64.wrap (2047 * 4503599627370496 + 0 + 9223372036854775808) = n := by rw [wrap_u64 (by omega) (by omega)]; omega
        simp only [hs, decide_true, cond_true, this]
        congr 2; omega
      · simp only [hs, decide_false, cond_false]
        congr 2; omega
    · rw [if_pos (hnan.2 ⟨hx, hy⟩)]
      have hy' : (n % 4503599627370496 != 0) = true := bne_iff_ne.2 hy
      simp only [hx, hy', beq_self_eq_true, cond_true, Option.bind_some]
  · rw [if_neg (fun h => hx (hnan.1 h).1)]
    have hx' : (n / 4503599627370496 % 2048 == 2047) = false := beq_false_of_ne hx
    simp only [hx', cond_false, Option.bind_some]
    by_cases hs : n ≥ 9223372036854775808
    · have : IntKind.u64.wrap (n / 4503599627370496 % 2048 * 4503599627370496 + n % 4503599627370496 + 9223372036854775808) = n := by rw [wrap_u64 (by omega) (by omega)]; omega
      simp only [hs, decide_true, cond_true, this]
      congr 2; omega
    · simp only [hs, decide_false, cond_false]
      congr 2; omega
theorem canon_canon (x : Nat) : canon (canon x).toNat = canon x := by
  unfold canon
  by_cases h : isNan x
  · rw [if_pos h, if_pos (by decide)]
  · rw [if_neg h, Int.toNat_natCast, if_neg h]
theorem putN_by : ∀ (k : Nat) (n : Int), 0 ≤ n → n < 2 * 128 ^ k → By (putN k n) := by
  intro k
  induction k with
  | zero => intro n h0 h1 x hx; simp [putN] at hx; simp at h1; omega
  | succ k ih =>
    intro n h0 h1 x hx
    unfold putN at hx
    split at hx
    · rcases List.mem_cons.1 hx with rfl | hx
      · omega
      · exact ih (n / 128) (by omega) (by rw [Int.pow_succ] at h1; omega) x hx
    · simp at hx; omega
theorem putN_by9 (n : Int) (h0 : 0 ≤ n) (h1 : n < 18446744073709551616) : By (putN 9 n) := by
  have hp : (2 : Int) * 128 ^ 9 = 18446744073709551616 := by decide
  exact putN_by 9 n h0 (by omega)
theorem by_app {a b : List Int} (ha : By a) (hb : By b) : By (a ++ b) := fun x hx => by
  rcases List.mem_append.1 hx with h | h
  · exact ha x h
  · exact hb x h
theorem cut_mid (a s r : List Int) : cutL (a ++ s ++ r) a.length (a.length + s.length) = s := by
  unfold cutL
  rw [List.append_assoc, show (a.length : Int).toNat = a.length by omega, List.drop_left, show ((a.length : Int) + s.length - a.length).toNat = s.length by omega, List.take_left]
theorem u64Of {x : Int} (h : inR .u64 x) : 0 ≤ x ∧ x < 18446744073709551616 := by
  simp [inR, IntKind.min, IntKind.max, IntKind.signed, IntKind.bits] at h
  omega
theorem i64Of {x : Int} (h : inR .i64 x) : -9223372036854775808 ≤ x ∧ x < 9223372036854775808 := by
  simp [inR, IntKind.min, IntKind.max, IntKind.signed, IntKind.bits] at h
  omega
theorem byOf {l : List Int} (h : (Kd.slice (.int .u8)).ok l) : By l := fun x hx => by
  have := h.2 x hx
  simp [Kd.ok, inR, IntKind.min, IntKind.max, IntKind.signed, IntKind.bits] at this
  omega

/-- THE LAW. -/
theorem lawPackBack (a z : List Int) (n i : Int) (s : List Int) (bits : Int) (h : okAll law03PackBack.con.ps (a, z, n, i, s, bits, ())) : law03PackBack 6000 a z n i s bits = some (true, ()) := by
  have fixed : law03Fixed 6000 = some (true, ()) := by kernel_rfl
  unfold law03PackBack
  by_cases h1 : (a.length : Int) > 1000
  · simp only [h1, decide_true, cond_true, fixed, Option.bind_some]
  by_cases h2 : (z.length : Int) > 1000
  · simp only [h1, h2, decide_true, decide_false, cond_true, cond_false, fixed, Option.bind_some]
  by_cases h3 : (s.length : Int) > 1000
  · simp only [h1, h2, h3, decide_true, decide_false, cond_true, cond_false, fixed, Option.bind_some]
  have ha := byOf h.1
  have hz := byOf h.2.1
  have hn : 0 ≤ n ∧ n < 18446744073709551616 := u64Of h.2.2.1
  have hi : -9223372036854775808 ≤ i ∧ i < 9223372036854775808 := i64Of h.2.2.2.1
  have hs : By s := h.2.2.2.2.1.2
  have hbits : 0 ≤ bits ∧ bits < 18446744073709551616 := u64Of h.2.2.2.2.2.1
  clear h
  have hx : bits.toNat < 18446744073709551616 := by omega
  generalize hxe : bits.toNat = x at hx
  have ef : extFrom.f 6000 (bits, ()) = some (x, ()) := by rw [← hxe]; rfl
  have hzig : 0 ≤ zig i ∧ zig i < 18446744073709551616 := by unfold zig; split <;> omega
  have l1 := putN_len 9 n
  have l2 := putN_len 9 (zig i)
  have l3 := putN_len 9 s.length
  have hcan := canon_fits x hx
  simp only [h1, h2, h3, decide_false, cond_false]
  rw [ef]
  show (packPut 6000 a n).bind _ = _
  rw [(put_eq 6000 (by omega) a n (by omega) hn.1 hn.2).1]
  simp only [Option.bind_some]
  rw [putInt_eq 6000 (by omega) (a ++ putN 9 n) i (by simp; omega) hi.1 hi.2]
  simp only [Option.bind_some]
  rw [putText_eq 6000 (by omega) _ s (by simp; omega) (by omega)]
  simp only [Option.bind_some]
  rw [show (6000 : Nat) = 5991 + 9 from rfl, (putReal_eq 5991 _ x (by simp; omega) hx).2]
  simp only [Option.bind_some, show (5991 + 9 : Nat) = 6000 from rfl]
  generalize hw : bytes8 (canon x) = w
  have hwl : w.length = 8 := by rw [← hw]; rfl
  have hwb : By w := by rw [← hw]; exact bytes8_by _
  have b1 := putN_by9 n hn.1 hn.2
  have b2 := putN_by9 (zig i) hzig.1 hzig.2
  have b3 := putN_by9 s.length (by omega) (by omega)
  generalize hB : a ++ putN 9 n ++ putN 9 (zig i) ++ putN 9 s.length ++ s ++ w ++ z = B
  have hBb : By B := by rw [← hB]; exact by_app (by_app (by_app (by_app (by_app (by_app ha b1) b2) b3) hs) hwb) hz
  have hBl : B.length = a.length + (putN 9 n).length + (putN 9 (zig i)).length + (putN 9 s.length).length + s.length + 8 + z.length := by rw [← hB]; simp only [List.length_append, hwl]
  have g1 : got B a.length = (n, ((a.length : Int) + (putN 9 n).length : Int), 0) := by
    rw [← hB]
    have := got_put a (putN 9 (zig i) ++ putN 9 s.length ++ s ++ w ++ z) n hn.1 hn.2
    simpa only [List.append_assoc] using this
  have g2 : got B ((a.length : Int) + (putN 9 n).length) = (zig i, ((a.length : Int) + (putN 9 n).length + (putN 9 (zig i)).length : Int), 0) := by
    rw [← hB]
    have := got_put (a ++ putN 9 n) (putN 9 s.length ++ s ++ w ++ z) (zig i) hzig.1 hzig.2
    rw [List.length_append] at this
    push_cast at this
    simpa only [List.append_assoc] using this
  have g3 : got B ((a.length : Int) + (putN 9 n).length + (putN 9 (zig i)).length) = ((s.length : Int), ((a.length : Int) + (putN 9 n).length + (putN 9 (zig i)).length + (putN 9 s.length).length : Int), 0) := by
    rw [← hB]
    have := got_put (a ++ putN 9 n ++ putN 9 (zig i)) (s ++ w ++ z) s.length (by omega) (by omega)
    rw [List.length_append, List.length_append] at this
    push_cast at this
    simpa only [List.append_assoc] using this
  have g4 : text1 B ((a.length : Int) + (putN 9 n).length + (putN 9 (zig i)).length) s.length = (s, ((a.length : Int) + (putN 9 n).length + (putN 9 (zig i)).length + (putN 9 s.length).length + s.length : Int), 0) := by
    unfold text1
    rw [g3]
    simp only [ne_eq, not_true_eq_false, if_false]
    rw [if_neg (by omega), if_neg (by omega)]
    have := cut_mid (a ++ putN 9 n ++ putN 9 (zig i) ++ putN 9 s.length) s (w ++ z)
    rw [← List.append_assoc, hB] at this
    simp only [List.length_append] at this
    push_cast at this
    rw [this]
  have g5 : real1 B ((a.length : Int) + (putN 9 n).length + (putN 9 (zig i)).length + (putN 9 s.length).length + s.length) = ((canon x).toNat, ((a.length : Int) + (putN 9 n).length + (putN 9 (zig i)).length + (putN 9 s.length).length + s.length + 8 : Int), 0) := by
    unfold real1
    have := cut_mid (a ++ putN 9 n ++ putN 9 (zig i) ++ putN 9 s.length ++ s) w z
    rw [hB] at this
    simp only [List.length_append, hwl] at this
    push_cast at this
    rw [if_neg (by omega), this, ← hw, be_bytes8 _ hcan.1 hcan.2, if_pos (by rw [canon_canon])]
  have eap : apOk (a ++ putN 9 n ++ putN 9 (zig i) ++ putN 9 s.length ++ s ++ w) z 1 = true := apOk1 (by simp only [List.length_append, hwl]; omega)
  simp only [eap, chk, cond_true]
  rw [packGet_eq 6000 B hBb (by omega) (by omega), g1]
  simp only [Option.bind_some]
  rw [getInt_eq 6000 B hBb (by omega) (by omega), g2]
  simp only [Option.bind_some]
  rw [getText_eq 6000 B hBb (by omega) (by omega) _ s.length (by omega), g4]
  simp only [Option.bind_some]
  rw [getReal_eq 6000 (by omega) B hBb (by omega), g5, fixed]
  have hcx : (canon x).toNat < 18446744073709551616 := by omega
  have of : ∀ y : Nat, y < 18446744073709551616 → ((ref02Of 6000 y).bind fun r17 => ref02PartsBits 6000 r17.1) = some (canon y, ()) := fun y hy => by
    have := partsBits_eq 6000 (y : Int) (by omega) (by omega)
    rw [Int.toNat_natCast] at this
    rw [← this]
    unfold ref02Of
    have e : extBits.f 6000 (y, ()) = some ((y : Int), ()) := by
      show (match decide (y < 18446744073709551616) with | true => some ((y : Int), ()) | false => none) = _
      rw [decide_eq_true hy]
    rw [e]
    rfl
  obtain ⟨p1, hp1⟩ : ∃ p, ref02Of 6000 (canon x).toNat = some p := by
    cases hh : ref02Of 6000 (canon x).toNat with
    | some p => exact ⟨p, rfl⟩
    | none => have := of _ hcx; rw [hh] at this; cases this
  obtain ⟨p2, hp2⟩ : ∃ p, ref02Of 6000 x = some p := by
    cases hh : ref02Of 6000 x with
    | some p => exact ⟨p, rfl⟩
    | none => have := of _ hx; rw [hh] at this; cases this
  have q1 : ref02PartsBits 6000 p1.1 = some (canon (canon x).toNat, ()) := by have := of _ hcx; rw [hp1] at this; exact this
  have q2 : ref02PartsBits 6000 p2.1 = some (canon x, ()) := by have := of _ hx; rw [hp2] at this; exact this
  simp only [Option.bind_some, cond_true, beq_self_eq_true, zag_zig, hp1, hp2, q1, q2, canon_canon]
  simp only [List.length_append, hwl]
  refine congrArg (fun q : Bool => some (q, ())) ?_
  rw [beq_iff_eq]
  simp only [Int.natCast_add]
  rfl
theorem ref_rounds (fu : Nat) (k1 : Int → Int → Int → Option (Int × Int × Int × Unit)) (b : List Int) (hb : By b) (hl : b.length ≤ 100000) (A : Nat) (hA : A ≤ b.length) : ∀ (m i : Nat) (n : Int), A + i ≤ b.length → b.length < A + i + m → i ≤ 9 → 0 ≤ n → n < 128 ^ i →
    ref03Get.l6 fu k1 m b A n (128 ^ i) i = fin1 k1 (fun _ => k1 0 0 3) A (get1 (b.drop (A + i)) i n) := by
  intro m
  induction m with
  | zero => intro i n h1 h2; omega
  | succ m ih =>
    intro i n h1 h2 hi9 hn0 hn
    unfold ref03Get.l6 ref03Get.b6
    have e0 : IntKind.i64.wrap ((A : Int) + i) = (A + i : Nat) := by rw [wrap_i64 (by omega) (by omega)]; omega
    by_cases hil : A + i < b.length
    · have hd : decide (((A + i : Nat) : Int) ≥ b.length) = false := decide_eq_false (by omega)
      have hix : ixOk b ((A + i : Nat) : Int) = true := by simp [ixOk]; omega
      have e1 : IntKind.i64.wrap ((i : Int) + 1) = (i + 1 : Nat) := wrap_i64 (by omega) (by omega)
      rw [List.drop_eq_getElem_cons hil]
      have hc := hb _ (List.getElem_mem hil)
      simp only [e0, hd, cond_false, chk, hix, cond_true, ixL_get hil]
      generalize b[A + i] = c at hc
      have hp := pow128_9 hi9
      have hle : ∀ q : Int, 0 ≤ q → q ≤ 127 → (i = 9 → q ≤ 1) → q * 128 ^ i + n < 18446744073709551616 := fun q h0 h1 h9 => by
        rcases Nat.lt_or_ge i 9 with h | h
        · have h8 : (128 : Int) ^ i ≤ 72057594037927936 := by
            have h1 : 128 ^ i ≤ 128 ^ 8 := Nat.pow_le_pow_right (by omega) (by omega)
            have e : (128 : Int) ^ i = ((128 ^ i : Nat) : Int) := by norm_cast
            rw [e]
            have : (128 : Nat) ^ 8 = 72057594037927936 := by decide
            omega
          have : q * 128 ^ i ≤ 127 * 72057594037927936 := Int.mul_le_mul h1 h8 (by omega) (by omega)
          omega
        · have : i = 9 := by omega
          subst this
          have := h9 rfl
          have : q * 128 ^ 9 ≤ 1 * 9223372036854775808 := Int.mul_le_mul this (by decide) (by decide) (by omega)
          omega
      have j11 : (i = 9 → c ≤ 1) → ∀ (K0 : List Int → Int → Int → Int → Int → Option (Int × Int × Int × Unit)) (K1 : Int → Int → Int → Option (Int × Int × Int × Unit)), ref03Get.j11 fu K0 K1 b A n (128 ^ i) i c = (if c ≥ 128 then K0 b A (n + (c - 128) * 128 ^ i) (128 ^ (i + 1)) (i + 1 : Nat) else if c = 0 ∧ i > 0 then K1 0 0 2 else K1 (n + c * 128 ^ i) (A + ((i : Int) + 1)) 0) := by
        intro h9 K0 K1
        unfold ref03Get.j11
        have e2 : Int.tmod c 128 = c % 128 := Int.tmod_eq_emod_of_nonneg hc.1
        have e3 : IntKind.u64.wrap (c % 128) = c % 128 := wrap_u64 (by omega) (by omega)
        have hq := hle (c % 128) (by omega) (by omega) (fun h => by have := h9 h; omega)
        have hnn : 0 ≤ (c % 128) * 128 ^ i := Int.mul_nonneg (by omega) (by omega)
        have e4 : IntKind.u64.wrap (c % 128 * 128 ^ i) = c % 128 * 128 ^ i := wrap_u64 hnn (by omega)
        have e5 : IntKind.u64.wrap (n + c % 128 * 128 ^ i) = n + c % 128 * 128 ^ i := wrap_u64 (by omega) (by omega)
        have e7 : IntKind.i64.wrap ((A : Int) + ((i + 1 : Nat) : Int)) = A + ((i : Int) + 1) := by rw [wrap_i64 (by omega) (by omega)]; omega
        simp only [e2, e3, e4, e5, e1, e7]
        by_cases h128 : c ≥ 128
        · have hlt : ¬ c < 128 := by omega
          have hi8 : i ≤ 8 := by
            rcases Nat.lt_or_ge i 9 with h | h
            · omega
            · have := h9 (by omega); omega
          have e8 : IntKind.u64.wrap (128 ^ i * 128) = 128 ^ (i + 1) := by
            rw [Int.pow_succ]
            have h8 : (128 : Int) ^ i ≤ 72057594037927936 := by
              have h1 : 128 ^ i ≤ 128 ^ 8 := Nat.pow_le_pow_right (by omega) (by omega)
              have e : (128 : Int) ^ i = ((128 ^ i : Nat) : Int) := by norm_cast
              rw [e]
              have : (128 : Nat) ^ 8 = 72057594037927936 := by decide
              omega
            exact wrap_u64 (by omega) (by omega)
          have : c % 128 = c - 128 := by omega
          simp only [hlt, decide_false, cond_false, e8, this, if_pos h128]
        · have hlt : c < 128 := by omega
          have : c % 128 = c := by omega
          simp only [hlt, decide_true, cond_true, this, if_neg h128]
          by_cases h0 : c = 0
          · subst h0
            by_cases hi0 : i > 0
            · have hd1 : decide (((i + 1 : Nat) : Int) > 1) = true := decide_eq_true (by omega)
              simp only [beq_self_eq_true, cond_true, hd1, hi0, and_self, if_true]
            · have hd1 : decide (((i + 1 : Nat) : Int) > 1) = false := decide_eq_false (by omega)
              simp only [beq_self_eq_true, cond_true, hd1, cond_false, hi0, and_false, if_false]
          · have h0' : (c == 0) = false := beq_false_of_ne h0
            simp only [h0', cond_false, h0, false_and, if_false]
      unfold get1
      by_cases h9 : i = 9 ∧ c > 1
      · have h9' : ((i : Int) == 9) = true := by rw [h9.1]; rfl
        have h1' : decide (c > 1) = true := decide_eq_true h9.2
        simp [h9', h1', if_pos h9, fin1]
      · have hside : i = 9 → c ≤ 1 := fun h => by
          by_cases hx : c > 1
          · exact absurd ⟨h, hx⟩ h9
          · omega
        rw [if_neg h9]
        have both : ∀ X Y : Option (Int × Int × Int × Unit), (cond ((i : Int) == 9) (cond (decide (c > 1)) X Y) Y) = Y := fun X Y => by
          cases hx : ((i : Int) == 9) with
          | false => rfl
          | true =>
            have : c ≤ 1 := hside (by have := eq_of_beq hx; omega)
            have hd : decide (c > 1) = false := decide_eq_false (by omega)
            simp only [cond_true, hd, cond_false]
        rw [j11 hside, both]
        by_cases h128 : c ≥ 128
        · have hi8 : i ≤ 8 := by
            rcases Nat.lt_or_ge i 9 with h | h
            · omega
            · have := hside (by omega); omega
          rw [if_pos h128, if_pos h128]
          have hq : (c - 128) * 128 ^ i + n < 128 ^ (i + 1) := by
            rw [Int.pow_succ]
            have : (c - 128) * 128 ^ i ≤ 127 * 128 ^ i := Int.mul_le_mul_of_nonneg_right (by omega) (by omega)
            omega
          exact ih (i + 1) _ (by omega) (by omega) (by omega) (by have : 0 ≤ (c - 128) * 128 ^ i := Int.mul_nonneg (by omega) (by omega); omega) (by omega)
        · rw [if_neg h128, if_neg h128]
          by_cases h0 : c = 0 ∧ i > 0
          · rw [if_pos h0, if_pos h0]; simp [fin1]
          · rw [if_neg h0, if_neg h0]; simp [fin1]
    · have hd : decide (((A + i : Nat) : Int) ≥ b.length) = true := decide_eq_true (by omega)
      rw [List.drop_of_length_le (by omega)]
      simp only [e0, hd, cond_true]
      simp [get1, fin1]
theorem refGet_eq (fu : Nat) (b : List Int) (hb : By b) (hl : b.length ≤ 100000) (hfu : b.length < fu) (at' : Int) : ref03Get fu b at' = some ((got b at').1, (got b at').2.1, (got b at').2.2, ()) := by
  unfold ref03Get got
  by_cases h1 : at' < 0
  · simp [h1]
  · by_cases h2 : at' > b.length
    · simp [h1, h2]
    · obtain ⟨A, rfl⟩ := Int.eq_ofNat_of_zero_le (show 0 ≤ at' by omega)
      have := ref_rounds fu (fun a c d => some (a, c, d, ())) b hb hl A (by omega) fu 0 0 (by omega) (by omega) (by omega) (by omega) (by simp)
      simp only [h1, h2, or_self, if_false, decide_false, cond_false]
      refine this.trans ?_
      simp only [Nat.add_zero, Int.toNat_natCast]
      generalize hq : get1 (b.drop A) 0 0 = q
      unfold fin1 from1
      by_cases h0 : q.2.2 = 0
      · simp [h0]
      · have hz := get1_err (b.drop A) 0 0
        rw [hq] at hz
        by_cases h3 : q.2.2 = 3
        · simp [h3, hz h0]
        · simp [h0, h3, hz h0]
theorem got_v {b : List Int} (hb : By b) (at' : Int) : 0 ≤ (got b at').1 ∧ (got b at').1 < 18446744073709551616 := by
  generalize hq : got b at' = q
  obtain ⟨v, e, er⟩ := q
  by_cases h0 : er = 0
  · subst h0
    obtain ⟨g1, g2, g3, _⟩ := got_ok hb hq
    exact ⟨g2, g3⟩
  · unfold got at hq
    split at hq
    · cases hq; simp
    · have hz := get1_err (b.drop at'.toNat) 0 0
      unfold from1 at hq
      simp only [Prod.mk.injEq] at hq
      obtain ⟨rfl, _, h3⟩ := hq
      have := (hz (by rw [h3]; exact h0)).1
      show 0 ≤ (get1 (b.drop at'.toNat) 0 0).1 ∧ _
      rw [this]; omega
theorem refGetInt_eq (fu : Nat) (b : List Int) (hb : By b) (hl : b.length ≤ 100000) (hfu : b.length < fu) (at' : Int) : ref03GetInt fu b at' = some (zag (got b at').1, (got b at').2.1, (got b at').2.2, ()) := by
  unfold ref03GetInt
  rw [refGet_eq fu b hb hl hfu]
  have hv := got_v hb at'
  generalize (got b at').1 = v at hv
  have e1 : Int.tmod v 2 = v % 2 := Int.tmod_eq_emod_of_nonneg hv.1
  have e2 : Int.tdiv v 2 = v / 2 := Int.tdiv_eq_ediv_of_nonneg hv.1
  have e3 : IntKind.u64.wrap (v / 2) = v / 2 := wrap_u64 (by omega) (by omega)
  have e4 : IntKind.i64.wrap (v / 2) = v / 2 := wrap_i64 (by omega) (by omega)
  have e5 : IntKind.i64.wrap (0 - v / 2) = 0 - v / 2 := wrap_i64 (by omega) (by omega)
  have e6 : IntKind.i64.wrap (0 - v / 2 - 1) = 0 - v / 2 - 1 := wrap_i64 (by omega) (by omega)
  simp only [Option.bind_some, e1, e2, e3, e4, e5, e6]
  unfold zag
  by_cases h : v % 2 = 0
  · simp [h]
  · have h' : (v % 2 == 0) = false := beq_false_of_ne h
    simp only [h', cond_false, if_neg h]
    congr 2
    omega
theorem refGetText_eq (fu : Nat) (b : List Int) (hb : By b) (hl : b.length ≤ 100000) (hfu : b.length < fu) (at' most : Int) (hm : -9223372036854775808 ≤ most ∧ most < 9223372036854775808) : ref03GetText fu b at' most = some ((text1 b at' most).1, (text1 b at' most).2.1, (text1 b at' most).2.2, ()) := by
  unfold ref03GetText text1
  rw [refGet_eq fu b hb hl hfu]
  generalize hq : got b at' = q
  obtain ⟨v, e, er⟩ := q
  simp only [Option.bind_some]
  by_cases h : er = 0
  · subst h
    obtain ⟨g1, g2, g3, j, g4, g5, g6, g7⟩ := got_ok hb hq
    have key : ∀ mm : Int, mm = max most 0 → ref03GetText.j6 fu (fun a c d => some (a, c, d, ())) b mm v e = some ((if v > max most 0 then (([] : List Int), (0 : Int), (4 : Int)) else if v > b.length - e then ([], 0, 3) else (cutL b e (e + v), e + v, 0)).1, (if v > max most 0 then (([] : List Int), (0 : Int), (4 : Int)) else if v > b.length - e then ([], 0, 3) else (cutL b e (e + v), e + v, 0)).2.1, (if v > max most 0 then (([] : List Int), (0 : Int), (4 : Int)) else if v > b.length - e then ([], 0, 3) else (cutL b e (e + v), e + v, 0)).2.2, ()) := fun mm hmm => by
      unfold ref03GetText.j6
      have e1 : IntKind.u64.wrap mm = max most 0 := by rw [hmm]; exact wrap_u64 (by omega) (by omega)
      have e2 : IntKind.u64.wrap (b.length : Int) = b.length := wrap_u64 (by omega) (by omega)
      have e3 : IntKind.i64.wrap ((b.length : Int) - e) = b.length - e := wrap_i64 (by omega) (by omega)
      simp only [e1, e2, e3]
      by_cases h1 : v > max most 0
      · simp [h1]
      · by_cases h2 : v > b.length
        · have h2' : v > b.length - e := by omega
          simp only [h1, h2, h2', decide_false, decide_true, cond_false, cond_true, if_false, if_true]
        · have e4 : IntKind.i64.wrap v = v := wrap_i64 (by omega) (by omega)
          have e5 : IntKind.i64.wrap (e + v) = e + v := wrap_i64 (by omega) (by omega)
          by_cases h3 : v > b.length - e
          · simp only [h1, h2, h3, e4, decide_false, decide_true, cond_false, cond_true, if_false, if_true]
          · simp only [h1, h2, h3, e4, e5, decide_false, cond_false, if_false, cutOk_of (show 0 ≤ e by omega) (show e ≤ e + v by omega) (show e + v ≤ b.length by omega), chk, cond_true]
    simp only [bne_self_eq_false, cond_false, ne_eq, not_true_eq_false, if_false]
    by_cases hlt : most < 0
    · simp only [hlt, decide_true, cond_true]
      exact key 0 (by omega)
    · simp only [hlt, decide_false, cond_false]
      exact key most (by omega)
  · have h' : (er != 0) = true := bne_iff_ne.2 h
    simp [h, h']
theorem refReal_rounds (fu : Nat) (k2 : Int → Int → Option (Nat × Int × Int × Unit)) (b : List Int) (hb : By b) (hl : b.length ≤ 100000) (A : Nat) (hA : A + 8 ≤ b.length) : ∀ (m i : Nat) (n : Int), i ≤ 8 → 8 < i + m → 0 ≤ n → n < 256 ^ i →
    ref03GetReal.l5 fu k2 m b A n i = k2 A (be ((cutL b A (A + 8 : Nat)).drop i) n) := by
  intro m
  have hlen : (cutL b (A : Int) ((A + 8 : Nat) : Int)).length = 8 := by rw [cut_len (by omega) (by omega) (by omega)]; omega
  induction m with
  | zero => intro i n h1 h2; omega
  | succ m ih =>
    intro i n h1 h2 h3 h4
    unfold ref03GetReal.l5 ref03GetReal.b5
    by_cases hi : i < 8
    · have hi' : (i : Int) < 8 := by omega
      have hil : A + i < b.length := by omega
      have hix : ixOk b ((A + i : Nat) : Int) = true := by simp [ixOk]; omega
      have hc := hb _ (List.getElem_mem hil)
      have e0 : IntKind.i64.wrap ((A : Int) + i) = (A + i : Nat) := by rw [wrap_i64 (by omega) (by omega)]; omega
      have e1 : IntKind.i64.wrap ((i : Int) + 1) = (i + 1 : Nat) := wrap_i64 (by omega) (by omega)
      have hp : (256 : Int) ^ i ≤ 72057594037927936 := by
        have h1 : 256 ^ i ≤ 256 ^ 7 := Nat.pow_le_pow_right (by omega) (by omega)
        have e : (256 : Int) ^ i = ((256 ^ i : Nat) : Int) := by rw [Int.natCast_pow]; rfl
        rw [e]
        have : (256 : Nat) ^ 7 = 72057594037927936 := by decide
        omega
      have hget : (cutL b (A : Int) ((A + 8 : Nat) : Int))[i]'(by omega) = b[A + i] := by
        unfold cutL
        rw [List.getElem_take, List.getElem_drop]
        simp only [Int.toNat_natCast]
      rw [List.drop_eq_getElem_cons (by omega), hget]
      simp only [hi', decide_true, cond_true, e0, chk, hix, ixL_get hil, e1]
      generalize b[A + i] = c at hc
      have e2 : IntKind.u64.wrap (n * 256) = n * 256 := wrap_u64 (by omega) (by omega)
      have e3 : IntKind.u64.wrap c = c := wrap_u64 (by omega) (by omega)
      have e4 : IntKind.u64.wrap (n * 256 + c) = n * 256 + c := wrap_u64 (by omega) (by omega)
      rw [e2, e3, e4, ih (i + 1) (n * 256 + c) (by omega) (by omega) (by omega) (by rw [Int.pow_succ]; omega)]
      rfl
    · have : i = 8 := by omega
      subst this
      rw [List.drop_of_length_le (by omega)]
      simp [be]
theorem refGetReal_eq (fu : Nat) (hfu : 10 ≤ fu) (b : List Int) (hb : By b) (hl : b.length ≤ 100000) (at' : Int) : ref03GetReal fu b at' = some ((real1 b at').1, (real1 b at').2.1, (real1 b at').2.2, ()) := by
  unfold ref03GetReal real1
  by_cases h1 : at' < 0
  · simp [h1]
  · have e1 : IntKind.i64.wrap ((b.length : Int) - 8) = b.length - 8 := wrap_i64 (by omega) (by omega)
    by_cases h2 : at' > b.length - 8
    · simp [h1, e1, h2]
    · obtain ⟨A, rfl⟩ := Int.eq_ofNat_of_zero_le (show 0 ≤ at' by omega)
      have e2 : IntKind.i64.wrap ((A : Int) + 8) = A + 8 := wrap_i64 (by omega) (by omega)
      have hlen : (cutL b A (A + 8)).length = 8 := by rw [cut_len (by omega) (by omega) (by omega)]; omega
      have hby : By (cutL b A (A + 8)) := by_cut hb _ _
      have hu := be_u64 hby hlen
      simp only [h1, h2, e1, decide_false, cond_false, or_self, if_false]
      have := refReal_rounds fu (fun atvq2 nq2 =>
          (ref02OfBits fu nq2).bind fun r2 =>
          (ref02PartsBits fu r2.1).bind fun r3 =>
          cond (r3.1 != nq2) (
            some ((0 : Nat), (0 : Int), (2 : Int), ())) (
            (extFrom.f fu (nq2, ())).bind fun r4 =>
            let t5 := IntKind.i64.wrap (atvq2 + (8 : Int))
            some (r4.1, t5, (0 : Int), ()))) b hb hl A (by omega) fu 0 0 (by omega) (by omega) (by omega) (by simp)
      refine this.trans ?_
      rw [List.drop_zero, show ((A + 8 : Nat) : Int) = (A : Int) + 8 from rfl]
      generalize be (cutL b A (A + 8)) 0 = n at hu
      have hpb := partsBits_eq fu n hu.1 hu.2
      obtain ⟨p, hp⟩ : ∃ p, ref02OfBits fu n = some p := ⟨_, rfl⟩
      rw [hp] at hpb ⊢
      have hpb : ref02PartsBits fu p.1 = some (canon n.toNat, ()) := hpb
      simp only [Option.bind_some, hpb, e2]
      by_cases h3 : canon n.toNat = n
      · have h3' : (canon n.toNat != n) = false := by rw [h3]; exact bne_self_eq_false _
        rw [if_pos h3, h3']; rfl
      · have h3' : (canon n.toNat != n) = true := bne_iff_ne.2 h3
        rw [if_neg h3, h3']; rfl

/-- THE LAW. -/
theorem lawPackGets (b : List Int) (at' most : Int) (h : okAll law03PackGets.con.ps (b, at', most, ())) : law03PackGets 3000 b at' most = some (true, ()) := by
  unfold law03PackGets
  by_cases hl : (b.length : Int) > 2000
  · simp only [hl, decide_true, cond_true, fixed03, Option.bind_some]
  · have hb := byOf h.1
    have hm : -9223372036854775808 ≤ most ∧ most < 9223372036854775808 := i64Of h.2.2.1
    simp only [hl, decide_false, cond_false]
    rw [packGet_eq 3000 b hb (by omega) (by omega), refGet_eq 3000 b hb (by omega) (by omega)]
    simp only [Option.bind_some, bne_self_eq_false, cond_false]
    rw [getInt_eq 3000 b hb (by omega) (by omega), refGetInt_eq 3000 b hb (by omega) (by omega)]
    simp only [Option.bind_some, bne_self_eq_false, cond_false]
    rw [getText_eq 3000 b hb (by omega) (by omega) _ _ hm, refGetText_eq 3000 b hb (by omega) (by omega) _ _ hm]
    simp only [Option.bind_some, bne_self_eq_false, cond_false]
    rw [getReal_eq 3000 (by omega) b hb (by omega), refGetReal_eq 3000 (by omega) b hb (by omega), fixed03]
    have hx : (real1 b at').1 < 18446744073709551616 := by
      generalize hq : real1 b at' = q
      obtain ⟨x, e, er⟩ := q
      by_cases h0 : er = 0
      · subst h0; exact (real_ok hb hq).2.2.2.1
      · unfold real1 at hq
        split at hq
        · cases hq; decide
        · split at hq
          · cases hq; exact absurd rfl h0
          · cases hq; decide
    generalize (real1 b at').1 = x at hx
    have e : extBits.f 3000 (x, ()) = some ((x : Int), ()) := by
      show (match decide (x < 18446744073709551616) with | true => some ((x : Int), ()) | false => none) = _
      rw [decide_eq_true hx]
    simp only [Option.bind_some, cond_true]
    rw [e]
    show cond ((x : Int) == (x : Int)) _ _ = _
    simp only [beq_self_eq_true, cond_true]
end Go.Shal.Pr
