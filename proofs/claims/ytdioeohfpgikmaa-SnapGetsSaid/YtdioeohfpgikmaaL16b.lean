/- The plain laws of states' writing and reading: what the printed functions compute is the document's. No condition but that the arguments fit their types. By an AI agent. -/
import Derived.Test.YtdioeohfpgikmaaGen16
set_option linter.unusedVariables false
namespace Go.Shal.Pr
open Go Go.Shal Go.Proofs
theorem wrap_u64 {x : Int} (h0 : 0 ≤ x) (h1 : x < 18446744073709551616) : IntKind.u64.wrap x = x := by
  simp only [IntKind.wrap, IntKind.signed, IntKind.bits]
  simp
  omega
theorem wrap_i64 {x : Int} (h0 : -9223372036854775808 ≤ x) (h1 : x < 9223372036854775808) : IntKind.i64.wrap x = x := by
  simp only [IntKind.wrap, IntKind.signed, IntKind.bits]
  simp
  omega
theorem wrap_u8 (x : Int) : IntKind.u8.wrap x = x % 256 := by
  simp only [IntKind.wrap, IntKind.signed, IntKind.bits]
  simp
theorem min2_eq (x y : Int) : min2 x y = min x y := by unfold min2; split <;> omega
theorem max2_eq (x y : Int) : max2 x y = max x y := by unfold max2; split <;> omega
def By (l : List Int) : Prop := ∀ b ∈ l, (0 : Int) ≤ b ∧ b ≤ 255
theorem by_tail {c : Int} {l : List Int} (h : By (c :: l)) : By l := fun b hb => h b (List.mem_cons_of_mem _ hb)
theorem by_cut {l : List Int} (h : By l) (a e : Int) : By (cutL l a e) := fun b hb => h b (List.mem_of_mem_drop (List.mem_of_mem_take hb))
theorem or_add (n a : Nat) (k : Nat) (h : n < 2 ^ k) (ht : n + a * 2 ^ k < 18446744073709551616) : bOr .u64 (n : Int) ((a * 2 ^ k : Nat) : Int) = (n + a * 2 ^ k : Nat) := by
  show IntKind.u64.wrap (((BitVec.ofInt 64 (n : Int) ||| BitVec.ofInt 64 ((a * 2 ^ k : Nat) : Int)).toNat : Nat) : Int) = _
  rw [BitVec.ofInt_natCast, BitVec.ofInt_natCast]
  have h1 : n < 2 ^ 64 := by omega
  have h2 : a * 2 ^ k < 2 ^ 64 := by omega
  rw [BitVec.toNat_or, BitVec.toNat_ofNat, BitVec.toNat_ofNat, Nat.mod_eq_of_lt h1, Nat.mod_eq_of_lt h2, Nat.or_comm, Nat.mul_comm a, ← Nat.two_pow_add_eq_or_of_lt h]
  rw [Nat.mul_comm a] at ht
  rw [wrap_u64 (by omega) (by omega)]
  omega
theorem shl_eq (x : Int) (k : Nat) (hk : k < 64) (h0 : 0 ≤ x) (h : x * 2 ^ k < 18446744073709551616) : sShl .u64 x (k : Int) = x * 2 ^ k := by
  unfold sShl
  have e : min (k : Int).toNat IntKind.u64.bits = k := by simp only [IntKind.bits]; omega
  rw [e]
  exact wrap_u64 (Int.mul_nonneg h0 (by exact_mod_cast Nat.zero_le _)) h
theorem shr_eq (x : Int) (k : Nat) (hk : k < 64) : sShr .u64 x (k : Int) = x / 2 ^ k := by
  unfold sShr
  have e : min (k : Int).toNat IntKind.u64.bits = k := by simp only [IntKind.bits]; omega
  rw [e, Int.fdiv_eq_ediv_of_nonneg]
  exact_mod_cast Nat.zero_le _
theorem byte_or (c : Int) (h0 : 0 ≤ c) (h : c ≤ 255) : bOr .u8 c 128 = c % 128 + 128 := by
  have key : ∀ m : Fin 256, bOr .u8 (m.val : Int) 128 = (m.val : Int) % 128 + 128 := by decide +kernel
  have := key ⟨c.toNat, by omega⟩
  simp only at this
  rw [show (c.toNat : Int) = c by omega] at this
  exact this
theorem byte_and (c : Int) (h0 : 0 ≤ c) (h : c ≤ 255) : bAnd .u8 c 127 = c % 128 := by
  have key : ∀ m : Fin 256, bAnd .u8 (m.val : Int) 127 = (m.val : Int) % 128 := by decide +kernel
  have := key ⟨c.toNat, by omega⟩
  simp only at this
  rw [show (c.toNat : Int) = c by omega] at this
  exact this
def get1 : List Int → Nat → Int → Int × Int × Int
  | [], _, _ => (0, 0, 3)
  | c :: r, i, n => if i = 9 ∧ c > 1 then (0, 0, 4) else if c ≥ 128 then get1 r (i + 1) (n + (c - 128) * 128 ^ i) else if c = 0 ∧ i > 0 then (0, 0, 2) else (n + c * 128 ^ i, (i : Int) + 1, 0)
def from1 (at' : Int) (q : Int × Int × Int) : Int × Int × Int := (q.1, if q.2.2 = 0 then at' + q.2.1 else 0, q.2.2)
def got (b : List Int) (at' : Int) : Int × Int × Int := if at' < 0 ∨ at' > b.length then (0, 0, 3) else from1 at' (get1 (b.drop at'.toNat) 0 0)
theorem pow128 (i : Nat) : (128 : Int) ^ i = ((2 ^ (7 * i) : Nat) : Int) := by
  rw [Nat.pow_mul]; norm_cast
theorem pow128_9 {i : Nat} (h : i ≤ 9) : (1 : Int) ≤ 128 ^ i ∧ (128 : Int) ^ i ≤ 9223372036854775808 := by
  have h1 : 128 ^ i ≤ 128 ^ 9 := Nat.pow_le_pow_right (by omega) h
  have h0 : 0 < 128 ^ i := Nat.pow_pos (by omega)
  have e : (128 : Int) ^ i = ((128 ^ i : Nat) : Int) := by norm_cast
  rw [e]
  have : (128 : Nat) ^ 9 = 9223372036854775808 := by decide
  omega
theorem ixL_get {l : List Int} {i : Nat} (h : i < l.length) : ixL (0 : Int) l i = l[i] := by
  unfold ixL
  simp [List.getElem?_eq_getElem h]
def fin1 (k1 : Int → Int → Int → Option (Int × Int × Int × Unit)) (k2 : Unit → Option (Int × Int × Int × Unit)) (at' : Int) (q : Int × Int × Int) : Option (Int × Int × Int × Unit) :=
  if q.2.2 = 0 then k1 q.1 (at' + q.2.1) 0 else if q.2.2 = 3 then k2 () else k1 0 0 q.2.2
theorem get_rounds (fu : Nat) k1 k2 (at' : Int) (b : List Int) (hb : By b) (ha : 0 ≤ at' ∧ at' ≤ 100000) (hl : b.length ≤ 100000) : ∀ (m i : Nat) (n : Int), i ≤ b.length → b.length < i + m → 0 ≤ n → n < 128 ^ i →
    i ≤ 9 → packGet.l5 fu k1 k2 m at' n b b.length i = fin1 k1 k2 at' (get1 (b.drop i) i n) := by
  intro m
  induction m with
  | zero => intro i n h1 h2; omega
  | succ m ih =>
    intro i n h1 h2 hn0 hn hi9
    unfold packGet.l5 packGet.b5
    by_cases hil : i < b.length
    · have hil' : (i : Int) < b.length := by omega
      have hix : ixOk b i = true := by simp [ixOk, hil]
      have e1 : IntKind.i64.wrap ((i : Int) + 1) = (i + 1 : Nat) := wrap_i64 (by omega) (by omega)
      rw [List.drop_eq_getElem_cons hil]
      have hc := hb _ (List.getElem_mem hil)
      simp only [hil', decide_true, cond_true, chk, hix, ixL_get hil]
      generalize b[i] = c at hc
      have hp := pow128_9 hi9
      have hle : ∀ q : Int, 0 ≤ q → q ≤ 127 → (i = 9 → q ≤ 1) → q * 128 ^ i + n < 18446744073709551616 := fun q h0 h1 h9 => by
        rcases Nat.lt_or_ge i 9 with h | h
        · have h8 : (128 : Int) ^ i ≤ 72057594037927936 := by
            have h1 : 128 ^ i ≤ 128 ^ 8 := Nat.pow_le_pow_right (by omega) (by omega)
            have e : (128 : Int) ^ i = ((128 ^ i : Nat) : Int) := by norm_cast
            rw [e]
            have : (128 : Nat) ^ 8 = 72057594037927936 := by decide
            omega
          have : q * 128 ^ i ≤ 127 * 72057594037927936 := Int.mul_le_mul h1 h8 (by omega) (by omega)
          omega
        · have : i = 9 := by omega
          subst this
          have := h9 rfl
          have : q * 128 ^ 9 ≤ 1 * 9223372036854775808 := Int.mul_le_mul this (by decide) (by decide) (by omega)
          omega
      have j9 : ∀ (c : Int), 0 ≤ c → c ≤ 255 → (i = 9 → c ≤ 1) → ∀ K0 K1, packGet.j9 fu K0 K1 at' n i c b b.length i = (if c ≥ 128 then K0 at' (n + (c - 128) * 128 ^ i) b b.length i else if c = 0 ∧ i > 0 then K1 0 0 2 else K1 (n + c * 128 ^ i) (at' + ((i : Int) + 1)) 0) := by
        intro c hc0 hc1 h9 K0 K1
        unfold packGet.j9 packGet.j50013
        have e2 : IntKind.u64.wrap (bAnd .u8 c 127) = c % 128 := by rw [byte_and c hc0 hc1]; exact wrap_u64 (by omega) (by omega)
        have e3 : IntKind.i64.wrap ((7 : Int) * i) = (7 * i : Nat) := by rw [wrap_i64 (by omega) (by omega)]; omega
        have hq := hle (c % 128) (by omega) (by omega) (fun h => by have := h9 h; omega)
        have hnn : 0 ≤ (c % 128) * 128 ^ i := Int.mul_nonneg (by omega) (by omega)
        have e4 : sShl .u64 (c % 128) ((7 * i : Nat) : Int) = (c % 128) * 128 ^ i := by
          have hpp : (2 : Int) ^ (7 * i) = 128 ^ i := by rw [pow128]; norm_cast
          rw [shl_eq _ (7 * i) (by omega) (by omega) (by rw [hpp]; omega), hpp]
        have e5 : bOr .u64 n ((c % 128) * 128 ^ i) = n + (c % 128) * 128 ^ i := by
          obtain ⟨N, rfl⟩ := Int.eq_ofNat_of_zero_le hn0
          obtain ⟨a, ha⟩ := Int.eq_ofNat_of_zero_le (show 0 ≤ c % 128 by omega)
          rw [ha, pow128] at hq ⊢
          rw [pow128] at hn
          have hq' : N + a * 2 ^ (7 * i) < 18446744073709551616 := by
            have : ((N + a * 2 ^ (7 * i) : Nat) : Int) < 18446744073709551616 := by rw [Int.natCast_add, Int.natCast_mul]; omega
            omega
          have := or_add N a (7 * i) (by omega) hq'
          rw [Int.natCast_add, Int.natCast_mul] at this
          exact this
        have hneg : (decide (((7 * i : Nat) : Int) < 0)) = false := decide_eq_false (by omega)
        have e6 : IntKind.i64.wrap (at' + i) = at' + i := wrap_i64 (by omega) (by omega)
        have e7 : IntKind.i64.wrap (at' + i + 1) = at' + ((i : Int) + 1) := by rw [wrap_i64 (by omega) (by omega)]; omega
        simp only [e2, e3, e4, e5, hneg, chk, Bool.not_false, cond_true, e6, e7]
        by_cases h128 : c ≥ 128
        · have : c % 128 = c - 128 := by omega
          simp only [h128, decide_true, cond_true, this, if_true]
        · have : c % 128 = c := by omega
          simp only [h128, decide_false, cond_false, this, if_false]
          by_cases h0 : c = 0
          · subst h0
            by_cases hi0 : i > 0
            · simp [hi0]
            · simp [hi0]
          · have h0' : (c == 0) = false := beq_false_of_ne h0
            simp [h0, h0']
      unfold get1
      by_cases h9 : i = 9 ∧ c > 1
      · have h9' : ((i : Int) == 9) = true := by rw [h9.1]; rfl
        have h1' : decide (c > 1) = true := decide_eq_true h9.2
        simp [h9', h1', if_pos h9, fin1]
      · have hside : i = 9 → c ≤ 1 := fun h => by
          by_cases hx : c > 1
          · exact absurd ⟨h, hx⟩ h9
          · omega
        rw [if_neg h9]
        have both : ∀ X Y : Option (Int × Int × Int × Unit), (cond ((i : Int) == 9) (cond (decide (c > 1)) X Y) Y) = Y := fun X Y => by
          cases hx : ((i : Int) == 9) with
          | false => rfl
          | true =>
            have : c ≤ 1 := hside (by have := eq_of_beq hx; omega)
            have hd : decide (c > 1) = false := decide_eq_false (by omega)
            simp only [cond_true, hd, cond_false]
        rw [j9 c hc.1 hc.2 hside, both]
        by_cases h128 : c ≥ 128
        · have hi8 : i ≤ 8 := by
            rcases Nat.lt_or_ge i 9 with h | h
            · omega
            · have := hside (by omega); omega
          rw [if_pos h128, if_pos h128]
          simp only [e1]
          have hq : (c - 128) * 128 ^ i + n < 128 ^ (i + 1) := by
            rw [Int.pow_succ]
            have : (c - 128) * 128 ^ i ≤ 127 * 128 ^ i := Int.mul_le_mul_of_nonneg_right (by omega) (by omega)
            omega
          exact ih (i + 1) _ (by omega) (by omega) (by have : 0 ≤ (c - 128) * 128 ^ i := Int.mul_nonneg (by omega) (by omega); omega) (by omega) (by omega)
        · rw [if_neg h128, if_neg h128]
          by_cases h0 : c = 0 ∧ i > 0
          · rw [if_pos h0, if_pos h0]; simp [fin1]
          · rw [if_neg h0, if_neg h0]; simp [fin1]
    · have hx : ¬ (i : Int) < b.length := by omega
      rw [List.drop_of_length_le (by omega)]
      simp [hx, get1, fin1]
theorem get1_err : ∀ (l : List Int) (i : Nat) (n : Int), (get1 l i n).2.2 ≠ 0 → (get1 l i n).1 = 0 ∧ (get1 l i n).2.1 = 0 := by
  intro l
  induction l with
  | nil => intro i n _; exact ⟨rfl, rfl⟩
  | cons c r ih =>
    intro i n
    unfold get1
    split
    · intro _; exact ⟨rfl, rfl⟩
    · split
      · exact ih _ _
      · split
        · intro _; exact ⟨rfl, rfl⟩
        · intro h; exact absurd rfl h
theorem packGet_eq (fu : Nat) (b : List Int) (hb : By b) (hl : b.length ≤ 100000) (hfu : b.length < fu) (at' : Int) : packGet fu b at' = some ((got b at').1, (got b at').2.1, (got b at').2.2, ()) := by
  unfold packGet got
  by_cases h1 : at' < 0
  · simp [h1]
  · by_cases h2 : at' > b.length
    · simp [h1, h2]
    · have hcut : cutOk b at' b.length = true := by simp [cutOk]; omega
      have e : cutL b at' b.length = b.drop at'.toNat := by
        unfold cutL
        rw [List.take_of_length_le]
        rw [List.length_drop]; omega
      have hd : By (b.drop at'.toNat) := fun x hx => hb x (List.mem_of_mem_drop hx)
      have hdl : (b.drop at'.toNat).length ≤ b.length := by rw [List.length_drop]; omega
      have hn : ¬ (at' < 0 ∨ at' > b.length) := by omega
      simp only [h1, h2, or_self, if_false, decide_false, cond_false, hcut, chk, cond_true, e]
      have := get_rounds fu (fun a c d => some (a, c, d, ())) (fun _ => some (0, 0, 3, ())) at' (b.drop at'.toNat) hd (by omega) (by omega) fu 0 0 (by omega) (by omega) (by omega) (by simp) (by omega)
      refine this.trans ?_
      rw [List.drop_zero]
      generalize hq : get1 (b.drop at'.toNat) 0 0 = q
      unfold fin1 from1
      by_cases h0 : q.2.2 = 0
      · simp [h0]
      · by_cases h3 : q.2.2 = 3
        · have hz := get1_err (b.drop at'.toNat) 0 0
          rw [hq] at hz
          simp [h3, hz h0]
        · have hz := get1_err (b.drop at'.toNat) 0 0
          rw [hq] at hz
          simp [h0, h3, hz h0]
def putN : Nat → Int → List Int
  | 0, n => [n]
  | k + 1, n => if n ≥ 128 then (n % 128 + 128) :: putN k (n / 128) else [n]
theorem putN_len : ∀ (k : Nat) (n : Int), (putN k n).length ≤ k + 1 ∧ 0 < (putN k n).length
  | 0, n => by simp [putN]
  | k + 1, n => by
    unfold putN
    split
    · have := putN_len k (n / 128)
      simp only [List.length_cons]
      omega
    · simp
theorem apOk1 {xs ys : List Int} (h : xs.length + ys.length ≤ 1000000) : apOk xs ys 1 = true := by
  unfold apOk
  exact decide_eq_true (Nat.le_trans (Nat.mul_le_mul_right 1 h) (by decide))
def tab8 : List Int := ([0, 1, 2, 2, 3, 3, 3, 3, 4, 4, 4, 4, 4, 4, 4, 4, 5, 5, 5, 5, 5, 5, 5, 5, 5, 5, 5, 5, 5, 5, 5, 5, 6, 6, 6, 6, 6, 6, 6, 6, 6, 6, 6, 6, 6, 6, 6, 6, 6, 6, 6, 6, 6, 6, 6, 6, 6, 6, 6, 6, 6, 6, 6, 6, 7, 7, 7, 7, 7, 7, 7, 7, 7, 7, 7, 7, 7, 7, 7, 7, 7, 7, 7, 7, 7, 7, 7, 7, 7, 7, 7, 7, 7, 7, 7, 7, 7, 7, 7, 7, 7, 7, 7, 7, 7, 7, 7, 7, 7, 7, 7, 7, 7, 7, 7, 7, 7, 7, 7, 7, 7, 7, 7, 7, 7, 7, 7, 7, 8, 8, 8, 8, 8, 8, 8, 8, 8, 8, 8, 8, 8, 8, 8, 8, 8, 8, 8, 8, 8, 8, 8, 8, 8, 8, 8, 8, 8, 8, 8, 8, 8, 8, 8, 8, 8, 8, 8, 8, 8, 8, 8, 8, 8, 8, 8, 8, 8, 8, 8, 8, 8, 8, 8, 8, 8, 8, 8, 8, 8, 8, 8, 8, 8, 8, 8, 8, 8, 8, 8, 8, 8, 8, 8, 8, 8, 8, 8, 8, 8, 8, 8, 8, 8, 8, 8, 8, 8, 8, 8, 8, 8, 8, 8, 8, 8, 8, 8, 8, 8, 8, 8, 8, 8, 8, 8, 8, 8, 8, 8, 8, 8, 8, 8, 8, 8, 8, 8, 8, 8, 8, 8, 8, 8, 8, 8, 8] : List Int)
theorem tab8_ok (x : Int) (h0 : 0 ≤ x) (h1 : x < 256) : ixOk tab8 x = true ∧ 0 ≤ ixL 0 tab8 x ∧ ixL 0 tab8 x ≤ 8 := by
  have key : ∀ m : Fin 256, ixOk tab8 (m.val : Int) = true ∧ 0 ≤ ixL 0 tab8 (m.val : Int) ∧ ixL 0 tab8 (m.val : Int) ≤ 8 := by decide +kernel
  have := key ⟨x.toNat, by omega⟩
  simp only at this
  rw [show (x.toNat : Int) = x by omega] at this
  exact this
theorem len_j7 (fu : Nat) k1 (x n : Int) (h0 : 0 ≤ x) (h1 : x < 65536) (hn : 0 ≤ n) (hn1 : n ≤ 100) : ∃ r, bitsLen64.j7 fu k1 x n = k1 r ∧ 0 ≤ r ∧ r ≤ n + 16 := by
  unfold bitsLen64.j7
  rw [show ([0, 1, 2, 2, 3, 3, 3, 3, 4, 4, 4, 4, 4, 4, 4, 4, 5, 5, 5, 5, 5, 5, 5, 5, 5, 5, 5, 5, 5, 5, 5, 5, 6, 6, 6, 6, 6, 6, 6, 6, 6, 6, 6, 6, 6, 6, 6, 6, 6, 6, 6, 6, 6, 6, 6, 6, 6, 6, 6, 6, 6, 6, 6, 6, 7, 7, 7, 7, 7, 7, 7, 7, 7, 7, 7, 7, 7, 7, 7, 7, 7, 7, 7, 7, 7, 7, 7, 7, 7, 7, 7, 7, 7, 7, 7, 7, 7, 7, 7, 7, 7, 7, 7, 7, 7, 7, 7, 7, 7, 7, 7, 7, 7, 7, 7, 7, 7, 7, 7, 7, 7, 7, 7, 7, 7, 7, 7, 7, 8, 8, 8, 8, 8, 8, 8, 8, 8, 8, 8, 8, 8, 8, 8, 8, 8, 8, 8, 8, 8, 8, 8, 8, 8, 8, 8, 8, 8, 8, 8, 8, 8, 8, 8, 8, 8, 8, 8, 8, 8, 8, 8, 8, 8, 8, 8, 8, 8, 8, 8, 8, 8, 8, 8, 8, 8, 8, 8, 8, 8, 8, 8, 8, 8, 8, 8, 8, 8, 8, 8, 8, 8, 8, 8, 8, 8, 8, 8, 8, 8, 8, 8, 8, 8, 8, 8, 8, 8, 8, 8, 8, 8, 8, 8, 8, 8, 8, 8, 8, 8, 8, 8, 8, 8, 8, 8, 8, 8, 8, 8, 8, 8, 8, 8, 8, 8, 8, 8, 8, 8, 8, 8, 8, 8, 8, 8, 8] : List Int) = tab8 from rfl]
  have fits : ∀ y : Int, 0 ≤ y → y ≤ 1000 → IntKind.i64.wrap y = y := fun y a b => wrap_i64 (by omega) (by omega)
  by_cases h : x ≥ 256
  · have e1 : sShr .u64 x 8 = x / 256 := by have := shr_eq x 8 (by omega); simpa using this
    have e2 : IntKind.u8.wrap (x / 256) = x / 256 := by rw [wrap_u8]; omega
    obtain ⟨q1, q2, q3⟩ := tab8_ok (x / 256) (by omega) (by omega)
    simp only [h, decide_true, cond_true, e1, e2, q1, chk]
    rw [fits (n + 8) (by omega) (by omega), fits (ixL 0 tab8 (x / 256)) q2 (by omega), fits _ (by omega) (by omega)]
    exact ⟨_, rfl, by omega, by omega⟩
  · obtain ⟨q1, q2, q3⟩ := tab8_ok x (by omega) (by omega)
    have e2 : IntKind.u8.wrap x = x := by rw [wrap_u8]; omega
    simp only [h, decide_false, cond_false, e2, q1, chk, cond_true]
    rw [fits (ixL 0 tab8 x) q2 (by omega), fits _ (by omega) (by omega)]
    exact ⟨_, rfl, by omega, by omega⟩
theorem len_j4 (fu : Nat) k1 (x n : Int) (h0 : 0 ≤ x) (h1 : x < 4294967296) (hn : 0 ≤ n) (hn1 : n ≤ 64) : ∃ r, bitsLen64.j4 fu k1 x n = k1 r ∧ 0 ≤ r ∧ r ≤ n + 32 := by
  unfold bitsLen64.j4
  by_cases h : x ≥ 65536
  · have e1 : sShr .u64 x 16 = x / 65536 := by have := shr_eq x 16 (by omega); simpa using this
    have e2 : IntKind.i64.wrap (n + 16) = n + 16 := wrap_i64 (by omega) (by omega)
    simp only [h, decide_true, cond_true, e1, e2]
    obtain ⟨r, h1, h2, h3⟩ := len_j7 fu (fun q => k1 q) (x / 65536) (n + 16) (by omega) (by omega) (by omega) (by omega)
    exact ⟨r, h1, h2, by omega⟩
  · simp only [h, decide_false, cond_false]
    obtain ⟨r, h1, h2, h3⟩ := len_j7 fu (fun q => k1 q) x n (by omega) (by omega) (by omega) (by omega)
    exact ⟨r, h1, h2, by omega⟩
theorem len64_le (fu : Nat) (n : Int) (h0 : 0 ≤ n) (h1 : n < 18446744073709551616) : ∃ r, bitsLen64 fu n = some (r, ()) ∧ 0 ≤ r ∧ r ≤ 64 := by
  unfold bitsLen64
  by_cases h : n ≥ 4294967296
  · have e1 : sShr .u64 n 32 = n / 4294967296 := by have := shr_eq n 32 (by omega); simpa using this
    simp only [h, decide_true, cond_true, e1]
    obtain ⟨r, h1, h2, h3⟩ := len_j4 fu (fun q => some (q, ())) (n / 4294967296) 32 (by omega) (by omega) (by omega) (by omega)
    exact ⟨r, h1, h2, by omega⟩
  · simp only [h, decide_false, cond_false]
    obtain ⟨r, h1, h2, h3⟩ := len_j4 fu (fun q => some (q, ())) n 0 (by omega) (by omega) (by omega) (by omega)
    exact ⟨r, h1, h2, by omega⟩
theorem size_le (fu : Nat) (n : Int) (h0 : 0 ≤ n) (h1 : n < 18446744073709551616) : ∃ r, packSize fu n = some (r, ()) ∧ 0 ≤ r ∧ r ≤ 10 := by
  unfold packSize
  obtain ⟨r, q1, q2, q3⟩ := len64_le fu n h0 h1
  have e1 : IntKind.i64.wrap (max2 r 1 + 6) = max r 1 + 6 := by rw [max2_eq, wrap_i64 (by omega) (by omega)]
  have e2 : Int.tdiv (max r 1 + 6) 7 = (max r 1 + 6) / 7 := Int.tdiv_eq_ediv_of_nonneg (by omega)
  have e3 : IntKind.i64.wrap ((max r 1 + 6) / 7) = (max r 1 + 6) / 7 := wrap_i64 (by omega) (by omega)
  simp only [q1, Option.bind_some, e1, e2, e3]
  exact ⟨_, rfl, by omega, by omega⟩
theorem own_eq (fu : Nat) (b : List Int) (room : Int) (hl : b.length ≤ 500000) (h0 : 0 ≤ room) (h1 : room ≤ 1000) : packOwn fu b room = some ((b, ()), ()) := by
  unfold packOwn
  have e1 : IntKind.i64.wrap ((b.length : Int) + room) = b.length + room := wrap_i64 (by omega) (by omega)
  have e2 : mkOk 0 ((b.length : Int) + room) 1 = true := by
    have hL : (1000000 : Int) ≤ (LIM : Int) := by decide
    unfold mkOk
    simp only [Bool.and_eq_true, decide_eq_true_eq]
    omega
  have e3 : apOk ([] : List Int) b 1 = true := apOk1 (by simp; omega)
  simp only [e1, e2, chk, cond_true, Int.toNat_zero, List.replicate_zero, e3, List.nil_append]
theorem pow_succ128 (k : Nat) : (128 : Int) ^ (k + 1) = 128 * 128 ^ k := by rw [Int.pow_succ, Int.mul_comm]
theorem putO_rounds (fu : Nat) (k2 : Int → List Int → Option (((List Int) × Unit) × (Unit))) : ∀ (k m : Nat) (n : Int) (out : List Int), k < m → 0 ≤ n → n < 128 ^ (k + 1) → out.length + k ≤ 500000 →
    ∃ last init, putN k n = init ++ [last] ∧ 0 ≤ last ∧ last < 128 ∧ packPut.l2 fu k2 m n out = k2 last (out ++ init) := by
  intro k
  induction k with
  | zero =>
    intro m n out hm h0 h1 hl
    obtain ⟨m, rfl⟩ : ∃ j, m = j + 1 := ⟨m - 1, by omega⟩
    have hn : ¬ n ≥ 128 := by have : (128 : Int) ^ (0 + 1) = 128 := by decide
                              omega
    refine ⟨n, [], by simp [putN], h0, by omega, ?_⟩
    unfold packPut.l2 packPut.b2
    simp [hn]
  | succ k ih =>
    intro m n out hm h0 h1 hl
    obtain ⟨m, rfl⟩ : ∃ j, m = j + 1 := ⟨m - 1, by omega⟩
    unfold packPut.l2 packPut.b2 putN
    by_cases hn : n ≥ 128
    · have e1 : sShr .u64 n 7 = n / 128 := by have := shr_eq n 7 (by omega); simpa using this
      have e2 : bOr .u8 (IntKind.u8.wrap n) 128 = n % 128 + 128 := by rw [wrap_u8, byte_or _ (by omega) (by omega)]; omega
      rw [pow_succ128] at h1
      obtain ⟨last, init, q1, q2, q3, q4⟩ := ih m (n / 128) (out ++ [n % 128 + 128]) (by omega) (by omega) (by omega) (by simp; omega)
      refine ⟨last, (n % 128 + 128) :: init, by rw [if_pos hn, q1]; rfl, q2, q3, ?_⟩
      have e3 : apOk out [n % 128 + 128] 1 = true := apOk1 (by simp; omega)
      simp only [hn, decide_true, cond_true, e1, e2, e3, chk]
      rw [q4, List.append_assoc]
      rfl
    · refine ⟨n, [], by rw [if_neg hn]; rfl, h0, by omega, ?_⟩
      simp [hn]
theorem put_eq (fu : Nat) (hfu : 12 ≤ fu) (b : List Int) (n : Int) (hl : b.length ≤ 400000) (h0 : 0 ≤ n) (h1 : n < 18446744073709551616) : packPut fu b n = some ((b ++ putN 9 n, ()), ()) := by
  obtain ⟨r, q1, q2, q3⟩ := size_le fu n h0 h1
  have hp : (128 : Int) ^ (9 + 1) = 1180591620717411303424 := by decide
  · obtain ⟨last, init, p1, p2, p3, p4⟩ := putO_rounds fu (fun nq2 outq2 => 
      chk (apOk outq2 ([IntKind.u8.wrap nq2]) 1) <|
      let t3 := outq2 ++ ([IntKind.u8.wrap nq2])
      some ((t3, ()), (()))) 9 fu n b (by omega) h0 (by omega) (by omega)
    have hlen := putN_len 9 n
    rw [p1] at hlen
    simp only [List.length_append, List.length_cons, List.length_nil] at hlen
    have e1 : IntKind.u8.wrap last = last := by rw [wrap_u8]; omega
    have e2 : apOk (b ++ init) [last] 1 = true := apOk1 (by simp; omega)
    unfold packPut
    simp only [q1, Option.bind_some, own_eq fu b r (by omega) q2 (by omega)]
    refine p4.trans ?_
    simp only [e1, e2, chk, cond_true, p1, List.append_assoc]
theorem get_put : ∀ (k i : Nat) (l : List Int) (n v e : Int), By l → i + k = 9 → get1 l i n = (v, e, 0) →
    ∃ (m : Int) (j : Nat), v = n + m * 128 ^ i ∧ 0 ≤ m ∧ m < 2 * 128 ^ k ∧ e = i + j ∧ 0 < j ∧ j ≤ l.length ∧ l.take j = putN k m ∧ (i > 0 → 1 ≤ m) := by
  intro k
  induction k with
  | zero =>
    intro i l n v e hb hi h
    cases l with
    | nil => cases h
    | cons c r =>
      have hc := hb c List.mem_cons_self
      unfold get1 at h
      split at h
      · cases h
      · rename_i h9
        have hc1 : ¬ c > 1 := fun hx => h9 ⟨by omega, hx⟩
        rw [if_neg (by omega)] at h
        split at h
        · cases h
        · rename_i h0
          cases h
          refine ⟨c, 1, rfl, hc.1, by omega, by omega, by omega, by simp, by simp [putN], fun hi0 => ?_⟩
          rcases Int.lt_or_le 0 c with hx | hx
          · omega
          · exact absurd ⟨by omega, hi0⟩ h0
  | succ k ih =>
    intro i l n v e hb hi h
    cases l with
    | nil => cases h
    | cons c r =>
      have hc := hb c List.mem_cons_self
      unfold get1 at h
      rw [if_neg (by omega)] at h
      have hpk : (1 : Int) ≤ 128 ^ k := by
        have : 0 < 128 ^ k := Nat.pow_pos (by omega)
        have e : (128 : Int) ^ k = ((128 ^ k : Nat) : Int) := by norm_cast
        omega
      split at h
      · rename_i h128
        obtain ⟨m, j, q1, q2, q3, q4, q5, q6, q7, q8⟩ := ih (i + 1) r _ v e (by_tail hb) (by omega) h
        have hm1 := q8 (by omega)
        refine ⟨c - 128 + 128 * m, j + 1, ?_, by omega, by rw [Int.pow_succ]; omega, by omega, by omega, by simp; omega, ?_, fun _ => by omega⟩
        · rw [q1, Int.pow_succ, Int.add_mul, Int.mul_comm 128 m, Int.mul_assoc m 128, Int.mul_comm 128 (128 ^ i)]; omega
        · rw [List.take_succ_cons, q7]
          conv => rhs; unfold putN
          rw [if_pos (by omega), show (c - 128 + 128 * m) % 128 + 128 = c by omega, show (c - 128 + 128 * m) / 128 = m by omega]
      · rename_i h128
        split at h
        · cases h
        · rename_i h0
          cases h
          refine ⟨c, 1, rfl, hc.1, by rw [Int.pow_succ]; omega, by omega, by omega, by simp, ?_, fun hi0 => ?_⟩
          · conv => rhs; unfold putN
            rw [if_neg (by omega)]; simp
          · rcases Int.lt_or_le 0 c with hx | hx
            · omega
            · exact absurd ⟨by omega, hi0⟩ h0
theorem put_get : ∀ (k i : Nat) (m n : Int) (rest : List Int), i + k = 9 → 0 ≤ m → m < 2 * 128 ^ k → (i > 0 → 1 ≤ m) → get1 (putN k m ++ rest) i n = (n + m * 128 ^ i, (i : Int) + ((putN k m).length : Int), 0) := by
  intro k
  induction k with
  | zero =>
    intro i m n rest hi h0 h1 hp
    have hm1 : m ≤ 1 := by simp at h1; omega
    unfold putN get1
    simp only [List.cons_append, List.nil_append]
    rw [if_neg (by omega), if_neg (by omega), if_neg (fun h => by have := hp h.2; omega)]
    simp
  | succ k ih =>
    intro i m n rest hi h0 h1 hp
    unfold putN
    split
    · rename_i hge
      simp only [List.cons_append]
      unfold get1
      rw [if_neg (by omega), if_pos (by omega)]
      rw [ih (i + 1) (m / 128) _ rest (by omega) (by omega) (by rw [Int.pow_succ] at h1; omega) (fun _ => by omega)]
      simp only [List.length_cons]
      refine Prod.ext ?_ (Prod.ext ?_ rfl)
      · show n + (m % 128 + 128 - 128) * 128 ^ i + m / 128 * 128 ^ (i + 1) = n + m * 128 ^ i
        rw [Int.pow_succ, Int.mul_comm (128 ^ i) 128, ← Int.mul_assoc, Int.add_assoc, ← Int.add_mul]
        congr 2
        omega
      · show ((i + 1 : Nat) : Int) + ((putN k (m / 128)).length : Int) = (i : Int) + (((putN k (m / 128)).length + 1 : Nat) : Int)
        omega
    · rename_i hlt
      simp only [List.cons_append, List.nil_append]
      unfold get1
      rw [if_neg (by omega), if_neg (by omega), if_neg (fun h => by have := hp h.2; omega)]
      simp
theorem got_ok {b : List Int} (hb : By b) {at' v e : Int} (h : got b at' = (v, e, 0)) : 0 ≤ at' ∧ 0 ≤ v ∧ v < 18446744073709551616 ∧ ∃ j : Nat, e = at' + j ∧ 0 < j ∧ at' + j ≤ b.length ∧ cutL b at' e = putN 9 v := by
  unfold got at h
  split at h
  · cases h
  · rename_i hn
    generalize hq : get1 (b.drop at'.toNat) 0 0 = q at h
    obtain ⟨v', e', er⟩ := q
    unfold from1 at h
    simp only [Prod.mk.injEq] at h
    obtain ⟨rfl, h2, rfl⟩ := h
    rw [if_pos rfl] at h2
    obtain ⟨m, j, q1, q2, q3, q4, q5, q6, q7, q8⟩ := get_put 9 0 (b.drop at'.toNat) 0 v' e' (fun x hx => hb x (List.mem_of_mem_drop hx)) rfl hq
    have hv : v' = m := by rw [q1]; simp
    rw [List.length_drop] at q6
    have hp : (2 : Int) * 128 ^ 9 = 18446744073709551616 := by decide
    refine ⟨by omega, by omega, by omega, j, by omega, q5, by omega, ?_⟩
    rw [hv, ← q7]
    unfold cutL
    rw [show (e - at').toNat = j by omega]
theorem got_put (a rest : List Int) (n : Int) (h0 : 0 ≤ n) (h1 : n < 18446744073709551616) : got (a ++ putN 9 n ++ rest) a.length = (n, (a.length : Int) + ((putN 9 n).length : Int), 0) := by
  unfold got
  rw [if_neg (by simp; omega)]
  have hp : (2 : Int) * 128 ^ 9 = 18446744073709551616 := by decide
  have e : (a ++ putN 9 n ++ rest).drop (a.length : Int).toNat = putN 9 n ++ rest := by simp
  rw [e, put_get 9 0 n 0 rest rfl h0 (by omega) (fun h => by omega)]
  unfold from1
  simp
theorem cut_len {b : List Int} {x y : Int} (h0 : 0 ≤ x) (h1 : x ≤ y) (h2 : y ≤ b.length) : (cutL b x y).length = (y - x).toNat := by
  unfold cutL
  rw [List.length_take, List.length_drop]
  omega
theorem cut_app {b : List Int} {x y z : Int} (h0 : 0 ≤ x) (h1 : x ≤ y) (h2 : y ≤ z) (h3 : z ≤ b.length) : cutL b x y ++ cutL b y z = cutL b x z := by
  unfold cutL
  have e : b.drop y.toNat = (b.drop x.toNat).drop (y - x).toNat := by rw [List.drop_drop]; congr 1; omega
  rw [e, show (z - x).toNat = (y - x).toNat + (z - y).toNat by omega, List.take_add]
theorem cutOk_of {b : List Int} {x y : Int} (h0 : 0 ≤ x) (h1 : x ≤ y) (h2 : y ≤ b.length) : cutOk b x y = true := by simp [cutOk, h0, h1, h2]
theorem putN_by : ∀ (k : Nat) (n : Int), 0 ≤ n → n < 2 * 128 ^ k → By (putN k n) := by
  intro k
  induction k with
  | zero => intro n h0 h1 x hx; simp [putN] at hx; simp at h1; omega
  | succ k ih =>
    intro n h0 h1 x hx
    unfold putN at hx
    split at hx
    · rcases List.mem_cons.1 hx with rfl | hx
      · omega
      · exact ih (n / 128) (by omega) (by rw [Int.pow_succ] at h1; omega) x hx
    · simp at hx; omega
theorem putN_by9 (n : Int) (h0 : 0 ≤ n) (h1 : n < 18446744073709551616) : By (putN 9 n) := by
  have hp : (2 : Int) * 128 ^ 9 = 18446744073709551616 := by decide
  exact putN_by 9 n h0 (by omega)
theorem by_app {a b : List Int} (ha : By a) (hb : By b) : By (a ++ b) := fun x hx => by
  rcases List.mem_append.1 hx with h | h
  · exact ha x h
  · exact hb x h
theorem cut_mid (a s r : List Int) : cutL (a ++ s ++ r) a.length (a.length + s.length) = s := by
  unfold cutL
  rw [List.append_assoc, show (a.length : Int).toNat = a.length by omega, List.drop_left, show ((a.length : Int) + s.length - a.length).toNat = s.length by omega, List.take_left]
theorem u64Of {x : Int} (h : inR .u64 x) : 0 ≤ x ∧ x < 18446744073709551616 := by
  simp [inR, IntKind.min, IntKind.max, IntKind.signed, IntKind.bits] at h
  omega
theorem i64Of {x : Int} (h : inR .i64 x) : -9223372036854775808 ≤ x ∧ x < 9223372036854775808 := by
  simp [inR, IntKind.min, IntKind.max, IntKind.signed, IntKind.bits] at h
  omega
theorem byOf {l : List Int} (h : (Kd.slice (.int .u8)).ok l) : By l := fun x hx => by
  have := h.2 x hx
  simp [Kd.ok, inR, IntKind.min, IntKind.max, IntKind.signed, IntKind.bits] at this
  omega
theorem ref_rounds (fu : Nat) (k1 : Int → Int → Int → Option (Int × Int × Int × Unit)) (b : List Int) (hb : By b) (hl : b.length ≤ 100000) (A : Nat) (hA : A ≤ b.length) : ∀ (m i : Nat) (n : Int), A + i ≤ b.length → b.length < A + i + m → i ≤ 9 → 0 ≤ n → n < 128 ^ i →
    ref03Get.l6 fu k1 m b A n (128 ^ i) i = fin1 k1 (fun _ => k1 0 0 3) A (get1 (b.drop (A + i)) i n) := by
  intro m
  induction m with
  | zero => intro i n h1 h2; omega
  | succ m ih =>
    intro i n h1 h2 hi9 hn0 hn
    unfold ref03Get.l6 ref03Get.b6
    have e0 : IntKind.i64.wrap ((A : Int) + i) = (A + i : Nat) := by rw [wrap_i64 (by omega) (by omega)]; omega
    by_cases hil : A + i < b.length
    · have hd : decide (((A + i : Nat) : Int) ≥ b.length) = false := decide_eq_false (by omega)
      have hix : ixOk b ((A + i : Nat) : Int) = true := by simp [ixOk]; omega
      have e1 : IntKind.i64.wrap ((i : Int) + 1) = (i + 1 : Nat) := wrap_i64 (by omega) (by omega)
      rw [List.drop_eq_getElem_cons hil]
      have hc := hb _ (List.getElem_mem hil)
      simp only [e0, hd, cond_false, chk, hix, cond_true, ixL_get hil]
      generalize b[A + i] = c at hc
      have hp := pow128_9 hi9
      have hle : ∀ q : Int, 0 ≤ q → q ≤ 127 → (i = 9 → q ≤ 1) → q * 128 ^ i + n < 18446744073709551616 := fun q h0 h1 h9 => by
        rcases Nat.lt_or_ge i 9 with h | h
        · have h8 : (128 : Int) ^ i ≤ 72057594037927936 := by
            have h1 : 128 ^ i ≤ 128 ^ 8 := Nat.pow_le_pow_right (by omega) (by omega)
            have e : (128 : Int) ^ i = ((128 ^ i : Nat) : Int) := by norm_cast
            rw [e]
            have : (128 : Nat) ^ 8 = 72057594037927936 := by decide
            omega
          have : q * 128 ^ i ≤ 127 * 72057594037927936 := Int.mul_le_mul h1 h8 (by omega) (by omega)
          omega
        · have : i = 9 := by omega
          subst this
          have := h9 rfl
          have : q * 128 ^ 9 ≤ 1 * 9223372036854775808 := Int.mul_le_mul this (by decide) (by decide) (by omega)
          omega
      have j11 : (i = 9 → c ≤ 1) → ∀ (K0 : List Int → Int → Int → Int → Int → Option (Int × Int × Int × Unit)) (K1 : Int → Int → Int → Option (Int × Int × Int × Unit)), ref03Get.j11 fu K0 K1 b A n (128 ^ i) i c = (if c ≥ 128 then K0 b A (n + (c - 128) * 128 ^ i) (128 ^ (i + 1)) (i + 1 : Nat) else if c = 0 ∧ i > 0 then K1 0 0 2 else K1 (n + c * 128 ^ i) (A + ((i : Int) + 1)) 0) := by
        intro h9 K0 K1
        unfold ref03Get.j11
        have e2 : Int.tmod c 128 = c % 128 := Int.tmod_eq_emod_of_nonneg hc.1
        have e3 : IntKind.u64.wrap (c % 128) = c % 128 := wrap_u64 (by omega) (by omega)
        have hq := hle (c % 128) (by omega) (by omega) (fun h => by have := h9 h; omega)
        have hnn : 0 ≤ (c % 128) * 128 ^ i := Int.mul_nonneg (by omega) (by omega)
        have e4 : IntKind.u64.wrap (c % 128 * 128 ^ i) = c % 128 * 128 ^ i := wrap_u64 hnn (by omega)
        have e5 : IntKind.u64.wrap (n + c % 128 * 128 ^ i) = n + c % 128 * 128 ^ i := wrap_u64 (by omega) (by omega)
        have e7 : IntKind.i64.wrap ((A : Int) + ((i + 1 : Nat) : Int)) = A + ((i : Int) + 1) := by rw [wrap_i64 (by omega) (by omega)]; omega
        simp only [e2, e3, e4, e5, e1, e7]
        by_cases h128 : c ≥ 128
        · have hlt : ¬ c < 128 := by omega
          have hi8 : i ≤ 8 := by
            rcases Nat.lt_or_ge i 9 with h | h
            · omega
            · have := h9 (by omega); omega
          have e8 : IntKind.u64.wrap (128 ^ i * 128) = 128 ^ (i + 1) := by
            rw [Int.pow_succ]
            have h8 : (128 : Int) ^ i ≤ 72057594037927936 := by
              have h1 : 128 ^ i ≤ 128 ^ 8 := Nat.pow_le_pow_right (by omega) (by omega)
              have e : (128 : Int) ^ i = ((128 ^ i : Nat) : Int) := by norm_cast
              rw [e]
              have : (128 : Nat) ^ 8 = 72057594037927936 := by decide
              omega
            exact wrap_u64 (by omega) (by omega)
          have : c % 128 = c - 128 := by omega
          simp only [hlt, decide_false, cond_false, e8, this, if_pos h128]
        · have hlt : c < 128 := by omega
          have : c % 128 = c := by omega
          simp only [hlt, decide_true, cond_true, this, if_neg h128]
          by_cases h0 : c = 0
          · subst h0
            by_cases hi0 : i > 0
            · have hd1 : decide (((i + 1 : Nat) : Int) > 1) = true := decide_eq_true (by omega)
              simp only [beq_self_eq_true, cond_true, hd1, hi0, and_self, if_true]
            · have hd1 : decide (((i + 1 : Nat) : Int) > 1) = false := decide_eq_false (by omega)
              simp only [beq_self_eq_true, cond_true, hd1, cond_false, hi0, and_false, if_false]
          · have h0' : (c == 0) = false := beq_false_of_ne h0
            simp only [h0', cond_false, h0, false_and, if_false]
      unfold get1
      by_cases h9 : i = 9 ∧ c > 1
      · have h9' : ((i : Int) == 9) = true := by rw [h9.1]; rfl
        have h1' : decide (c > 1) = true := decide_eq_true h9.2
        simp [h9', h1', if_pos h9, fin1]
      · have hside : i = 9 → c ≤ 1 := fun h => by
          by_cases hx : c > 1
          · exact absurd ⟨h, hx⟩ h9
          · omega
        rw [if_neg h9]
        have both : ∀ X Y : Option (Int × Int × Int × Unit), (cond ((i : Int) == 9) (cond (decide (c > 1)) X Y) Y) = Y := fun X Y => by
          cases hx : ((i : Int) == 9) with
          | false => rfl
          | true =>
            have : c ≤ 1 := hside (by have := eq_of_beq hx; omega)
            have hd : decide (c > 1) = false := decide_eq_false (by omega)
            simp only [cond_true, hd, cond_false]
        rw [j11 hside, both]
        by_cases h128 : c ≥ 128
        · have hi8 : i ≤ 8 := by
            rcases Nat.lt_or_ge i 9 with h | h
            · omega
            · have := hside (by omega); omega
          rw [if_pos h128, if_pos h128]
          have hq : (c - 128) * 128 ^ i + n < 128 ^ (i + 1) := by
            rw [Int.pow_succ]
            have : (c - 128) * 128 ^ i ≤ 127 * 128 ^ i := Int.mul_le_mul_of_nonneg_right (by omega) (by omega)
            omega
          exact ih (i + 1) _ (by omega) (by omega) (by omega) (by have : 0 ≤ (c - 128) * 128 ^ i := Int.mul_nonneg (by omega) (by omega); omega) (by omega)
        · rw [if_neg h128, if_neg h128]
          by_cases h0 : c = 0 ∧ i > 0
          · rw [if_pos h0, if_pos h0]; simp [fin1]
          · rw [if_neg h0, if_neg h0]; simp [fin1]
    · have hd : decide (((A + i : Nat) : Int) ≥ b.length) = true := decide_eq_true (by omega)
      rw [List.drop_of_length_le (by omega)]
      simp only [e0, hd, cond_true]
      simp [get1, fin1]
theorem refGet_eq (fu : Nat) (b : List Int) (hb : By b) (hl : b.length ≤ 100000) (hfu : b.length < fu) (at' : Int) : ref03Get fu b at' = some ((got b at').1, (got b at').2.1, (got b at').2.2, ()) := by
  unfold ref03Get got
  by_cases h1 : at' < 0
  · simp [h1]
  · by_cases h2 : at' > b.length
    · simp [h1, h2]
    · obtain ⟨A, rfl⟩ := Int.eq_ofNat_of_zero_le (show 0 ≤ at' by omega)
      have := ref_rounds fu (fun a c d => some (a, c, d, ())) b hb hl A (by omega) fu 0 0 (by omega) (by omega) (by omega) (by omega) (by simp)
      simp only [h1, h2, or_self, if_false, decide_false, cond_false]
      refine this.trans ?_
      simp only [Nat.add_zero, Int.toNat_natCast]
      generalize hq : get1 (b.drop A) 0 0 = q
      unfold fin1 from1
      by_cases h0 : q.2.2 = 0
      · simp [h0]
      · have hz := get1_err (b.drop A) 0 0
        rw [hq] at hz
        by_cases h3 : q.2.2 = 3
        · simp [h3, hz h0]
        · simp [h0, h3, hz h0]
theorem got_v {b : List Int} (hb : By b) (at' : Int) : 0 ≤ (got b at').1 ∧ (got b at').1 < 18446744073709551616 := by
  generalize hq : got b at' = q
  obtain ⟨v, e, er⟩ := q
  by_cases h0 : er = 0
  · subst h0
    obtain ⟨g1, g2, g3, _⟩ := got_ok hb hq
    exact ⟨g2, g3⟩
  · unfold got at hq
    split at hq
    · cases hq; simp
    · have hz := get1_err (b.drop at'.toNat) 0 0
      unfold from1 at hq
      simp only [Prod.mk.injEq] at hq
      obtain ⟨rfl, _, h3⟩ := hq
      have := (hz (by rw [h3]; exact h0)).1
      show 0 ≤ (get1 (b.drop at'.toNat) 0 0).1 ∧ _
      rw [this]; omega

theorem refPut_rounds (fu : Nat) (k2 : Int → List Int → Option (((List Int) × Unit) × (Unit))) : ∀ (k m : Nat) (n : Int) (out : List Int), k < m → 0 ≤ n → n < 128 ^ (k + 1) → n < 18446744073709551616 → out.length + k ≤ 500000 →
    ∃ last init, putN k n = init ++ [last] ∧ 0 ≤ last ∧ last < 128 ∧ ref03Put.l3 fu k2 m n out = k2 last (out ++ init) := by
  intro k
  induction k with
  | zero =>
    intro m n out hm h0 h1 _ hl
    obtain ⟨m, rfl⟩ : ∃ j, m = j + 1 := ⟨m - 1, by omega⟩
    have hn : ¬ n ≥ 128 := by have : (128 : Int) ^ (0 + 1) = 128 := by decide
                              omega
    refine ⟨n, [], by simp [putN], h0, by omega, ?_⟩
    unfold ref03Put.l3 ref03Put.b3
    simp [hn]
  | succ k ih =>
    intro m n out hm h0 h1 h64 hl
    obtain ⟨m, rfl⟩ : ∃ j, m = j + 1 := ⟨m - 1, by omega⟩
    unfold ref03Put.l3 ref03Put.b3 putN
    by_cases hn : n ≥ 128
    · have t1 : Int.tmod n 128 = n % 128 := Int.tmod_eq_emod_of_nonneg h0
      have t2 : Int.tdiv n 128 = n / 128 := Int.tdiv_eq_ediv_of_nonneg h0
      have e1 : IntKind.u64.wrap (n / 128) = n / 128 := wrap_u64 (by omega) (by omega)
      have e2 : IntKind.u8.wrap (IntKind.u64.wrap (n % 128 + 128)) = n % 128 + 128 := by rw [wrap_u64 (by omega) (by omega), wrap_u8]; omega
      rw [pow_succ128] at h1
      obtain ⟨last, init, q1, q2, q3, q4⟩ := ih m (n / 128) (out ++ [n % 128 + 128]) (by omega) (by omega) (by omega) (by omega) (by simp; omega)
      refine ⟨last, (n % 128 + 128) :: init, by rw [if_pos hn, q1]; rfl, q2, q3, ?_⟩
      have e3 : apOk out [n % 128 + 128] 1 = true := apOk1 (by simp; omega)
      simp only [hn, decide_true, cond_true, t1, t2, e1, e2, e3, chk]
      rw [q4, List.append_assoc]
      rfl
    · refine ⟨n, [], by rw [if_neg hn]; rfl, h0, by omega, ?_⟩
      simp [hn]
theorem refPut_eq (fu : Nat) (hfu : 12 ≤ fu) (b : List Int) (n : Int) (hl : b.length ≤ 400000) (h0 : 0 ≤ n) (h1 : n < 18446744073709551616) : ref03Put fu b n = some ((b ++ putN 9 n, ()), ()) := by
  have hp : (128 : Int) ^ (9 + 1) = 1180591620717411303424 := by decide
  obtain ⟨last, init, p1, p2, p3, p4⟩ := refPut_rounds fu (fun nq2 outq2 => 
      chk (apOk outq2 ([IntKind.u8.wrap nq2]) 1) <|
      let t3 := outq2 ++ ([IntKind.u8.wrap nq2])
      some ((t3, ()), (()))) 9 fu n b (by omega) h0 (by omega) h1 (by omega)
  have hlen := putN_len 9 n
  rw [p1] at hlen
  simp only [List.length_append, List.length_cons, List.length_nil] at hlen
  have e1 : IntKind.u8.wrap last = last := by rw [wrap_u8]; omega
  have e2 : apOk (b ++ init) [last] 1 = true := apOk1 (by simp; omega)
  have e3 : apOk ([] : List Int) b 1 = true := apOk1 (by simp; omega)
  unfold ref03Put
  simp only [e3, chk, cond_true, List.nil_append]
  refine p4.trans ?_
  simp only [e1, e2, chk, cond_true, p1, List.append_assoc]

/-- Do the runs rise? -/
def risesF (last : S0) : List S0 → Bool
  | [] => true
  | r :: q => (decide (last.1 < r.1) && decide (last.2.1 ≤ r.2.1)) && risesF r q
def rises : List S0 → Bool
  | [] => true
  | r :: q => risesF r q
def may16 (p : S1) : Bool := decide (p.1 ≤ 1099511627776) && (decide (p.2.1 ≤ 1099511627776) && (decide ((p.2.2.2.2.1.length : Int) ≤ 64) && (if p.2.2.1 = true then ((p.2.2.2.2.1.length : Int) == 0) else (rises p.2.2.2.2.1 && (p.2.2.2.1 == 0)))))
theorem ixS {l : List S0} {i : Nat} (h : i < l.length) : ixL ((0 : Int), (0 : Int), (0 : Int), ()) l i = l[i] := by
  unfold ixL
  simp [List.getElem?_eq_getElem h]
theorem may_rounds (fu : Nat) (k1 : Bool → Option (Bool × Unit)) (k2 : S1 → Option (Bool × Unit)) (p : S1) (hl : p.2.2.2.2.1.length ≤ 100000) : ∀ (m i : Nat) (h : i < p.2.2.2.2.1.length), p.2.2.2.2.1.length < i + 1 + m →
    snapMay.l6 fu k1 k2 m p.2.2.2.2.1 p.2.2.2.2.1.length (i + 1 : Nat) p = cond (risesF p.2.2.2.2.1[i] (p.2.2.2.2.1.drop (i + 1))) (k2 p) (k1 false) := by
  intro m
  induction m with
  | zero => intro i h h2; omega
  | succ m ih =>
    intro i h h2
    unfold snapMay.l6 snapMay.b6
    by_cases hi : i + 1 < p.2.2.2.2.1.length
    · have hi' : ((i + 1 : Nat) : Int) < p.2.2.2.2.1.length := by omega
      have hx : ixOk p.2.2.2.2.1 ((i + 1 : Nat) : Int) = true := by simp [ixOk]; omega
      have hy : ixOk p.2.2.2.2.1 (i : Int) = true := by simp [ixOk, h]
      have e0 : IntKind.i64.wrap (((i + 1 : Nat) : Int) - 1) = i := by rw [wrap_i64 (by omega) (by omega)]; omega
      have e1 : IntKind.i64.wrap (((i + 1 : Nat) : Int) + 1) = (i + 1 + 1 : Nat) := by rw [wrap_i64 (by omega) (by omega)]; rfl
      have hp : decide (((i + 1 : Nat) : Int) > 0) = true := decide_eq_true (by omega)
      rw [List.drop_eq_getElem_cons hi]
      simp only [hi', decide_true, cond_true, chk, hx, hp, e0, hy, ixS hi, ixS h, e1]
      have := ih (i + 1) hi (by omega)
      generalize p.2.2.2.2.1[i] = x
      by_cases c1 : (p.2.2.2.2.1[i + 1]).1 ≤ x.1
      · have c1' : ¬ x.1 < (p.2.2.2.2.1[i + 1]).1 := by omega
        simp only [c1, decide_true, cond_true, risesF, c1', decide_false, Bool.false_and, cond_false]
      · have c1' : x.1 < (p.2.2.2.2.1[i + 1]).1 := by omega
        by_cases c2 : (p.2.2.2.2.1[i + 1]).2.1 < x.2.1
        · have c2' : ¬ x.2.1 ≤ (p.2.2.2.2.1[i + 1]).2.1 := by omega
          simp only [c1, c2, decide_true, decide_false, cond_true, cond_false, risesF, c1', c2', Bool.and_false, Bool.false_and]
        · have c2' : x.2.1 ≤ (p.2.2.2.2.1[i + 1]).2.1 := by omega
          simp only [c1, c2, decide_false, cond_false, risesF, c1', c2', decide_true, Bool.true_and]
          exact this
    · have hi' : ¬ ((i + 1 : Nat) : Int) < p.2.2.2.2.1.length := by omega
      rw [List.drop_of_length_le (by omega)]
      simp only [hi', decide_false, cond_false, risesF, cond_true]

theorem snapMay_eq (fu : Nat) (p : S1) (hl : p.2.2.2.2.1.length ≤ 200) (hfu : 300 ≤ fu) : snapMay fu p = some (may16 p, ()) := by
  unfold snapMay may16
  by_cases h1 : p.1 > 1099511627776
  · have : ¬ p.1 ≤ 1099511627776 := by omega
    simp [h1, this]
  have h1' : p.1 ≤ 1099511627776 := by omega
  by_cases h2 : p.2.1 > 1099511627776
  · have : ¬ p.2.1 ≤ 1099511627776 := by omega
    simp [h1, h2, this]
  have h2' : p.2.1 ≤ 1099511627776 := by omega
  by_cases h3 : (p.2.2.2.2.1.length : Int) > 64
  · have : ¬ (p.2.2.2.2.1.length : Int) ≤ 64 := by omega
    simp only [h1, h2, h3, this, decide_true, decide_false, cond_true, cond_false, Bool.false_and, Bool.and_false]
  have h3' : (p.2.2.2.2.1.length : Int) ≤ 64 := by omega
  simp only [h1, h2, h3, h1', h2', h3', decide_true, decide_false, cond_false, Bool.true_and]
  cases hf : p.2.2.1 with
  | true => simp only [cond_true, if_true]
  | false =>
    simp only [cond_false, Bool.false_eq_true, if_false]
    obtain ⟨fu, rfl⟩ : ∃ k, fu = k + 1 := ⟨fu - 1, by omega⟩
    unfold snapMay.l6 snapMay.b6
    by_cases h0 : 0 < p.2.2.2.2.1.length
    · have hi : (0 : Int) < p.2.2.2.2.1.length := by omega
      have hx : ixOk p.2.2.2.2.1 (0 : Int) = true := by simp [ixOk]; omega
      have e1 : IntKind.i64.wrap ((0 : Int) + 1) = (0 + 1 : Nat) := by decide
      simp only [hi, decide_true, cond_true, chk, hx, show decide ((0 : Int) > 0) = false from rfl, cond_false, e1]
      have := may_rounds (fu + 1) (fun vq3 => some (vq3, ())) (fun b0q4 => let t6 := b0q4.2.2.2.1 == (0 : Int); some (t6, ())) p (by omega) fu 0 h0 (by omega)
      refine this.trans ?_
      have hr : rises p.2.2.2.2.1 = risesF p.2.2.2.2.1[0] (p.2.2.2.2.1.drop (0 + 1)) := by
        conv => lhs; rw [← List.drop_zero (l := p.2.2.2.2.1), List.drop_eq_getElem_cons h0]
        rfl
      rw [hr]
      cases risesF p.2.2.2.2.1[0] (p.2.2.2.2.1.drop (0 + 1)) <;> rfl
    · have hz : p.2.2.2.2.1 = [] := List.eq_nil_of_length_eq_zero (by omega)
      rw [hz]
      rfl
theorem refMay_rounds (fu : Nat) (k1 : Bool → Option (Bool × Unit)) (k2 : S1 → Option (Bool × Unit)) (p : S1) (hl : p.2.2.2.2.1.length ≤ 100000) : ∀ (m i : Nat) (h : i < p.2.2.2.2.1.length), p.2.2.2.2.1.length < i + 1 + m →
    ref16May.l2 fu k1 k2 m (i + 1 : Nat) p = cond (risesF p.2.2.2.2.1[i] (p.2.2.2.2.1.drop (i + 1))) (k2 p) (k1 false) := by
  intro m
  induction m with
  | zero => intro i h h2; omega
  | succ m ih =>
    intro i h h2
    unfold ref16May.l2 ref16May.b2
    by_cases hi : i + 1 < p.2.2.2.2.1.length
    · have hi' : ((i + 1 : Nat) : Int) < p.2.2.2.2.1.length := by omega
      have hx : ixOk p.2.2.2.2.1 ((i + 1 : Nat) : Int) = true := by simp [ixOk]; omega
      have hy : ixOk p.2.2.2.2.1 (i : Int) = true := by simp [ixOk, h]
      have e0 : IntKind.i64.wrap (((i + 1 : Nat) : Int) - 1) = i := by rw [wrap_i64 (by omega) (by omega)]; omega
      have e1 : IntKind.i64.wrap (((i + 1 : Nat) : Int) + 1) = (i + 1 + 1 : Nat) := by rw [wrap_i64 (by omega) (by omega)]; rfl
      rw [List.drop_eq_getElem_cons hi]
      simp only [hi', decide_true, cond_true, chk, hx, e0, hy, ixS hi, ixS h, e1]
      have := ih (i + 1) hi (by omega)
      generalize p.2.2.2.2.1[i] = x
      by_cases c1 : (p.2.2.2.2.1[i + 1]).1 ≤ x.1
      · have c1' : ¬ x.1 < (p.2.2.2.2.1[i + 1]).1 := by omega
        simp only [c1, decide_true, cond_true, risesF, c1', decide_false, Bool.false_and, cond_false]
      · have c1' : x.1 < (p.2.2.2.2.1[i + 1]).1 := by omega
        by_cases c2 : (p.2.2.2.2.1[i + 1]).2.1 < x.2.1
        · have c2' : ¬ x.2.1 ≤ (p.2.2.2.2.1[i + 1]).2.1 := by omega
          simp only [c1, c2, decide_true, decide_false, cond_true, cond_false, risesF, c1', c2', Bool.and_false, Bool.false_and]
        · have c2' : x.2.1 ≤ (p.2.2.2.2.1[i + 1]).2.1 := by omega
          simp only [c1, c2, decide_false, cond_false, risesF, c1', c2', decide_true, Bool.true_and]
          exact this
    · have hi' : ¬ ((i + 1 : Nat) : Int) < p.2.2.2.2.1.length := by omega
      rw [List.drop_of_length_le (by omega)]
      simp only [hi', decide_false, cond_false, risesF, cond_true]

theorem refMay_eq (fu : Nat) (p : S1) (hl : p.2.2.2.2.1.length ≤ 200) (hfu : 300 ≤ fu) : ref16May fu p = some (may16 p, ()) := by
  have hj : ∀ k1, ref16May.j8 fu k1 p = k1 (decide (p.1 ≤ 1099511627776) && (decide (p.2.1 ≤ 1099511627776) && decide ((p.2.2.2.2.1.length : Int) ≤ 64))) := fun k1 => by
    unfold ref16May.j8
    by_cases h1 : p.1 ≤ 1099511627776 <;> by_cases h2 : p.2.1 ≤ 1099511627776 <;> simp only [h1, h2, decide_true, decide_false, cond_true, cond_false, Bool.true_and, Bool.false_and]
  have hall : ref16May fu p = cond (rises p.2.2.2.2.1) (
      cond p.2.2.1 (
        let t1 := (p.2.2.2.2.1.length : Int)
        cond (decide (t1 > (0 : Int))) (
          some (false, ())) (
          cond (!p.2.2.1) (
            let t2 := p.2.2.2.1 != (0 : Int)
            cond t2 (
              some (false, ())) (
              ref16May.j8 fu (fun vq5 => 
                  some (vq5, ())) p)) (
            ref16May.j8 fu (fun vq6 => 
                some (vq6, ())) p))) (
        cond (!p.2.2.1) (
          let t3 := p.2.2.2.1 != (0 : Int)
          cond t3 (
            some (false, ())) (
            ref16May.j8 fu (fun vq7 => 
                some (vq7, ())) p)) (
          ref16May.j8 fu (fun vq8 => 
              some (vq8, ())) p))) (some (false, ())) := by
    by_cases h0 : 0 < p.2.2.2.2.1.length
    · have hr : rises p.2.2.2.2.1 = risesF p.2.2.2.2.1[0] (p.2.2.2.2.1.drop (0 + 1)) := by
        conv => lhs; rw [← List.drop_zero (l := p.2.2.2.2.1), List.drop_eq_getElem_cons h0]
        rfl
      rw [hr]
      unfold ref16May
      exact refMay_rounds fu _ _ p (by omega) fu 0 h0 (by omega)
    · have hz : p.2.2.2.2.1 = [] := List.eq_nil_of_length_eq_zero (by omega)
      have hr : rises p.2.2.2.2.1 = true := by rw [hz]; rfl
      rw [hr]
      obtain ⟨f, rfl⟩ : ∃ k, fu = k + 1 := ⟨fu - 1, by omega⟩
      have hd : decide ((1 : Int) < p.2.2.2.2.1.length) = false := decide_eq_false (by omega)
      conv => lhs; unfold ref16May ref16May.l2 ref16May.b2
      simp only [hd, cond_false, cond_true]
  rw [hall]
  unfold may16
  cases hf : p.2.2.1 with
  | true =>
    by_cases h0 : (p.2.2.2.2.1.length : Int) > 0
    · have hne : ((p.2.2.2.2.1.length : Int) == 0) = false := beq_false_of_ne (by omega)
      simp only [cond_true, if_true, h0, decide_true, hne, Bool.and_false]
      cases rises p.2.2.2.2.1 <;> rfl
    · have hz : p.2.2.2.2.1 = [] := List.eq_nil_of_length_eq_zero (by omega)
      have hr : rises p.2.2.2.2.1 = true := by rw [hz]; rfl
      have he : ((p.2.2.2.2.1.length : Int) == 0) = true := by rw [hz]; rfl
      simp only [hr, cond_true, h0, decide_false, cond_false, Bool.not_true, hj, if_true, he, Bool.and_true]
  | false =>
    simp only [cond_false, Bool.not_false, cond_true, hj, Bool.false_eq_true, if_false]
    cases hr : rises p.2.2.2.2.1 with
    | false => simp only [cond_false, Bool.false_and, Bool.and_false]
    | true =>
      cases he : (p.2.2.2.1 == (0 : Int)) with
      | true =>
        have : (p.2.2.2.1 != (0 : Int)) = false := by simp [bne, he]
        simp only [this, cond_true, cond_false, Bool.and_true]
      | false =>
        have : (p.2.2.2.1 != (0 : Int)) = true := by simp [bne, he]
        simp only [this, cond_true, Bool.and_false]

/-- The runs' writing. -/
def body16 (last : S0) : List S0 → List Int
  | [] => []
  | r :: q => putN 9 (r.1 - last.1) ++ putN 9 (r.2.1 - last.2.1) ++ putN 9 r.2.2.1 ++ body16 r q
/-- Numbers that fit. -/
def fits16 (r : S0) : Prop := (0 ≤ r.1 ∧ r.1 < 18446744073709551616) ∧ (0 ≤ r.2.1 ∧ r.2.1 < 18446744073709551616) ∧ (0 ≤ r.2.2.1 ∧ r.2.2.1 < 18446744073709551616)
theorem snapPut_rounds (fu : Nat) (hfu : 300 ≤ fu) (k2 : List Int → Option ((List Int) × Int × Unit)) (v : List S0) (hl : v.length ≤ 200) (hv : ∀ r ∈ v, fits16 r) : ∀ (m i : Nat) (b : List Int) (last : S0), i ≤ v.length → v.length < i + m → b.length ≤ 1000 + 30 * i → fits16 last → (i = 0 ∧ last = ((0 : Int), (0 : Int), (0 : Int), ()) ∨ risesF last (v.drop i) = true) → (i = 0 → rises v = true) →
    snapPut.l9 fu k2 m b v v.length i last = k2 (b ++ body16 last (v.drop i)) := by
  intro m
  induction m with
  | zero => intro i b last h1 h2; omega
  | succ m ih =>
    intro i b last h1 h2 hb hfl hr h0r
    unfold snapPut.l9 snapPut.b9
    by_cases h : i < v.length
    · have hi : (i : Int) < v.length := by omega
      have hx : ixOk v i = true := by simp [ixOk, h]
      have e1 : IntKind.i64.wrap ((i : Int) + 1) = (i + 1 : Nat) := by rw [wrap_i64 (by omega) (by omega)]; rfl
      have hf := hv _ (List.getElem_mem h)
      rw [List.drop_eq_getElem_cons h] at hr ⊢
      simp only [hi, decide_true, cond_true, chk, hx, ixS h, e1]
      have hrest : risesF v[i] (v.drop (i + 1)) = true := by
        rcases hr with ⟨hi0, _⟩ | hr
        · subst hi0
          have := h0r rfl
          rw [← List.drop_zero (l := v), List.drop_eq_getElem_cons h] at this
          exact this
        · simp only [risesF, Bool.and_eq_true] at hr
          exact hr.2
      have hle : last.1 ≤ v[i].1 ∧ last.2.1 ≤ v[i].2.1 := by
        rcases hr with ⟨_, hl0⟩ | hr
        · rw [hl0]; exact ⟨hf.1.1, hf.2.1.1⟩
        · simp only [risesF, Bool.and_eq_true, decide_eq_true_eq] at hr
          omega
      generalize v[i] = r at hf hrest hle
      obtain ⟨f1, f2, f3⟩ := hf
      obtain ⟨g1, g2, g3⟩ := hfl
      have w1 : IntKind.u64.wrap (r.1 - last.1) = r.1 - last.1 := wrap_u64 (by omega) (by omega)
      have w2 : IntKind.u64.wrap (r.2.1 - last.2.1) = r.2.1 - last.2.1 := wrap_u64 (by omega) (by omega)
      have l1 := putN_len 9 (r.1 - last.1)
      have l2 := putN_len 9 (r.2.1 - last.2.1)
      have l3 := putN_len 9 r.2.2.1
      rw [w1, w2, put_eq fu (by omega) b _ (by omega) (by omega) (by omega)]
      simp only [Option.bind_some]
      rw [put_eq fu (by omega) _ _ (by simp; omega) (by omega) (by omega)]
      simp only [Option.bind_some]
      rw [put_eq fu (by omega) _ _ (by simp; omega) (by omega) (by omega)]
      simp only [Option.bind_some]
      rw [ih (i + 1) _ r (by omega) (by omega) (by simp only [List.length_append]; omega) ⟨f1, f2, f3⟩ (.inr hrest) (fun h => by omega)]
      simp only [body16, List.append_assoc]
    · have hi : ¬ (i : Int) < v.length := by omega
      rw [List.drop_of_length_le (by omega)]
      simp only [hi, decide_false, cond_false, body16, List.append_nil]

theorem refPut16_rounds (fu : Nat) (hfu : 300 ≤ fu) (k2 : List Int → Option ((List Int) × Int × Unit)) (p : S1) (hl : p.2.2.2.2.1.length ≤ 200) (hv : ∀ r ∈ p.2.2.2.2.1, fits16 r) : ∀ (m i : Nat) (b : List Int) (last : S0), i ≤ p.2.2.2.2.1.length → p.2.2.2.2.1.length < i + m → b.length ≤ 1000 + 30 * i → fits16 last → (i = 0 ∧ last = ((0 : Int), (0 : Int), (0 : Int), ()) ∨ risesF last (p.2.2.2.2.1.drop i) = true) → (i = 0 → rises p.2.2.2.2.1 = true) → (∀ j, i = j + 1 → p.2.2.2.2.1[j]? = some last) → (i = 0 → last = ((0 : Int), (0 : Int), (0 : Int), ())) →
    ref16Put.l11 fu k2 m b p.2.2.2.2.1.length i p = k2 (b ++ body16 last (p.2.2.2.2.1.drop i)) := by
  intro m
  induction m with
  | zero => intro i b last h1 h2; omega
  | succ m ih =>
    intro i b last h1 h2 hb hfl hr h0r hlast hzero
    unfold ref16Put.l11 ref16Put.b11
    by_cases h : i < p.2.2.2.2.1.length
    · have hi : (i : Int) < p.2.2.2.2.1.length := by omega
      have hx : ixOk p.2.2.2.2.1 i = true := by simp [ixOk, h]
      have e1 : IntKind.i64.wrap ((i : Int) + 1) = (i + 1 : Nat) := by rw [wrap_i64 (by omega) (by omega)]; rfl
      have hf := hv _ (List.getElem_mem h)
      have hnext : p.2.2.2.2.1[i]? = some p.2.2.2.2.1[i] := List.getElem?_eq_getElem h
      rw [List.drop_eq_getElem_cons h] at hr ⊢
      simp only [hi, decide_true, cond_true, chk, hx, ixS h, e1]
      have hrest : risesF p.2.2.2.2.1[i] (p.2.2.2.2.1.drop (i + 1)) = true := by
        rcases hr with ⟨hi0, _⟩ | hr
        · subst hi0
          have := h0r rfl
          rw [← List.drop_zero (l := p.2.2.2.2.1), List.drop_eq_getElem_cons h] at this
          exact this
        · simp only [risesF, Bool.and_eq_true] at hr
          exact hr.2
      have hle : last.1 ≤ p.2.2.2.2.1[i].1 ∧ last.2.1 ≤ p.2.2.2.2.1[i].2.1 := by
        rcases hr with ⟨_, hl0⟩ | hr
        · rw [hl0]; exact ⟨hf.1.1, hf.2.1.1⟩
        · simp only [risesF, Bool.and_eq_true, decide_eq_true_eq] at hr
          omega
      generalize hrr : p.2.2.2.2.1[i] = r at hf hrest hle hnext
      obtain ⟨f1, f2, f3⟩ := hf
      obtain ⟨g1, g2, g3⟩ := hfl
      have l1 := putN_len 9 (r.1 - last.1)
      have l2 := putN_len 9 (r.2.1 - last.2.1)
      have l3 := putN_len 9 r.2.2.1
      have step : ∀ B, B = b ++ putN 9 (r.1 - last.1) ++ putN 9 (r.2.1 - last.2.1) ++ putN 9 r.2.2.1 → ref16Put.l11 fu k2 m B p.2.2.2.2.1.length (i + 1 : Nat) p = k2 (b ++ body16 last (r :: p.2.2.2.2.1.drop (i + 1))) := fun B hB => by
        rw [ih (i + 1) B r (by omega) (by omega) (by rw [hB]; simp only [List.length_append]; omega) ⟨f1, f2, f3⟩ (.inr hrest) (fun h => by omega) (fun j hj => by rw [show j = i by omega]; exact hnext) (fun h => by omega), hB]
        simp only [body16, List.append_assoc]
      by_cases hi0 : i = 0
      · have hz := hzero hi0
        have hd : decide ((i : Int) > 0) = false := decide_eq_false (by omega)
        have z1 : r.1 - last.1 = r.1 := by rw [hz]; simp
        have z2 : r.2.1 - last.2.1 = r.2.1 := by rw [hz]; simp
        rw [z1] at l1 step
        rw [z2] at l2 step
        simp only [hd, cond_false]
        rw [refPut_eq fu (by omega) b _ (by omega) (by omega) (by omega)]
        simp only [Option.bind_some]
        rw [refPut_eq fu (by omega) _ _ (by simp; omega) (by omega) (by omega)]
        simp only [Option.bind_some]
        rw [refPut_eq fu (by omega) _ _ (by simp; omega) (by omega) (by omega)]
        simp only [Option.bind_some]
        exact step _ rfl
      · obtain ⟨j, rfl⟩ : ∃ j, i = j + 1 := ⟨i - 1, by omega⟩
        have hd : decide (((j + 1 : Nat) : Int) > 0) = true := decide_eq_true (by omega)
        have e0 : IntKind.i64.wrap (((j + 1 : Nat) : Int) - 1) = j := by rw [wrap_i64 (by omega) (by omega)]; omega
        have hj : j < p.2.2.2.2.1.length := by omega
        have hy : ixOk p.2.2.2.2.1 (j : Int) = true := by simp [ixOk, hj]
        have hlj : p.2.2.2.2.1[j] = last := by
          have := hlast j rfl
          rw [List.getElem?_eq_getElem hj] at this
          exact Option.some.inj this
        have w1 : IntKind.u64.wrap (r.1 - last.1) = r.1 - last.1 := wrap_u64 (by omega) (by omega)
        have w2 : IntKind.u64.wrap (r.2.1 - last.2.1) = r.2.1 - last.2.1 := wrap_u64 (by omega) (by omega)
        simp only [hd, cond_true, e0, hy, ixS hj, hlj]
        rw [w1, w2, refPut_eq fu (by omega) b _ (by omega) (by omega) (by omega)]
        simp only [Option.bind_some]
        rw [refPut_eq fu (by omega) _ _ (by simp; omega) (by omega) (by omega)]
        simp only [Option.bind_some]
        rw [refPut_eq fu (by omega) _ _ (by simp; omega) (by omega) (by omega)]
        simp only [Option.bind_some]
        exact step _ rfl
    · have hi : ¬ (i : Int) < p.2.2.2.2.1.length := by omega
      rw [List.drop_of_length_le (by omega)]
      simp only [hi, decide_false, cond_false, body16, List.append_nil]

def zero16 : S0 := ((0 : Int), (0 : Int), (0 : Int), ())
/-- A state's writing. -/
def put16 (p : S1) : List Int × Int :=
  if may16 p = true then (putN 9 p.1 ++ putN 9 p.2.1 ++ (if p.2.2.1 = true then [1] ++ putN 9 p.2.2.2.1 else [0] ++ putN 9 p.2.2.2.2.1.length ++ body16 zero16 p.2.2.2.2.1), 0) else ([], 1)
structure Fits (p : S1) : Prop where
  a : 0 ≤ p.1 ∧ p.1 < 18446744073709551616
  b : 0 ≤ p.2.1 ∧ p.2.1 < 18446744073709551616
  c : 0 ≤ p.2.2.2.1 ∧ p.2.2.2.1 < 18446744073709551616
  r : ∀ r ∈ p.2.2.2.2.1, fits16 r
  l : p.2.2.2.2.1.length ≤ 200
theorem may_rises {p : S1} (h : may16 p = true) (hf : p.2.2.1 = false) : rises p.2.2.2.2.1 = true := by
  unfold may16 at h
  rw [hf] at h
  simp only [Bool.and_eq_true, Bool.false_eq_true, if_false] at h
  exact h.2.2.2.1
theorem snapPut_eq (fu : Nat) (hfu : 300 ≤ fu) (p : S1) (h : Fits p) : snapPut fu p = some ((put16 p).1, (put16 p).2, ()) := by
  unfold snapPut put16
  rw [snapMay_eq fu p h.l hfu]
  simp only [Option.bind_some]
  cases hm : may16 p with
  | false => simp
  | true =>
    have l1 := putN_len 9 p.1
    have l2 := putN_len 9 p.2.1
    have l3 := putN_len 9 (p.2.2.2.2.1.length : Int)
    have hl := h.l
    simp only [Bool.not_true, cond_false, if_true]
    rw [put_eq fu (by omega) [] _ (by simp) h.a.1 h.a.2]
    simp only [Option.bind_some, List.nil_append]
    rw [put_eq fu (by omega) _ _ (by omega) h.b.1 h.b.2]
    simp only [Option.bind_some]
    cases hf : p.2.2.1 with
    | true =>
      have e : apOk (putN 9 p.1 ++ putN 9 p.2.1) [(1 : Int)] 1 = true := apOk1 (by simp; omega)
      simp only [cond_true, e, chk, if_true]
      rw [put_eq fu (by omega) _ _ (by simp; omega) h.c.1 h.c.2]
      simp only [Option.bind_some, List.append_assoc]
    | false =>
      have e : apOk (putN 9 p.1 ++ putN 9 p.2.1) [(0 : Int)] 1 = true := apOk1 (by simp; omega)
      have w : IntKind.u64.wrap (p.2.2.2.2.1.length : Int) = p.2.2.2.2.1.length := wrap_u64 (by omega) (by omega)
      simp only [cond_false, e, chk, cond_true, w, Bool.false_eq_true, if_false]
      rw [put_eq fu (by omega) _ _ (by simp; omega) (by omega) (by omega)]
      simp only [Option.bind_some]
      have := snapPut_rounds fu hfu (fun bq2 => some (bq2, (0 : Int), ())) p.2.2.2.2.1 h.l h.r fu 0 (putN 9 p.1 ++ putN 9 p.2.1 ++ [0] ++ putN 9 (p.2.2.2.2.1.length : Int)) zero16 (by omega) (by omega) (by simp only [List.length_append, List.length_cons, List.length_nil]; omega) (by unfold fits16 zero16; simp) (.inl ⟨rfl, rfl⟩) (fun _ => may_rises hm hf)
      refine this.trans ?_
      simp only [List.drop_zero, List.append_assoc]
theorem refPut16_eq (fu : Nat) (hfu : 300 ≤ fu) (p : S1) (h : Fits p) : ref16Put fu p = some ((put16 p).1, (put16 p).2, ()) := by
  unfold ref16Put put16
  rw [refMay_eq fu p h.l hfu]
  simp only [Option.bind_some]
  cases hm : may16 p with
  | false => simp
  | true =>
    have l1 := putN_len 9 p.1
    have l2 := putN_len 9 p.2.1
    have l3 := putN_len 9 (p.2.2.2.2.1.length : Int)
    have hl := h.l
    simp only [Bool.not_true, cond_false, if_true]
    rw [refPut_eq fu (by omega) [] _ (by simp) h.a.1 h.a.2]
    simp only [Option.bind_some, List.nil_append]
    rw [refPut_eq fu (by omega) _ _ (by omega) h.b.1 h.b.2]
    simp only [Option.bind_some]
    cases hf : p.2.2.1 with
    | true =>
      have e : apOk (putN 9 p.1 ++ putN 9 p.2.1) [(1 : Int)] 1 = true := apOk1 (by simp; omega)
      simp only [cond_true, e, chk, if_true]
      rw [refPut_eq fu (by omega) _ _ (by simp; omega) h.c.1 h.c.2]
      simp only [Option.bind_some, List.append_assoc]
    | false =>
      have e : apOk (putN 9 p.1 ++ putN 9 p.2.1) [(0 : Int)] 1 = true := apOk1 (by simp; omega)
      have w : IntKind.u64.wrap (p.2.2.2.2.1.length : Int) = p.2.2.2.2.1.length := wrap_u64 (by omega) (by omega)
      simp only [cond_false, e, chk, cond_true, w, Bool.false_eq_true, if_false]
      rw [refPut_eq fu (by omega) _ _ (by simp; omega) (by omega) (by omega)]
      simp only [Option.bind_some]
      have := refPut16_rounds fu hfu (fun bq2 => some (bq2, (0 : Int), ())) p h.l h.r fu 0 (putN 9 p.1 ++ putN 9 p.2.1 ++ [0] ++ putN 9 (p.2.2.2.2.1.length : Int)) zero16 (by omega) (by omega) (by simp only [List.length_append, List.length_cons, List.length_nil]; omega) (by unfold fits16 zero16; simp) (.inl ⟨rfl, rfl⟩) (fun _ => may_rises hm hf) (fun j hj => by omega) (fun _ => rfl)
      refine this.trans ?_
      simp only [List.drop_zero, List.append_assoc]

/-- A number taken by the reader. -/
def num16 (r : O2) : Int × O2 := if r.2.2.1 = 0 then ((got r.1 r.2.1).1, (r.1, (got r.1 r.2.1).2.1, (got r.1 r.2.1).2.2, ())) else (0, r)
theorem number_eq (fu : Nat) (r : O2) (hb : By r.1) (hl : r.1.length ≤ 100000) (hfu : r.1.length < fu) : snapReaderNumber fu r = some (((num16 r).1, ()), ((num16 r).2, ())) := by
  unfold snapReaderNumber num16
  by_cases h : r.2.2.1 = 0
  · have h' : (r.2.2.1 != 0) = false := by rw [h]; rfl
    simp only [h', cond_false, packGet_eq fu r.1 hb hl hfu, Option.bind_some, if_pos h]
  · have h' : (r.2.2.1 != 0) = true := bne_iff_ne.2 h
    simp only [h', cond_true, if_neg h]
theorem num16_b (r : O2) : (num16 r).2.1 = r.1 := by unfold num16; split <;> rfl
theorem num16_v (r : O2) (hb : By r.1) : 0 ≤ (num16 r).1 ∧ (num16 r).1 < 18446744073709551616 := by
  unfold num16
  split
  · exact got_v hb _
  · simp
/-- A number told by how much it is above another one. -/
def above16 (r : O2) (n : Int) : Int × O2 :=
  ((n + (num16 r).1) % 18446744073709551616, if (n + (num16 r).1) / 18446744073709551616 > 0 ∧ (num16 r).2.2.2.1 = 0 then ((num16 r).2.1, (num16 r).2.2.1, 5, ()) else (num16 r).2)
theorem above_eq (fu : Nat) (r : O2) (n : Int) (hb : By r.1) (hl : r.1.length ≤ 100000) (hfu : r.1.length < fu) : snapReaderAbove fu r n = some (((above16 r n).1, ()), ((above16 r n).2, ())) := by
  unfold snapReaderAbove above16
  rw [number_eq fu r hb hl hfu]
  simp only [Option.bind_some]
  have e : extAdd64.f fu (n, (num16 r).1, (0 : Int), ()) = some ((n + (num16 r).1) % 18446744073709551616, (n + (num16 r).1) / 18446744073709551616, ()) := by
    show (match decide ((0 : Int) ≤ 1) with | true => some ((n + (num16 r).1 + 0) % 18446744073709551616, (n + (num16 r).1 + 0) / 18446744073709551616, ()) | false => none) = _
    rw [Int.add_zero]; rfl
  rw [e]
  show cond (decide ((n + (num16 r).1) / 18446744073709551616 > 0)) _ _ = _
  by_cases h1 : (n + (num16 r).1) / 18446744073709551616 > 0
  · by_cases h2 : (num16 r).2.2.2.1 = 0
    · have h2' : ((num16 r).2.2.2.1 == 0) = true := by rw [h2]; rfl
      rw [if_pos ⟨h1, h2⟩]
      simp only [h1, decide_true, cond_true, h2']
    · have h2' : ((num16 r).2.2.2.1 == 0) = false := beq_false_of_ne h2
      rw [if_neg (fun h => h2 h.2)]
      simp only [h1, decide_true, cond_true, h2', cond_false]
  · rw [if_neg (fun h => h1 h.1)]
    simp only [h1, decide_false, cond_false]

/-- A truth taken by the reader. -/
def flag16 (r : O2) : Bool × O2 :=
  if r.2.2.1 ≠ 0 then (false, r) else if r.2.1 ≥ r.1.length then (false, (r.1, r.2.1, 3, ())) else if ixL (0 : Int) r.1 r.2.1 > 1 then (false, (r.1, r.2.1, 2, ())) else (ixL (0 : Int) r.1 r.2.1 == 1, (r.1, r.2.1 + 1, r.2.2.1, ()))
theorem flag_eq (fu : Nat) (r : O2) (hl : r.1.length ≤ 100000) (h0 : 0 ≤ r.2.1) : snapReaderFlag fu r = some (((flag16 r).1, ()), ((flag16 r).2, ())) := by
  unfold snapReaderFlag flag16
  by_cases h : r.2.2.1 = 0
  · have h' : (r.2.2.1 != 0) = false := by rw [h]; rfl
    rw [if_neg (fun hx => hx h)]
    simp only [h', cond_false]
    by_cases h1 : r.2.1 ≥ (r.1.length : Int)
    · simp only [h1, decide_true, cond_true, if_true]
    · have hx : ixOk r.1 r.2.1 = true := by simp only [ixOk, Bool.and_eq_true, decide_eq_true_eq]; omega
      have e1 : IntKind.i64.wrap (r.2.1 + 1) = r.2.1 + 1 := wrap_i64 (by omega) (by omega)
      have e2 : IntKind.i64.wrap (r.2.1 + 1 - 1) = r.2.1 := by rw [wrap_i64 (by omega) (by omega)]; omega
      simp only [h1, decide_false, cond_false, chk, hx, cond_true, e1, e2, if_false]
      by_cases h2 : ixL (0 : Int) r.1 r.2.1 > 1
      · simp only [h2, decide_true, cond_true, if_true]
      · simp only [h2, decide_false, cond_false, if_false]
  · have h' : (r.2.2.1 != 0) = true := bne_iff_ne.2 h
    rw [if_pos h]
    simp only [h', cond_true]

/-- Runs taken by the reader. -/
def runs16 : Nat → O2 → S0 → List S0 × O2
  | 0, r, _ => ([], r)
  | k + 1, r, last => if r.2.2.1 = 0 then
      (((above16 r last.1).1, (above16 (above16 r last.1).2 last.2.1).1, (num16 (above16 (above16 r last.1).2 last.2.1).2).1, ()) :: (runs16 k (num16 (above16 (above16 r last.1).2 last.2.1).2).2 ((above16 r last.1).1, (above16 (above16 r last.1).2 last.2.1).1, (num16 (above16 (above16 r last.1).2 last.2.1).2).1, ())).1,
        (runs16 k (num16 (above16 (above16 r last.1).2 last.2.1).2).2 ((above16 r last.1).1, (above16 (above16 r last.1).2 last.2.1).1, (num16 (above16 (above16 r last.1).2 last.2.1).2).1, ())).2)
    else ([], r)
theorem above16_b (r : O2) (n : Int) : (above16 r n).2.1 = r.1 := by
  unfold above16
  split
  · exact num16_b r
  · exact num16_b r
theorem runs_rounds (fu : Nat) (k2 : List S0 → List Int → Int → Int → Option (((List S0) × Unit) × (O2 × Unit))) (B : List Int) (hB : By B) (hl : B.length ≤ 100000) (hfu : B.length < fu) (n : Nat) (hn : n ≤ 64) : ∀ (k m i : Nat) (out : List S0) (r : O2) (last : S0), r.1 = B → i + k = n → k < m → out.length ≤ 1000 + i →
    snapReaderRuns.l7 fu k2 m n out i r.1 r.2.1 r.2.2.1 last = k2 (out ++ (runs16 k r last).1) (runs16 k r last).2.1 (runs16 k r last).2.2.1 (runs16 k r last).2.2.2.1 := by
  intro k
  induction k with
  | zero =>
    intro m i out r last hr hi hm ho
    obtain ⟨m, rfl⟩ : ∃ j, m = j + 1 := ⟨m - 1, by omega⟩
    unfold snapReaderRuns.l7 snapReaderRuns.b7
    have hd : ¬ (i : Int) < n := by omega
    simp only [hd, decide_false, cond_false, runs16, List.append_nil]
  | succ k ih =>
    intro m i out r last hr hi hm ho
    obtain ⟨m, rfl⟩ : ∃ j, m = j + 1 := ⟨m - 1, by omega⟩
    unfold snapReaderRuns.l7 snapReaderRuns.b7
    have hd : (i : Int) < n := by omega
    unfold runs16
    by_cases h : r.2.2.1 = 0
    · have h' : (r.2.2.1 == 0) = true := by rw [h]; rfl
      have e1 : IntKind.u64.wrap ((i : Int) + 1) = (i + 1 : Nat) := by rw [wrap_u64 (by omega) (by omega)]; rfl
      rw [if_pos h]
      simp only [hd, decide_true, cond_true, h']
      rw [show (r.1, r.2.1, r.2.2.1, ()) = r from rfl, above_eq fu r last.1 (by rw [hr]; exact hB) (by rw [hr]; exact hl) (by rw [hr]; exact hfu)]
      simp only [Option.bind_some]
      have b1 := above16_b r last.1
      generalize above16 r last.1 = q1 at b1
      rw [above_eq fu q1.2 last.2.1 (by rw [b1, hr]; exact hB) (by rw [b1, hr]; exact hl) (by rw [b1, hr]; exact hfu)]
      simp only [Option.bind_some]
      have b2 := above16_b q1.2 last.2.1
      generalize above16 q1.2 last.2.1 = q2 at b2
      rw [number_eq fu q2.2 (by rw [b2, b1, hr]; exact hB) (by rw [b2, b1, hr]; exact hl) (by rw [b2, b1, hr]; exact hfu)]
      simp only [Option.bind_some]
      have b3 := num16_b q2.2
      generalize num16 q2.2 = q3 at b3
      have ea : apOk out [((q1.1, q2.1, q3.1, ()) : S0)] 24 = true := by
        unfold apOk
        exact decide_eq_true (Nat.le_trans (Nat.mul_le_mul_right 24 (show out.length + [((q1.1, q2.1, q3.1, ()) : S0)].length ≤ 2000 by simp; omega)) (by decide))
      simp only [ea, chk, cond_true, e1]
      refine (ih m (i + 1) _ q3.2 (q1.1, q2.1, q3.1, ()) (by rw [b3, b2, b1, hr]) (by omega) (by omega) (by simp; omega)).trans ?_
      simp only [List.append_assoc, List.cons_append, List.nil_append]
    · have h' : (r.2.2.1 == 0) = false := beq_false_of_ne h
      rw [if_neg h]
      simp only [hd, decide_true, cond_true, h', cond_false, List.append_nil]

def runsAll (r : O2) : List S0 × O2 :=
  if (num16 r).1 > 64 then (if (num16 r).2.2.2.1 = 0 then ([], ((num16 r).2.1, (num16 r).2.2.1, 12, ())) else ([], (num16 r).2)) else runs16 (num16 r).1.toNat (num16 r).2 zero16
theorem runs_stop (fu : Nat) (hfu : 1 ≤ fu) (k2 : List S0 → List Int → Int → Int → Option (((List S0) × Unit) × (O2 × Unit))) (n : Int) (hn : n > 0) (c : List Int) (a e : Int) (he : e ≠ 0) (last : S0) : snapReaderRuns.l7 fu k2 fu n [] 0 c a e last = k2 [] c a e := by
  obtain ⟨f, rfl⟩ : ∃ k, fu = k + 1 := ⟨fu - 1, by omega⟩
  unfold snapReaderRuns.l7 snapReaderRuns.b7
  have h' : (e == 0) = false := beq_false_of_ne he
  have hd : (0 : Int) < n := hn
  simp only [hd, decide_true, cond_true, h', cond_false]
theorem runsAll_eq (fu : Nat) (r : O2) (hb : By r.1) (hl : r.1.length ≤ 100000) (hfu : r.1.length + 300 ≤ fu) : snapReaderRuns fu r = some (((runsAll r).1, ()), ((runsAll r).2, ())) := by
  unfold snapReaderRuns runsAll
  rw [number_eq fu r hb hl (by omega)]
  have hv := num16_v r hb
  have hbb := num16_b r
  generalize num16 r = q at hv hbb
  simp only [Option.bind_some]
  by_cases h1 : q.1 > 64
  · simp only [h1, decide_true, cond_true, if_true]
    by_cases h2 : q.2.2.2.1 = 0
    · have h2' : (q.2.2.2.1 == 0) = true := by rw [h2]; rfl
      simp only [h2', cond_true, if_pos h2]
      unfold snapReaderRuns.j4
      rw [runs_stop fu (by omega) _ q.1 (by omega) _ _ 12 (by decide)]
    · have h2' : (q.2.2.2.1 == 0) = false := beq_false_of_ne h2
      simp only [h2', cond_false, if_neg h2]
      unfold snapReaderRuns.j4
      rw [runs_stop fu (by omega) _ q.1 (by omega) _ _ _ h2]
  · simp only [h1, decide_false, cond_false, if_false]
    unfold snapReaderRuns.j4
    obtain ⟨n, hn⟩ : ∃ n : Nat, q.1 = n := ⟨q.1.toNat, by omega⟩
    rw [hn, Int.toNat_natCast]
    have := runs_rounds fu (fun outq5 c0q5 c0q5x2 c0q5x3 => some ((outq5, ()), ((c0q5, c0q5x2, c0q5x3, ()), ()))) r.1 hb hl (by omega) n (by omega) n fu 0 [] q.2 zero16 hbb (by omega) (by omega) (by simp)
    refine this.trans ?_
    rfl

/-- The state that is read. -/
def none16 : S1 := ((0 : Int), (0 : Int), false, (0 : Int), ([] : List S0), ())
def fin16 (b : List Int) (r : O2) (s : S1) : S1 × Int :=
  if r.2.2.1 ≠ 0 then (none16, r.2.2.1) else if r.2.1 < (b.length : Int) then (none16, 2) else if may16 s = false then (none16, 1) else (s, 0)
def beg16 (b : List Int) : O2 := (b, (0 : Int), (0 : Int), ())
def tail16 (b : List Int) (x y : Int) (q : Bool × O2) : S1 × Int :=
  cond q.1 (fin16 b (num16 q.2).2 (x, y, true, (num16 q.2).1, [], ())) (fin16 b (runsAll q.2).2 (x, y, false, 0, (runsAll q.2).1, ()))
def get16 (b : List Int) : S1 × Int := tail16 b (num16 (beg16 b)).1 (num16 (num16 (beg16 b)).2).1 (flag16 (num16 (num16 (beg16 b)).2).2)
theorem flag16_b (r : O2) : (flag16 r).2.1 = r.1 := by unfold flag16; (repeat' split) <;> rfl
theorem runs16_b : ∀ (k : Nat) (r : O2) (last : S0), (runs16 k r last).2.1 = r.1 := by
  intro k
  induction k with
  | zero => intro r last; rfl
  | succ k ih =>
    intro r last
    unfold runs16
    split
    · exact (ih _ _).trans ((num16_b _).trans ((above16_b _ _).trans (above16_b _ _)))
    · rfl
theorem runs16_len : ∀ (k : Nat) (r : O2) (last : S0), (runs16 k r last).1.length ≤ k := by
  intro k
  induction k with
  | zero => intro r last; simp [runs16]
  | succ k ih =>
    intro r last
    unfold runs16
    split
    · have := ih (num16 (above16 (above16 r last.1).2 last.2.1).2).2 ((above16 r last.1).1, (above16 (above16 r last.1).2 last.2.1).1, (num16 (above16 (above16 r last.1).2 last.2.1).2).1, ())
      simp only [List.length_cons]
      omega
    · simp
theorem runsAll_b (r : O2) : (runsAll r).2.1 = r.1 := by
  unfold runsAll
  split
  · split
    · exact num16_b r
    · exact num16_b r
  · exact (runs16_b _ _ _).trans (num16_b r)
theorem runsAll_len (r : O2) : (runsAll r).1.length ≤ 64 := by
  unfold runsAll
  split
  · split <;> simp
  · have := runs16_len (num16 r).1.toNat (num16 r).2 zero16
    omega
theorem get_j7 (fu : Nat) (hfu : 300 ≤ fu) k1 (b : List Int) (a0 a1 : Int) (a2 : Bool) (a3 : Int) (a4 : List S0) (r : O2) (s : S1) (hs : s.2.2.2.2.1.length ≤ 200) :
    snapGet.j7 fu k1 b a0 a1 a2 a3 a4 r.1 r.2.1 r.2.2.1 s = k1 (fin16 b r s).2 (fin16 b r s).1.1 (fin16 b r s).1.2.1 (fin16 b r s).1.2.2.1 (fin16 b r s).1.2.2.2.1 (fin16 b r s).1.2.2.2.2.1 := by
  unfold snapGet.j7 fin16
  by_cases h : r.2.2.1 = 0
  · have h' : (r.2.2.1 != 0) = false := by rw [h]; rfl
    rw [if_neg (fun hx => hx h)]
    simp only [h', cond_false]
    by_cases h1 : r.2.1 < (b.length : Int)
    · simp only [h1, decide_true, cond_true, if_true, none16]
    · simp only [h1, decide_false, cond_false, if_false, snapMay_eq fu s hs hfu, Option.bind_some]
      cases may16 s with
      | false => simp [none16]
      | true => simp
  · have h' : (r.2.2.1 != 0) = true := bne_iff_ne.2 h
    rw [if_pos h]
    simp only [h', cond_true, none16]
theorem snapGet_eq (fu : Nat) (b : List Int) (hb : By b) (hl : b.length ≤ 90000) (hfu : b.length + 300 ≤ fu) : snapGet fu b = some ((get16 b).1, (get16 b).2, ()) := by
  unfold snapGet get16 tail16
  rw [show ((b, (0 : Int), (0 : Int), ()) : O2) = beg16 b from rfl]
  have e0 : (beg16 b).1 = b := rfl
  generalize beg16 b = r0 at e0
  rw [number_eq fu r0 (by rw [e0]; exact hb) (by rw [e0]; omega) (by rw [e0]; omega)]
  have e1 := num16_b r0
  generalize num16 r0 = q1 at e1
  rw [e0] at e1
  simp only [Option.bind_some]
  rw [number_eq fu q1.2 (by rw [e1]; exact hb) (by rw [e1]; omega) (by rw [e1]; omega)]
  have e2 := num16_b q1.2
  have p2 : 0 ≤ (num16 q1.2).2.2.1 ∨ True := .inr trivial
  have h2 : (num16 q1.2).2.2.2.1 = 0 → 0 ≤ (num16 q1.2).2.2.1 := fun he => by
    unfold num16 at he ⊢
    split at he
    · rename_i hz
      rw [if_pos hz]
      show 0 ≤ (got q1.2.1 q1.2.2.1).2.1
      have := got_ok (b := q1.2.1) (by rw [e1]; exact hb) (at' := q1.2.2.1) (v := (got q1.2.1 q1.2.2.1).1) (e := (got q1.2.1 q1.2.2.1).2.1) (by
        have he : (got q1.2.1 q1.2.2.1).2.2 = 0 := he
        rw [← he])
      obtain ⟨a1, a2, a3, j, a4, a5⟩ := this
      omega
    · rename_i hz
      exact absurd he hz
  generalize num16 q1.2 = q2 at e2 h2
  rw [e1] at e2
  simp only [Option.bind_some]
  have hf : snapReaderFlag fu q2.2 = some (((flag16 q2.2).1, ()), ((flag16 q2.2).2, ())) := by
    by_cases hz : q2.2.2.2.1 = 0
    · exact flag_eq fu q2.2 (by rw [e2]; omega) (h2 hz)
    · unfold snapReaderFlag flag16
      have h' : (q2.2.2.2.1 != 0) = true := bne_iff_ne.2 hz
      rw [if_pos hz]
      simp only [h', cond_true]
  rw [hf]
  have e3 := flag16_b q2.2
  generalize flag16 q2.2 = q3 at e3
  rw [e2] at e3
  simp only [Option.bind_some]
  cases h3 : q3.1 with
  | true =>
    rw [number_eq fu q3.2 (by rw [e3]; exact hb) (by rw [e3]; omega) (by rw [e3]; omega)]
    simp only [cond_true, Option.bind_some]
    rw [get_j7 fu (by omega) _ b _ _ _ _ _ (num16 q3.2).2 _ (by simp)]
  | false =>
    rw [runsAll_eq fu q3.2 (by rw [e3]; exact hb) (by rw [e3]; omega) (by rw [e3]; omega)]
    simp only [cond_false, Option.bind_some]
    rw [get_j7 fu (by omega) _ b _ _ _ _ _ (runsAll q3.2).2 _ (Nat.le_trans (runsAll_len q3.2) (by omega))]

/-- The document's reading. -/
theorem num_0 (b : List Int) (at' : Int) : num16 (b, at', (0 : Int), ()) = ((got b at').1, (b, (got b at').2.1, (got b at').2.2, ())) := by unfold num16; rfl
theorem num_e (r : O2) (h : r.2.2.1 ≠ 0) : num16 r = (0, r) := by unfold num16; rw [if_neg h]
theorem above_e (r : O2) (n : Int) (h0 : 0 ≤ n) (h1 : n < 18446744073709551616) (h : r.2.2.1 ≠ 0) : above16 r n = (n, r) := by
  unfold above16
  rw [num_e r h, if_neg (fun hx => h hx.2)]
  simp only [Int.add_zero, Prod.mk.injEq, and_true]
  omega
theorem runs_e : ∀ (k : Nat) (r : O2) (last : S0), r.2.2.1 ≠ 0 → runs16 k r last = ([], r)
  | 0, _, _, _ => rfl
  | k + 1, r, last, h => by unfold runs16; rw [if_neg h]
theorem got_err (b : List Int) (at' : Int) (h : (got b at').2.2 ≠ 0) : (got b at').1 = 0 ∧ (got b at').2.1 = 0 := by
  unfold got at h ⊢
  split
  · exact ⟨rfl, rfl⟩
  · rename_i hn
    rw [if_neg hn] at h
    unfold from1 at h ⊢
    simp only at h ⊢
    rw [if_neg h]
    exact ⟨(get1_err _ _ _ h).1, rfl⟩
theorem got_e {b : List Int} (hb : By b) {at' : Int} (h : (got b at').2.2 = 0) : 0 ≤ (got b at').2.1 ∧ (got b at').2.1 ≤ b.length := by
  obtain ⟨a1, a2, a3, j, a4, a5, a6, _⟩ := got_ok (b := b) hb (at' := at') (v := (got b at').1) (e := (got b at').2.1) (by rw [← h])
  omega
theorem refRuns_rounds (fu : Nat) (k1 : Int → Int → Int → Bool → Int → (List S0) → Option (S1 × Int × Unit)) (k2 : (List Int) → Int → Int → Int → Bool → Int → (List S0) → Int → Int → Bool → Int → (List S0) → Int → Int → Bool → Int → (List S0) → Option (S1 × Int × Unit))
    (B : List Int) (hB : By B) (hl : B.length ≤ 90000) (hfu : B.length < fu) (n : Nat) (hn : n ≤ 64) (a0 a1 : Int) (a2 : Bool) (a3 : Int) (a4 : List S0) (b0 b1 : Int) (b2 : Bool) (b3 : Int) (b4 : List S0) (d0 d1 : Int) (d2 : Bool) (d3 : Int) : ∀ (k m i : Nat) (out : List S0) (at' : Int) (last : S0), i + k = n → k < m → out.length ≤ 1000 + i → 0 ≤ last.1 → last.1 < 18446744073709551616 → 0 ≤ last.2.1 → last.2.1 < 18446744073709551616 →
    ref16Get.l27 fu k1 k2 m B n at' last.1 last.2.1 i a0 a1 a2 a3 a4 b0 b1 b2 b3 b4 d0 d1 d2 d3 out
      = if (runs16 k (B, at', (0 : Int), ()) last).2.2.2.1 = 0 then k2 B (runs16 k (B, at', (0 : Int), ()) last).2.2.1 a0 a1 a2 a3 a4 b0 b1 b2 b3 b4 d0 d1 d2 d3 (out ++ (runs16 k (B, at', (0 : Int), ()) last).1)
        else k1 (runs16 k (B, at', (0 : Int), ()) last).2.2.2.1 b0 b1 b2 b3 b4 := by
  intro k
  induction k with
  | zero =>
    intro m i out at' last hi hm ho l0 l1 l2 l3
    obtain ⟨m, rfl⟩ : ∃ j, m = j + 1 := ⟨m - 1, by omega⟩
    unfold ref16Get.l27 ref16Get.b27
    have hd : ¬ (i : Int) < n := by omega
    simp only [hd, decide_false, cond_false, runs16, List.append_nil, if_true]
  | succ k ih =>
    intro m i out at' last hi hm ho l0 l1 l2 l3
    obtain ⟨m, rfl⟩ : ∃ j, m = j + 1 := ⟨m - 1, by omega⟩
    unfold ref16Get.l27 ref16Get.b27
    have hd : (i : Int) < n := by omega
    have e1 : IntKind.u64.wrap ((i : Int) + 1) = (i + 1 : Nat) := by rw [wrap_u64 (by omega) (by omega)]; rfl
    have w1 : IntKind.u64.wrap ((18446744073709551615 : Int) - last.1) = 18446744073709551615 - last.1 := wrap_u64 (by omega) (by omega)
    have w2 : IntKind.u64.wrap ((18446744073709551615 : Int) - last.2.1) = 18446744073709551615 - last.2.1 := wrap_u64 (by omega) (by omega)
    unfold runs16
    rw [if_pos (show ((B, at', (0 : Int), ()) : O2).2.2.1 = 0 from rfl)]
    simp only [hd, decide_true, cond_true, refGet_eq fu B hB (by omega) hfu, Option.bind_some, w1, w2, e1]
    have v1 := got_v hB at'
    have ge := got_err B at'
    have A1 : above16 (B, at', (0 : Int), ()) last.1 = ((last.1 + (got B at').1) % 18446744073709551616, if (last.1 + (got B at').1) / 18446744073709551616 > 0 ∧ (got B at').2.2 = 0 then (B, (got B at').2.1, 5, ()) else (B, (got B at').2.1, (got B at').2.2, ())) := by
      unfold above16; rw [num_0]
    rw [A1]
    generalize got B at' = q1 at v1 ge
    obtain ⟨x1, at1, er1⟩ := q1
    simp only at v1 ge ⊢
    by_cases h1 : er1 = 0
    · subst h1
      have hz : ((0 : Int) != 0) = false := rfl
      simp only [hz, cond_false, and_true]
      by_cases c1 : x1 > 18446744073709551615 - last.1
      · have cc : (last.1 + x1) / 18446744073709551616 > 0 := by omega
        rw [if_pos cc]
        simp only [c1, decide_true, cond_true]
        rw [above_e _ last.2.1 l2 l3 (by simp), num_e _ (by simp), runs_e _ _ _ (by simp)]
        simp
      · have cc : ¬ ((last.1 + x1) / 18446744073709551616 > 0) := fun h => by omega
        have w3 : IntKind.u64.wrap (last.1 + x1) = last.1 + x1 := wrap_u64 (by omega) (by omega)
        have w3' : (last.1 + x1) % 18446744073709551616 = last.1 + x1 := by omega
        rw [if_neg cc, w3']
        simp only [c1, decide_false, cond_false, w3]
        have v2 := got_v hB at1
        have ge2 := got_err B at1
        have A2 : above16 (B, at1, (0 : Int), ()) last.2.1 = ((last.2.1 + (got B at1).1) % 18446744073709551616, if (last.2.1 + (got B at1).1) / 18446744073709551616 > 0 ∧ (got B at1).2.2 = 0 then (B, (got B at1).2.1, 5, ()) else (B, (got B at1).2.1, (got B at1).2.2, ())) := by
          unfold above16; rw [num_0]
        rw [A2]
        generalize got B at1 = q2 at v2 ge2
        obtain ⟨x2, at2, er2⟩ := q2
        simp only at v2 ge2 ⊢
        by_cases h2 : er2 = 0
        · subst h2
          simp only [hz, cond_false, and_true]
          by_cases c2 : x2 > 18446744073709551615 - last.2.1
          · have cc : (last.2.1 + x2) / 18446744073709551616 > 0 := by omega
            rw [if_pos cc]
            simp only [c2, decide_true, cond_true]
            rw [num_e _ (by simp), runs_e _ _ _ (by simp)]
            simp
          · have cc : ¬ ((last.2.1 + x2) / 18446744073709551616 > 0) := fun h => by omega
            have w4 : IntKind.u64.wrap (last.2.1 + x2) = last.2.1 + x2 := wrap_u64 (by omega) (by omega)
            have w4' : (last.2.1 + x2) % 18446744073709551616 = last.2.1 + x2 := by omega
            rw [if_neg cc, w4']
            simp only [c2, decide_false, cond_false, w4]
            rw [num_0]
            generalize got B at2 = q3
            obtain ⟨x3, at3, er3⟩ := q3
            simp only
            by_cases h3 : er3 = 0
            · subst h3
              have ea : apOk out [((last.1 + x1, last.2.1 + x2, x3, ()) : S0)] 24 = true := by
                unfold apOk
                exact decide_eq_true (Nat.le_trans (Nat.mul_le_mul_right 24 (show out.length + [((last.1 + x1, last.2.1 + x2, x3, ()) : S0)].length ≤ 2000 by simp; omega)) (by decide))
              simp only [hz, cond_false, ea, chk, cond_true]
              refine (ih m (i + 1) _ at3 (last.1 + x1, last.2.1 + x2, x3, ()) (by omega) (by omega) (by simp; omega) (by show 0 ≤ last.1 + x1; omega) (by show last.1 + x1 < _; omega) (by show 0 ≤ last.2.1 + x2; omega) (by show last.2.1 + x2 < _; omega)).trans ?_
              simp only [List.append_assoc, List.cons_append, List.nil_append]
            · have h3' : (er3 != 0) = true := bne_iff_ne.2 h3
              simp only [h3', cond_true]
              rw [runs_e _ _ _ (show ((B, at3, er3, ()) : O2).2.2.1 ≠ 0 from h3), if_neg (show ((B, at3, er3, ()) : O2).2.2.1 ≠ 0 from h3)]
        · have h2' : (er2 != 0) = true := bne_iff_ne.2 h2
          rw [if_neg (show ¬ ((last.2.1 + x2) / 18446744073709551616 > 0 ∧ er2 = 0) from fun h => h2 h.2)]
          simp only [h2', cond_true]
          rw [num_e _ (show ((B, at2, er2, ()) : O2).2.2.1 ≠ 0 from h2), runs_e _ _ _ (show ((B, at2, er2, ()) : O2).2.2.1 ≠ 0 from h2), if_neg (show ((B, at2, er2, ()) : O2).2.2.1 ≠ 0 from h2)]
    · have h1' : (er1 != 0) = true := bne_iff_ne.2 h1
      rw [if_neg (show ¬ ((last.1 + x1) / 18446744073709551616 > 0 ∧ er1 = 0) from fun h => h1 h.2)]
      simp only [h1', cond_true]
      rw [above_e _ last.2.1 l2 l3 (show ((B, at1, er1, ()) : O2).2.2.1 ≠ 0 from h1), num_e _ (show ((B, at1, er1, ()) : O2).2.2.1 ≠ 0 from h1), runs_e _ _ _ (show ((B, at1, er1, ()) : O2).2.2.1 ≠ 0 from h1), if_neg (show ((B, at1, er1, ()) : O2).2.2.1 ≠ 0 from h1)]

theorem num_b (r : O2) (b : List Int) (h : r.1 = b) : (num16 r).2.1 = b := (num16_b r).trans h
theorem runsAll_e (r : O2) (h : r.2.2.1 ≠ 0) : runsAll r = ([], r) := by
  unfold runsAll
  rw [num_e r h]
  simp only [show ¬ ((0 : Int) > 64) by decide, if_false]
  exact runs_e _ _ _ h
theorem fin16_e (b : List Int) (r : O2) (s : S1) (h : r.2.2.1 ≠ 0) : fin16 b r s = (none16, r.2.2.1) := by unfold fin16; rw [if_pos h]
theorem ref_j22 (fu : Nat) (k1 : Int → Int → Int → Bool → Int → (List S0) → Option (S1 × Int × Unit)) (B : List Int) (hB : By B) (hl : B.length ≤ 90000) (hfu : B.length + 300 ≤ fu) (n : Int) (h0 : 0 ≤ n) (at' : Int) (d0 d1 : Int) (d2 : Bool) (d3 : Int) :
    ref16Get.j22 fu k1 B n at' 0 0 false 0 [] 0 0 false 0 [] d0 d1 d2 d3 [] =
      if n > 64 then k1 12 0 0 false 0 [] else k1 (fin16 B (runs16 n.toNat (B, at', (0 : Int), ()) zero16).2 (d0, d1, d2, d3, (runs16 n.toNat (B, at', (0 : Int), ()) zero16).1, ())).2
        (fin16 B (runs16 n.toNat (B, at', (0 : Int), ()) zero16).2 (d0, d1, d2, d3, (runs16 n.toNat (B, at', (0 : Int), ()) zero16).1, ())).1.1
        (fin16 B (runs16 n.toNat (B, at', (0 : Int), ()) zero16).2 (d0, d1, d2, d3, (runs16 n.toNat (B, at', (0 : Int), ()) zero16).1, ())).1.2.1
        (fin16 B (runs16 n.toNat (B, at', (0 : Int), ()) zero16).2 (d0, d1, d2, d3, (runs16 n.toNat (B, at', (0 : Int), ()) zero16).1, ())).1.2.2.1
        (fin16 B (runs16 n.toNat (B, at', (0 : Int), ()) zero16).2 (d0, d1, d2, d3, (runs16 n.toNat (B, at', (0 : Int), ()) zero16).1, ())).1.2.2.2.1
        (fin16 B (runs16 n.toNat (B, at', (0 : Int), ()) zero16).2 (d0, d1, d2, d3, (runs16 n.toNat (B, at', (0 : Int), ()) zero16).1, ())).1.2.2.2.2.1 := by
  unfold ref16Get.j22
  by_cases h : n > 64
  · simp only [h, decide_true, cond_true, if_true]
  · obtain ⟨N, rfl⟩ := Int.eq_ofNat_of_zero_le h0
    simp only [h, decide_false, cond_false, if_false, Int.toNat_natCast]
    refine (refRuns_rounds fu _ _ B hB hl (by omega) N (by omega) 0 0 false 0 [] 0 0 false 0 [] d0 d1 d2 d3 N fu 0 [] at' zero16 (by omega) (by omega) (by simp) (by decide) (by decide) (by decide) (by decide)).trans ?_
    have hlen := runs16_len N (B, at', (0 : Int), ()) zero16
    generalize runs16 N (B, at', (0 : Int), ()) zero16 = q at hlen
    by_cases h1 : q.2.2.2.1 = 0
    · rw [if_pos h1]
      simp only [List.nil_append]
      unfold fin16
      rw [if_neg (fun hx => hx h1)]
      by_cases h2 : q.2.2.1 < (B.length : Int)
      · simp only [h2, decide_true, cond_true, if_true, none16]
      · simp only [h2, decide_false, cond_false, if_false]
        rw [refMay_eq fu _ (show q.1.length ≤ 200 by omega) (by omega)]
        simp only [Option.bind_some]
        cases may16 (d0, d1, d2, d3, q.1, ()) <;> simp [none16]
    · rw [if_neg h1, fin16_e B q.2 _ h1]
      rfl
theorem refGet16_eq (fu : Nat) (b : List Int) (hb : By b) (hl : b.length ≤ 90000) (hfu : b.length + 300 ≤ fu) : ref16Get fu b = some ((get16 b).1, (get16 b).2, ()) := by
  unfold ref16Get get16 tail16
  simp only [refGet_eq fu b hb (by omega) (show b.length < fu by omega), Option.bind_some, beg16]
  rw [num_0]
  generalize got b 0 = g1
  obtain ⟨x1, at1, e1⟩ := g1
  simp only
  by_cases h1 : e1 = 0
  case neg =>
    have h1' : (e1 != 0) = true := bne_iff_ne.2 h1
    have q : num16 (b, at1, e1, ()) = (0, (b, at1, e1, ())) := num_e _ h1
    have f : flag16 (b, at1, e1, ()) = (false, (b, at1, e1, ())) := by unfold flag16; rw [if_pos (show ((b, at1, e1, ()) : O2).2.2.1 ≠ 0 from h1)]
    have ra : runsAll (b, at1, e1, ()) = ([], (b, at1, e1, ())) := runsAll_e _ h1
    simp only [h1', cond_true, q, f, ra, cond_false]
    rw [fin16_e _ _ _ (show ((b, at1, e1, ()) : O2).2.2.1 ≠ 0 from h1)]
    rfl
  subst h1
  have hz : ((0 : Int) != 0) = false := rfl
  simp only [hz, cond_false]
  rw [num_0]
  have ge := got_e (b := b) hb (at' := at1)
  generalize got b at1 = g2 at ge
  obtain ⟨x2, at2, e2⟩ := g2
  simp only at ge ⊢
  by_cases h2 : e2 = 0
  case neg =>
    have h1' : (e2 != 0) = true := bne_iff_ne.2 h2
    have f : flag16 (b, at2, e2, ()) = (false, (b, at2, e2, ())) := by unfold flag16; rw [if_pos (show ((b, at2, e2, ()) : O2).2.2.1 ≠ 0 from h2)]
    have ra : runsAll (b, at2, e2, ()) = ([], (b, at2, e2, ())) := runsAll_e _ h2
    simp only [h1', cond_true, f, ra, cond_false]
    rw [fin16_e _ _ _ (show ((b, at2, e2, ()) : O2).2.2.1 ≠ 0 from h2)]
    rfl
  subst h2
  have ge := ge rfl
  simp only [hz, cond_false]
  by_cases h3 : at2 ≥ (b.length : Int)
  · have f : flag16 (b, at2, (0 : Int), ()) = (false, (b, at2, 3, ())) := by
      unfold flag16
      rw [if_neg (show ¬ ((b, at2, (0 : Int), ()) : O2).2.2.1 ≠ 0 from fun h => h rfl), if_pos (show ((b, at2, (0 : Int), ()) : O2).2.1 ≥ (b.length : Int) from h3)]
    have ra : runsAll (b, at2, 3, ()) = ([], (b, at2, 3, ())) := runsAll_e _ (by simp)
    simp only [h3, decide_true, cond_true, f, ra, cond_false]
    rw [fin16_e _ _ _ (by simp)]
    rfl
  have hx : ixOk b at2 = true := by simp only [ixOk, Bool.and_eq_true, decide_eq_true_eq]; omega
  simp only [h3, decide_false, cond_false, hx, chk, cond_true]
  by_cases h4 : ixL (0 : Int) b at2 > 1
  · have f : flag16 (b, at2, (0 : Int), ()) = (false, (b, at2, 2, ())) := by
      unfold flag16
      rw [if_neg (show ¬ ((b, at2, (0 : Int), ()) : O2).2.2.1 ≠ 0 from fun h => h rfl), if_neg (show ¬ ((b, at2, (0 : Int), ()) : O2).2.1 ≥ (b.length : Int) from h3), if_pos (show ixL (0 : Int) b at2 > 1 from h4)]
    have ra : runsAll (b, at2, 2, ()) = ([], (b, at2, 2, ())) := runsAll_e _ (by simp)
    simp only [h4, decide_true, cond_true, f, ra, cond_false]
    rw [fin16_e _ _ _ (by simp)]
    rfl
  have f : flag16 (b, at2, (0 : Int), ()) = (ixL (0 : Int) b at2 == 1, (b, at2 + 1, 0, ())) := by
    unfold flag16
    rw [if_neg (show ¬ ((b, at2, (0 : Int), ()) : O2).2.2.1 ≠ 0 from fun h => h rfl), if_neg (show ¬ ((b, at2, (0 : Int), ()) : O2).2.1 ≥ (b.length : Int) from h3), if_neg (show ¬ ixL (0 : Int) b at2 > 1 from h4)]
  have w : IntKind.i64.wrap (at2 + 1) = at2 + 1 := wrap_i64 (by omega) (by omega)
  simp only [h4, decide_false, cond_false, f, w]
  have v3 := got_v hb (at2 + 1)
  have n3 : num16 (b, at2 + 1, (0 : Int), ()) = ((got b (at2 + 1)).1, (b, (got b (at2 + 1)).2.1, (got b (at2 + 1)).2.2, ())) := num_0 _ _
  have ra : runsAll (b, at2 + 1, (0 : Int), ()) = if (got b (at2 + 1)).1 > 64 then (if (got b (at2 + 1)).2.2 = 0 then ([], (b, (got b (at2 + 1)).2.1, 12, ())) else ([], (b, (got b (at2 + 1)).2.1, (got b (at2 + 1)).2.2, ()))) else runs16 (got b (at2 + 1)).1.toNat (b, (got b (at2 + 1)).2.1, (got b (at2 + 1)).2.2, ()) zero16 := by
    unfold runsAll; rw [n3]
  rw [n3, ra]
  have ge3 := got_err b (at2 + 1)
  generalize got b (at2 + 1) = g3 at v3 ge3
  obtain ⟨x3, at3, e3⟩ := g3
  simp only at v3 ge3 ⊢
  by_cases h5 : e3 = 0
  case neg =>
    have h1' : (e3 != 0) = true := bne_iff_ne.2 h5
    have hx3 := (ge3 h5).1
    subst hx3
    simp only [h1', cond_true, show ¬ ((0 : Int) > 64) by decide, if_false]
    rw [runs_e _ _ _ (show ((b, at3, e3, ()) : O2).2.2.1 ≠ 0 from h5)]
    rw [fin16_e _ _ _ (show ((b, at3, e3, ()) : O2).2.2.1 ≠ 0 from h5), fin16_e _ _ _ (show ((b, at3, e3, ()) : O2).2.2.1 ≠ 0 from h5)]
    cases (ixL (0 : Int) b at2 == 1) <;> rfl
  subst h5
  simp only [hz, cond_false, if_true]
  cases h6 : (ixL (0 : Int) b at2 == 1) with
  | true =>
    simp only [cond_true]
    rw [ref_j22 fu _ b hb hl hfu 0 (by omega)]
    simp only [show ¬ ((0 : Int) > 64) by decide, if_false]
    rfl
  | false =>
    simp only [cond_false]
    rw [ref_j22 fu _ b hb hl hfu x3 v3.1]
    by_cases h7 : x3 > 64
    · simp only [h7, if_true]
      rw [fin16_e _ _ _ (by simp)]
      rfl
    · simp only [h7, if_false]

/-- What is put is got. -/
theorem num_put (a rest : List Int) (n : Int) (h0 : 0 ≤ n) (h1 : n < 18446744073709551616) : num16 (a ++ putN 9 n ++ rest, (a.length : Int), (0 : Int), ()) = (n, (a ++ putN 9 n ++ rest, ((a ++ putN 9 n).length : Int), 0, ())) := by
  rw [num_0, got_put a rest n h0 h1, List.length_append, Int.natCast_add]
theorem above_put (a rest : List Int) (l n : Int) (hl : 0 ≤ l) (h0 : l ≤ n) (h1 : n < 18446744073709551616) : above16 (a ++ putN 9 (n - l) ++ rest, (a.length : Int), (0 : Int), ()) l = (n, (a ++ putN 9 (n - l) ++ rest, ((a ++ putN 9 (n - l)).length : Int), 0, ())) := by
  unfold above16
  rw [num_put a rest (n - l) (by omega) (by omega)]
  have e : ¬ ((l + (n - l)) / 18446744073709551616 > 0) := fun h => by omega
  simp only [e, false_and, if_false]
  rw [show (l + (n - l)) % 18446744073709551616 = n by omega]
theorem runs_put : ∀ (l : List S0) (a : List Int) (last : S0), (∀ r ∈ l, fits16 r) → fits16 last → (risesF last l = true ∨ (last = zero16 ∧ rises l = true)) → runs16 l.length (a ++ body16 last l, (a.length : Int), (0 : Int), ()) last = (l, (a ++ body16 last l, ((a ++ body16 last l).length : Int), 0, ())) := by
  intro l
  induction l with
  | nil => intro a last _ _ _; simp [runs16, body16]
  | cons r l ih =>
    intro a last hf hl hr
    have fr := hf r (by simp)
    have hle : last.1 ≤ r.1 ∧ last.2.1 ≤ r.2.1 ∧ risesF r l = true := by
      rcases hr with hr | ⟨rfl, hr⟩
      · unfold risesF at hr
        simp only [Bool.and_eq_true, decide_eq_true_eq] at hr
        exact ⟨by omega, hr.1.2, hr.2⟩
      · exact ⟨fr.1.1, fr.2.1.1, hr⟩
    obtain ⟨hle1, hle2, hr'⟩ := hle
    have e : a ++ body16 last (r :: l) = a ++ putN 9 (r.1 - last.1) ++ (putN 9 (r.2.1 - last.2.1) ++ (putN 9 r.2.2.1 ++ body16 r l)) := by
      show a ++ (putN 9 (r.1 - last.1) ++ putN 9 (r.2.1 - last.2.1) ++ putN 9 r.2.2.1 ++ body16 r l) = _
      simp only [List.append_assoc]
    rw [e, List.length_cons]
    unfold runs16
    rw [if_pos (show ((_, _, (0 : Int), ()) : O2).2.2.1 = 0 from rfl), above_put a _ last.1 r.1 hl.1.1 hle1 fr.1.2]
    simp only
    have e2 : a ++ putN 9 (r.1 - last.1) ++ (putN 9 (r.2.1 - last.2.1) ++ (putN 9 r.2.2.1 ++ body16 r l)) = (a ++ putN 9 (r.1 - last.1)) ++ putN 9 (r.2.1 - last.2.1) ++ (putN 9 r.2.2.1 ++ body16 r l) := by simp only [List.append_assoc]
    rw [e2, above_put (a ++ putN 9 (r.1 - last.1)) _ last.2.1 r.2.1 hl.2.1.1 hle2 fr.2.1.2]
    simp only
    have e3 : (a ++ putN 9 (r.1 - last.1)) ++ putN 9 (r.2.1 - last.2.1) ++ (putN 9 r.2.2.1 ++ body16 r l) = ((a ++ putN 9 (r.1 - last.1)) ++ putN 9 (r.2.1 - last.2.1)) ++ putN 9 r.2.2.1 ++ body16 r l := by simp only [List.append_assoc]
    rw [e3, num_put _ _ r.2.2.1 fr.2.2.1 fr.2.2.2]
    simp only
    have := ih (((a ++ putN 9 (r.1 - last.1)) ++ putN 9 (r.2.1 - last.2.1)) ++ putN 9 r.2.2.1) r (fun x hx => hf x (by simp [hx])) fr (.inl hr')
    rw [show ((r.1, r.2.1, r.2.2.1, ()) : S0) = r from rfl, this]
theorem get_put16 (p : S1) (h : Fits p) (hm : may16 p = true) : get16 (put16 p).1 = (p, 0) := by
  obtain ⟨x, y, f, fa, l, u⟩ := p
  have fits := h
  obtain ⟨ha, hb, hc, hr, hl⟩ := h
  simp only at ha hb hc hr hl
  have hm' := hm
  unfold may16 at hm
  simp only [Bool.and_eq_true, decide_eq_true_eq] at hm
  obtain ⟨m1, m2, m3, m4⟩ := hm
  unfold put16
  rw [if_pos hm']
  cases f with
  | true =>
    simp only [if_true] at m4 ⊢
    have hl0 : l = [] := by
      have : (l.length : Int) = 0 := eq_of_beq m4
      exact List.length_eq_zero_iff.1 (by omega)
    subst hl0
    unfold get16 beg16
    have e1 : putN 9 x ++ putN 9 y ++ ([1] ++ putN 9 fa) = [] ++ putN 9 x ++ (putN 9 y ++ ([1] ++ putN 9 fa)) := by simp
    have n1 := num_put [] (putN 9 y ++ ([1] ++ putN 9 fa)) x ha.1 ha.2
    rw [← e1] at n1
    rw [show (([] : List Int).length : Int) = 0 from rfl] at n1
    rw [n1]
    simp only
    have e2 : putN 9 x ++ putN 9 y ++ ([1] ++ putN 9 fa) = ([] ++ putN 9 x) ++ putN 9 y ++ ([1] ++ putN 9 fa) := by simp
    have n2 := num_put ([] ++ putN 9 x) ([1] ++ putN 9 fa) y hb.1 hb.2
    rw [← e2] at n2
    rw [n2]
    simp only [List.nil_append]
    have hi : ixL (0 : Int) (putN 9 x ++ putN 9 y ++ ([1] ++ putN 9 fa)) ((putN 9 x ++ putN 9 y).length : Int) = 1 := by
      rw [ixL_get (by simp)]; simp
    have f1 : flag16 (putN 9 x ++ putN 9 y ++ ([1] ++ putN 9 fa), ((putN 9 x ++ putN 9 y).length : Int), (0 : Int), ()) = (true, (putN 9 x ++ putN 9 y ++ ([1] ++ putN 9 fa), ((putN 9 x ++ putN 9 y).length : Int) + 1, 0, ())) := by
      unfold flag16
      simp only [hi]
      rw [if_neg (by simp), if_neg (by simp; omega), if_neg (by decide)]
      rfl
    rw [f1]
    unfold tail16
    simp only [cond_true]
    have e3 : putN 9 x ++ putN 9 y ++ ([1] ++ putN 9 fa) = (putN 9 x ++ putN 9 y ++ [1]) ++ putN 9 fa ++ [] := by simp
    have n3 := num_put (putN 9 x ++ putN 9 y ++ [1]) [] fa hc.1 hc.2
    rw [← e3] at n3
    rw [show ((putN 9 x ++ putN 9 y).length : Int) + 1 = ((putN 9 x ++ putN 9 y ++ [1]).length : Int) by simp; omega, n3]
    unfold fin16
    rw [if_neg (by simp), if_neg (by simp), if_neg (by rw [hm']; decide)]
  | false =>
    simp only [Bool.false_eq_true, if_false] at m4 ⊢
    have m5 : rises l = true ∧ fa = 0 := by
      rw [Bool.and_eq_true] at m4
      exact ⟨m4.1, eq_of_beq m4.2⟩
    obtain ⟨m5, rfl⟩ := m5
    unfold get16 beg16
    generalize hB : putN 9 x ++ putN 9 y ++ ([0] ++ putN 9 (l.length : Int) ++ body16 zero16 l) = B
    have e1 : B = [] ++ putN 9 x ++ (putN 9 y ++ ([0] ++ putN 9 (l.length : Int) ++ body16 zero16 l)) := by rw [← hB]; simp
    have n1 := num_put [] (putN 9 y ++ ([0] ++ putN 9 (l.length : Int) ++ body16 zero16 l)) x ha.1 ha.2
    rw [← e1] at n1
    rw [show (([] : List Int).length : Int) = 0 from rfl] at n1
    rw [n1]
    simp only
    have e2 : B = ([] ++ putN 9 x) ++ putN 9 y ++ ([0] ++ putN 9 (l.length : Int) ++ body16 zero16 l) := by rw [← hB]; simp
    have n2 := num_put ([] ++ putN 9 x) ([0] ++ putN 9 (l.length : Int) ++ body16 zero16 l) y hb.1 hb.2
    rw [← e2] at n2
    rw [n2]
    simp only [List.nil_append]
    have hi : ixL (0 : Int) B ((putN 9 x ++ putN 9 y).length : Int) = 0 := by
      rw [← hB, ixL_get (by simp)]; simp
    have hBl : ((putN 9 x ++ putN 9 y).length : Int) < B.length := by rw [← hB]; simp; omega
    have f1 : flag16 (B, ((putN 9 x ++ putN 9 y).length : Int), (0 : Int), ()) = (false, (B, ((putN 9 x ++ putN 9 y).length : Int) + 1, 0, ())) := by
      unfold flag16
      simp only [hi]
      rw [if_neg (by simp), if_neg (by omega), if_neg (by decide)]
      rfl
    rw [f1]
    unfold tail16
    simp only [cond_false]
    have e3 : B = (putN 9 x ++ putN 9 y ++ [0]) ++ putN 9 (l.length : Int) ++ body16 zero16 l := by rw [← hB]; simp
    have n3 := num_put (putN 9 x ++ putN 9 y ++ [0]) (body16 zero16 l) (l.length : Int) (by omega) (by omega)
    rw [← e3] at n3
    rw [show ((putN 9 x ++ putN 9 y).length : Int) + 1 = ((putN 9 x ++ putN 9 y ++ [0]).length : Int) by simp; omega]
    unfold runsAll
    rw [n3]
    simp only [show ¬ ((l.length : Int) > 64) by omega, if_false, Int.toNat_natCast]
    have e4 : B = (putN 9 x ++ putN 9 y ++ [0] ++ putN 9 (l.length : Int)) ++ body16 zero16 l := by rw [e3]
    have r4 := runs_put l (putN 9 x ++ putN 9 y ++ [0] ++ putN 9 (l.length : Int)) zero16 hr (by unfold fits16 zero16; simp) (.inr ⟨rfl, m5⟩)
    rw [← e4] at r4
    rw [r4]
    unfold fin16
    rw [if_neg (by simp), if_neg (by simp), if_neg (by rw [hm']; decide)]

/-- What is got is put as it stood. -/
structure Took (b : List Int) (x y : Int) (w : List Int) : Prop where
  lo : 0 ≤ x
  le : x ≤ y
  hi : y ≤ b.length
  cut : cutL b x y = w
theorem Took.app {b : List Int} {x y z : Int} {v w : List Int} (h : Took b x y v) (k : Took b y z w) : Took b x z (v ++ w) :=
  ⟨h.lo, by have := h.le; have := k.le; omega, k.hi, by rw [← h.cut, ← k.cut]; exact (cut_app h.lo h.le k.le k.hi).symm⟩
theorem cutL_self (b : List Int) (x : Int) : cutL b x x = [] := by unfold cutL; simp
theorem num_ok {r : O2} (hb : By r.1) (h : (num16 r).2.2.2.1 = 0) : r.2.2.1 = 0 ∧ Took r.1 r.2.1 (num16 r).2.2.1 (putN 9 (num16 r).1) ∧ 0 ≤ (num16 r).1 ∧ (num16 r).1 < 18446744073709551616 := by
  unfold num16 at h ⊢
  by_cases hz : r.2.2.1 = 0
  · rw [if_pos hz] at h ⊢
    have h : (got r.1 r.2.1).2.2 = 0 := h
    obtain ⟨a1, a2, a3, j, a4, a5, a6, a7⟩ := got_ok (b := r.1) hb (at' := r.2.1) (v := (got r.1 r.2.1).1) (e := (got r.1 r.2.1).2.1) (by rw [← h])
    exact ⟨hz, ⟨a1, by show r.2.1 ≤ (got r.1 r.2.1).2.1; omega, by show (got r.1 r.2.1).2.1 ≤ _; omega, a7⟩, a2, a3⟩
  · rw [if_neg hz] at h
    exact absurd h hz
theorem above_ok {r : O2} {n : Int} (hb : By r.1) (h0 : 0 ≤ n) (h1 : n < 18446744073709551616) (h : (above16 r n).2.2.2.1 = 0) : r.2.2.1 = 0 ∧ Took r.1 r.2.1 (above16 r n).2.2.1 (putN 9 ((above16 r n).1 - n)) ∧ n ≤ (above16 r n).1 ∧ (above16 r n).1 < 18446744073709551616 := by
  unfold above16 at h ⊢
  have hn : (num16 r).2.2.2.1 = 0 ∧ ¬ ((n + (num16 r).1) / 18446744073709551616 > 0) := by
    by_cases hx : (n + (num16 r).1) / 18446744073709551616 > 0 ∧ (num16 r).2.2.2.1 = 0
    · rw [if_pos hx] at h
      exact absurd h (by simp)
    · rw [if_neg hx] at h
      exact ⟨h, fun h' => hx ⟨h', h⟩⟩
  obtain ⟨k1, k2, k3, k4⟩ := num_ok hb hn.1
  rw [if_neg (fun h' => hn.2 h'.1)]
  have hs : (n + (num16 r).1) % 18446744073709551616 = n + (num16 r).1 := by have := hn.2; omega
  simp only [hs]
  refine ⟨k1, ?_, by omega, by have := hn.2; omega⟩
  rw [show n + (num16 r).1 - n = (num16 r).1 by omega]
  exact k2
theorem runs_ok : ∀ (k : Nat) (r : O2) (last : S0), By r.1 → fits16 last → 0 ≤ r.2.1 → r.2.1 ≤ r.1.length → (runs16 k r last).2.2.2.1 = 0 → r.2.2.1 = 0 ∧ (runs16 k r last).1.length = k ∧ (∀ q ∈ (runs16 k r last).1, fits16 q) ∧ Took r.1 r.2.1 (runs16 k r last).2.2.1 (body16 last (runs16 k r last).1) := by
  intro k
  induction k with
  | zero =>
    intro r last hb hl h0 h1 h
    exact ⟨h, rfl, fun q hq => absurd hq (by simp [runs16]), h0, Int.le_refl _, h1, cutL_self _ _⟩
  | succ k ih =>
    intro r last hb hl h0 h1 h
    unfold runs16 at h ⊢
    by_cases hz : r.2.2.1 = 0
    · rw [if_pos hz] at h ⊢
      simp only at h ⊢
      have b1 := above16_b r last.1
      have o1 := above_ok (r := r) (n := last.1) hb hl.1.1 hl.1.2
      generalize above16 r last.1 = q1 at h b1 o1
      have b2 := above16_b q1.2 last.2.1
      have o2 := above_ok (r := q1.2) (n := last.2.1) (by rw [b1]; exact hb) hl.2.1.1 hl.2.1.2
      generalize above16 q1.2 last.2.1 = q2 at h b2 o2
      have b3 := num16_b q2.2
      have o3 := num_ok (r := q2.2) (by rw [b2, b1]; exact hb)
      generalize num16 q2.2 = q3 at h b3 o3
      -- errors stay
      by_cases he : q3.2.2.2.1 = 0
      · obtain ⟨k1, k2, k3, k4⟩ := o3 he
        obtain ⟨l1, l2, l3, l4⟩ := o2 k1
        obtain ⟨m1, m2, m3, m4⟩ := o1 l1
        have e1 : q1.2.1 = r.1 := b1
        have e2 : q2.2.1 = r.1 := b2.trans b1
        have e3 : q3.2.1 = r.1 := b3.trans e2
        rw [e2] at k2
        rw [e1] at l2
        have hlast : fits16 (q1.1, q2.1, q3.1, ()) := ⟨⟨show 0 ≤ q1.1 by have := hl.1.1; omega, m4⟩, ⟨show 0 ≤ q2.1 by have := hl.2.1.1; omega, l4⟩, k3, k4⟩
        obtain ⟨n1, n2, n3, n4⟩ := ih q3.2 (q1.1, q2.1, q3.1, ()) (by rw [e3]; exact hb) hlast (by have := k2.lo; have := k2.le; omega) (by rw [e3]; exact k2.hi) h
        rw [e3] at n4
        refine ⟨hz, by rw [List.length_cons, n2], fun q hq => ?_, ?_⟩
        · rcases List.mem_cons.1 hq with rfl | hq
          · exact hlast
          · exact n3 q hq
        · exact ((m2.app l2).app k2).app n4
      · rw [runs_e _ _ _ he] at h
        exact absurd h he
    · rw [if_neg hz] at h
      exact absurd h hz
theorem flag_ok {r : O2} (h : (flag16 r).2.2.2.1 = 0) (hb : By r.1) : r.2.2.1 = 0 ∧ (0 ≤ r.2.1 → Took r.1 r.2.1 (flag16 r).2.2.1 (if (flag16 r).1 = true then [1] else [0])) := by
  unfold flag16 at h ⊢
  by_cases hz : r.2.2.1 = 0
  · rw [if_neg (fun hx => hx hz)] at h ⊢
    by_cases h1 : r.2.1 ≥ (r.1.length : Int)
    · rw [if_pos h1] at h
      exact absurd h (by simp)
    · rw [if_neg h1] at h ⊢
      by_cases h2 : ixL (0 : Int) r.1 r.2.1 > 1
      · rw [if_pos h2] at h
        exact absurd h (by simp)
      · rw [if_neg h2]
        refine ⟨hz, fun h0 => ⟨h0, by simp only; omega, by simp only; omega, ?_⟩⟩
        simp only
        obtain ⟨N, hN⟩ := Int.eq_ofNat_of_zero_le h0
        have hlt : N < r.1.length := by omega
        rw [hN] at h2 ⊢
        rw [ixL_get hlt] at h2 ⊢
        have hv := hb _ (List.getElem_mem hlt)
        have e : cutL r.1 (N : Int) ((N : Int) + 1) = [r.1[N]] := by
          unfold cutL
          rw [Int.toNat_natCast, show ((N : Int) + 1 - N).toNat = 1 by omega, List.drop_eq_getElem_cons hlt]
          rfl
        rw [e]
        by_cases h3 : r.1[N] = 1
        · rw [h3]; rfl
        · have h4 : r.1[N] = 0 := by omega
          rw [h4]; rfl
  · rw [if_pos hz] at h
    exact absurd h hz
theorem cutL_all (b : List Int) : cutL b 0 b.length = b := by unfold cutL; simp
theorem fin_ok {b : List Int} {r : O2} {s t : S1} (h : fin16 b r s = (t, 0)) : t = s ∧ r.2.2.1 = 0 ∧ ¬ r.2.1 < (b.length : Int) ∧ may16 s = true := by
  unfold fin16 at h
  split at h
  · rename_i he; simp only [Prod.mk.injEq] at h; exact absurd h.2 he
  · rename_i he
    split at h
    · simp at h
    · rename_i h1
      split at h
      · simp at h
      · rename_i h2
        simp only [Prod.mk.injEq] at h
        exact ⟨h.1.symm, Classical.not_not.1 he, h1, by simpa using h2⟩
theorem put_get16 {b : List Int} (hb : By b) {s : S1} (h : get16 b = (s, 0)) : Fits s ∧ put16 s = (b, 0) := by
  unfold get16 at h
  have b0 : (beg16 b).1 = b := rfl
  have z0 : (beg16 b).2.1 = 0 := rfl
  generalize beg16 b = r0 at h b0 z0
  have b1 := num16_b r0
  have o1 := num_ok (r := r0) (by rw [b0]; exact hb)
  generalize num16 r0 = q1 at h b1 o1
  have b2 := num16_b q1.2
  have o2 := num_ok (r := q1.2) (by rw [b1, b0]; exact hb)
  generalize num16 q1.2 = q2 at h b2 o2
  have b3 := flag16_b q2.2
  have o3 := fun h => flag_ok (r := q2.2) h (by rw [b2, b1, b0]; exact hb)
  generalize flag16 q2.2 = q3 at h b3 o3
  have f1 : q1.2.1 = b := b1.trans b0
  have f2 : q2.2.1 = b := b2.trans f1
  have f3 : q3.2.1 = b := b3.trans f2
  rw [f2] at o3
  rw [f1] at o2
  rw [b0, z0] at o1
  have go : ∀ (he : q3.2.2.2.1 = 0), Took b 0 q3.2.2.1 (putN 9 q1.1 ++ putN 9 q2.1 ++ (if q3.1 = true then [1] else [0])) ∧ (0 ≤ q1.1 ∧ q1.1 < 18446744073709551616) ∧ (0 ≤ q2.1 ∧ q2.1 < 18446744073709551616) := fun he => by
    obtain ⟨m1, m2⟩ := o3 he
    obtain ⟨k1, k2, k3, k4⟩ := o2 m1
    obtain ⟨l1, l2, l3, l4⟩ := o1 k1
    exact ⟨(l2.app k2).app (m2 (by have := k2.lo; have := k2.le; omega)), ⟨l3, l4⟩, k3, k4⟩
  have whole : ∀ {y : Int} {w : List Int}, Took b 0 y w → ¬ y < (b.length : Int) → w = b := fun {y w} ht hy => by
    have : y = b.length := by have := ht.hi; omega
    rw [← ht.cut, this]; exact cutL_all b
  unfold tail16 at h
  cases h3 : q3.1 with
  | true =>
    rw [h3] at h go
    simp only [cond_true] at h
    obtain ⟨rfl, e1, e2, e3⟩ := fin_ok h
    have o4 := num_ok (r := q3.2) (by rw [f3]; exact hb) e1
    obtain ⟨k1, k2, k3, k4⟩ := o4
    obtain ⟨g1, g2, g3⟩ := go k1
    rw [f3] at k2
    refine ⟨⟨g2, g3, ⟨k3, k4⟩, fun r hr => (by cases hr), by simp⟩, ?_⟩
    unfold put16
    rw [if_pos e3]
    simp only [if_true, Prod.mk.injEq, and_true]
    have := whole (g1.app k2) e2
    rw [← this]
    simp only [if_true, List.append_assoc]
  | false =>
    rw [h3] at h go
    simp only [cond_false] at h
    obtain ⟨rfl, e1, e2, e3⟩ := fin_ok h
    unfold runsAll at e1 e2 e3 ⊢
    have o4 := num_ok (r := q3.2) (by rw [f3]; exact hb)
    have b4 := num16_b q3.2
    generalize num16 q3.2 = q4 at e1 e2 e3 o4 b4 ⊢
    by_cases h64 : q4.1 > 64
    · simp only [if_pos h64] at e1
      by_cases hz : q4.2.2.2.1 = 0
      · rw [if_pos hz] at e1
        exact absurd e1 (by simp)
      · rw [if_neg hz] at e1
        exact absurd e1 hz
    · simp only [if_neg h64] at e1 e2 e3 ⊢
      have f4 : q4.2.1 = b := b4.trans f3
      by_cases hz : q4.2.2.2.1 = 0
      · obtain ⟨k1, k2, k3, k4⟩ := o4 hz
        obtain ⟨g1, g2, g3⟩ := go k1
        rw [f3] at k2
        have r1 := runs_ok q4.1.toNat q4.2 zero16 (by rw [f4]; exact hb) (by unfold fits16 zero16; simp) (by have := k2.lo; have := k2.le; omega) (by rw [f4]; exact k2.hi) e1
        generalize runs16 q4.1.toNat q4.2 zero16 = q5 at e1 e2 e3 r1
        obtain ⟨n1, n2, n3, n4⟩ := r1
        rw [f4] at n4
        refine ⟨⟨g2, g3, by simp, n3, by rw [n2]; omega⟩, ?_⟩
        unfold put16
        rw [if_pos e3]
        simp only [Bool.false_eq_true, if_false, Prod.mk.injEq, and_true]
        have := whole ((g1.app k2).app n4) e2
        rw [← this, n2, show ((q4.1.toNat : Nat) : Int) = q4.1 by omega]
        simp only [Bool.false_eq_true, if_false, List.append_assoc]
      · rw [runs_e _ _ _ hz] at e1
        exact absurd e1 hz
theorem eqv_self (x : S0) : Kd.eqv kS0 x x = true := by
  obtain ⟨a, b, c, u⟩ := x
  show ((a == a) && ((b == b) && ((c == c) && true))) = true
  simp
/-- Rows that are the same, one by one. -/
def eqL : List S0 → List S0 → Bool
  | x :: r, y :: q => Kd.eqv kS0 x y && eqL r q
  | _, _ => true
theorem eqL_self : ∀ l : List S0, eqL l l = true
  | [] => rfl
  | x :: r => by
    show (Kd.eqv kS0 x x && eqL r r) = true
    rw [eqv_self, eqL_self r]; rfl
theorem same_rounds (fu : Nat) (k1 : Bool → Option (Bool × Unit)) (k2 : Unit → Option (Bool × Unit)) (p q : S1) (ha : p.2.2.2.2.1.length ≤ 100000) (hb : q.2.2.2.2.1.length = p.2.2.2.2.1.length) : ∀ (m i : Nat), i ≤ p.2.2.2.2.1.length → p.2.2.2.2.1.length < i + m →
    ref15Same.l4 fu k1 k2 m p.2.2.2.2.1.length i p q = cond (eqL (p.2.2.2.2.1.drop i) (q.2.2.2.2.1.drop i)) (k2 ()) (k1 false) := by
  intro m
  induction m with
  | zero => intro i h1 h2; omega
  | succ m ih =>
    intro i h1 h2
    unfold ref15Same.l4 ref15Same.b4
    by_cases h : i < p.2.2.2.2.1.length
    · have hi : (i : Int) < p.2.2.2.2.1.length := by omega
      have hx : ixOk p.2.2.2.2.1 i = true := by simp [ixOk, h]
      have hy : ixOk q.2.2.2.2.1 i = true := by simp [ixOk, hb, h]
      have e1 : IntKind.i64.wrap ((i : Int) + 1) = (i + 1 : Nat) := wrap_i64 (by omega) (by omega)
      rw [List.drop_eq_getElem_cons h, List.drop_eq_getElem_cons (show i < q.2.2.2.2.1.length by omega)]
      simp only [hi, decide_true, cond_true, chk, hx, hy, ixS h, ixS (show i < q.2.2.2.2.1.length by omega), e1]
      show _ = cond (Kd.eqv kS0 p.2.2.2.2.1[i] q.2.2.2.2.1[i] && eqL (p.2.2.2.2.1.drop (i + 1)) (q.2.2.2.2.1.drop (i + 1))) (k2 ()) (k1 false)
      cases Kd.eqv kS0 p.2.2.2.2.1[i] q.2.2.2.2.1[i] with
      | false => rfl
      | true => exact ih (i + 1) (by omega) (by omega)
    · have hi : ¬ (i : Int) < p.2.2.2.2.1.length := by omega
      rw [List.drop_of_length_le (by omega)]
      simp only [hi, decide_false, cond_false]
      rfl
/-- Are two states the same? -/
def same16 (p q : S1) : Bool := (p.1 == q.1) && ((p.2.1 == q.2.1) && ((p.2.2.1 == q.2.2.1) && ((p.2.2.2.1 == q.2.2.2.1) && (((p.2.2.2.2.1.length : Int) == (q.2.2.2.2.1.length : Int)) && eqL p.2.2.2.2.1 q.2.2.2.2.1))))
theorem same16_self (p : S1) : same16 p p = true := by simp [same16, eqL_self]
theorem refSame_eq (fu : Nat) (p q : S1) (ha : p.2.2.2.2.1.length ≤ 100000) (hf : p.2.2.2.2.1.length < fu) : ref15Same fu p q = some (same16 p q, ()) := by
  unfold ref15Same same16
  have key : (cond ((p.2.2.2.2.1.length : Int) != (q.2.2.2.2.1.length : Int)) (some (false, ())) (ref15Same.l4 fu (fun vq3 => some (vq3, ())) (fun (_ : Unit) => some (true, ())) fu (p.2.2.2.2.1.length : Int) (0 : Int) p q) : Option (Bool × Unit)) = some (((p.2.2.2.2.1.length : Int) == (q.2.2.2.2.1.length : Int)) && eqL p.2.2.2.2.1 q.2.2.2.2.1, ()) := by
    cases h : ((p.2.2.2.2.1.length : Int) == (q.2.2.2.2.1.length : Int)) with
    | false =>
      have : ((p.2.2.2.2.1.length : Int) != (q.2.2.2.2.1.length : Int)) = true := by simp [bne, h]
      simp only [this, cond_true, Bool.false_and]
    | true =>
      have h1 : ((p.2.2.2.2.1.length : Int) != (q.2.2.2.2.1.length : Int)) = false := by simp [bne, h]
      have := same_rounds fu (fun q => some (q, ())) (fun _ => some (true, ())) p q ha (by have := eq_of_beq h; omega) fu 0 (by omega) (by omega)
      simp only [h1, cond_false, Bool.true_and]
      refine this.trans ?_
      rw [List.drop_zero, List.drop_zero]
      cases eqL p.2.2.2.2.1 q.2.2.2.2.1 <;> rfl
  simp only [key]
  have b1 : (p.1 != q.1) = !(p.1 == q.1) := rfl
  have b2 : (p.2.1 != q.2.1) = !(p.2.1 == q.2.1) := rfl
  have b3 : (p.2.2.2.1 != q.2.2.2.1) = !(p.2.2.2.1 == q.2.2.2.1) := rfl
  rw [b1, b2, b3]
  cases p.1 == q.1 <;> cases p.2.1 == q.2.1 <;> cases p.2.2.1 == q.2.2.1 <;> cases p.2.2.2.1 == q.2.2.2.1 <;> rfl
theorem fixed16 : law16Fixed 4000 = some (true, ()) := by kernel_rfl
theorem body16_len : ∀ (l : List S0) (last : S0), (body16 last l).length ≤ 30 * l.length
  | [], _ => by simp [body16]
  | r :: l, last => by
    have h1 := putN_len 9 (r.1 - last.1)
    have h2 := putN_len 9 (r.2.1 - last.2.1)
    have h3 := putN_len 9 r.2.2.1
    have h4 := body16_len l r
    unfold body16
    simp only [List.length_append, List.length_cons]
    omega
theorem body16_by : ∀ (l : List S0) (last : S0), (∀ r ∈ l, fits16 r) → fits16 last → (risesF last l = true ∨ (last = zero16 ∧ rises l = true)) → By (body16 last l)
  | [], _, _, _, _ => fun x hx => by cases hx
  | r :: l, last, hf, hl, hr => by
    have fr := hf r (by simp)
    have hle : last.1 ≤ r.1 ∧ last.2.1 ≤ r.2.1 ∧ risesF r l = true := by
      rcases hr with hr | ⟨rfl, hr⟩
      · unfold risesF at hr
        simp only [Bool.and_eq_true, decide_eq_true_eq] at hr
        exact ⟨by omega, hr.1.2, hr.2⟩
      · exact ⟨fr.1.1, fr.2.1.1, hr⟩
    unfold body16
    exact by_app (by_app (by_app (putN_by9 _ (by omega) (by have := hl.1.1; have := fr.1.2; omega)) (putN_by9 _ (by omega) (by have := hl.2.1.1; have := fr.2.1.2; omega))) (putN_by9 _ fr.2.2.1 fr.2.2.2)) (body16_by l r (fun x hx => hf x (by simp [hx])) fr (.inl hle.2.2))
theorem put16_fits {p : S1} (h : Fits p) : By (put16 p).1 ∧ (put16 p).1.length ≤ 3000 := by
  unfold put16
  cases hm : may16 p with
  | false => simp; exact fun x hx => by cases hx
  | true =>
    have l1 := putN_len 9 p.1
    have l2 := putN_len 9 p.2.1
    have l3 := putN_len 9 (p.2.2.2.2.1.length : Int)
    have l4 := putN_len 9 p.2.2.2.1
    have l5 := body16_len p.2.2.2.2.1 zero16
    have hm' := hm
    unfold may16 at hm'
    simp only [Bool.and_eq_true, decide_eq_true_eq] at hm'
    have b1 : By ([1] : List Int) := fun x hx => by simp at hx; omega
    have b0 : By ([0] : List Int) := fun x hx => by simp at hx; omega
    rw [if_pos rfl]
    cases hf : p.2.2.1 with
    | true =>
      simp only [if_true]
      refine ⟨by_app (by_app (putN_by9 _ h.a.1 h.a.2) (putN_by9 _ h.b.1 h.b.2)) (by_app b1 (putN_by9 _ h.c.1 h.c.2)), ?_⟩
      simp only [List.length_append, List.length_cons, List.length_nil]
      omega
    | false =>
      simp only [Bool.false_eq_true, if_false]
      refine ⟨by_app (by_app (putN_by9 _ h.a.1 h.a.2) (putN_by9 _ h.b.1 h.b.2)) (by_app (by_app b0 (putN_by9 _ (by omega) (by omega))) (body16_by _ _ h.r (by unfold fits16 zero16; simp) (.inr ⟨rfl, may_rises hm hf⟩))), ?_⟩
      simp only [List.length_append, List.length_cons, List.length_nil]
      omega
theorem fitsOf {p : S1} (h : kS1.ok p) (hl : p.2.2.2.2.1.length ≤ 200) : Fits p :=
  ⟨u64Of h.1, u64Of h.2.1, u64Of h.2.2.2.1, fun r hr => ⟨u64Of (h.2.2.2.2.1.2 r hr).1, u64Of (h.2.2.2.2.1.2 r hr).2.1, u64Of (h.2.2.2.2.1.2 r hr).2.2.1⟩, hl⟩

/-- THE LAW. -/
theorem lawSnapPuts (p : S1) (hp : okAll law16SnapPuts.con.ps (p, ())) : law16SnapPuts 4000 p = some (true, ()) := by
  unfold law16SnapPuts
  rw [fixed16]
  by_cases h1 : (p.2.2.2.2.1.length : Int) > 200
  · simp only [h1, decide_true, cond_true, Option.bind_some]
  have hF := fitsOf (p := p) hp.1 (by omega)
  simp only [h1, decide_false, cond_false, snapPut_eq 4000 (by omega) p hF, refPut16_eq 4000 (by omega) p hF, Option.bind_some, Bool.not_true, bne_self_eq_false]
  cases hm : may16 p with
  | false =>
    have : (put16 p).2 = 1 := by unfold put16; rw [hm]; rfl
    rw [this]; rfl
  | true =>
    have : (put16 p).2 = 0 := by unfold put16; rw [hm]; rfl
    obtain ⟨f1, f2⟩ := put16_fits hF
    simp only [this, snapGet_eq 4000 _ f1 (by omega) (by omega), get_put16 p hF hm, Option.bind_some, bne_self_eq_false, cond_false, beq_self_eq_true, cond_true, refSame_eq 4000 p p (by have := hF.l; omega) (by have := hF.l; omega), same16_self]
/-- THE LAW. -/
theorem lawSnapGets (b : List Int) (hp : okAll law16SnapGets.con.ps (b, ())) : law16SnapGets 4000 b = some (true, ()) := by
  unfold law16SnapGets
  rw [fixed16]
  by_cases h1 : (b.length : Int) > 3000
  · simp only [h1, decide_true, cond_true, Option.bind_some]
  have hb : By b := byOf hp.1
  simp only [h1, decide_false, cond_false, snapGet_eq 4000 b hb (by omega) (by omega), refGet16_eq 4000 b hb (by omega) (by omega), Option.bind_some, Bool.not_true]
  have hlen : (get16 b).1.2.2.2.2.1.length ≤ 200 := by
    have key : ∀ (r : O2) (s : S1), s.2.2.2.2.1.length ≤ 200 → (fin16 b r s).1.2.2.2.2.1.length ≤ 200 := fun r s hs => by
      unfold fin16
      split
      · simp [none16]
      · split
        · simp [none16]
        · split
          · simp [none16]
          · exact hs
    unfold get16 tail16
    cases (flag16 (num16 (num16 (beg16 b)).2).2).1 with
    | true => exact key _ _ (by simp)
    | false => exact key _ _ (by have := runsAll_len (flag16 (num16 (num16 (beg16 b)).2).2).2; show (runsAll _).1.length ≤ 200; omega)
  rw [refSame_eq 4000 _ _ (by omega) (by omega), same16_self]
  simp only [Option.bind_some, Bool.not_true, cond_false, bne_self_eq_false]
  generalize hq : get16 b = q at hlen
  obtain ⟨s, e⟩ := q
  by_cases he : e = 0
  · subst he
    obtain ⟨hF, hput⟩ := put_get16 hb hq
    simp only [bne_self_eq_false, cond_false, snapPut_eq 4000 (by omega) s hF, hput, Option.bind_some, beq_self_eq_true, cond_true]
  · have : (e != 0) = true := bne_iff_ne.2 he
    simp only [this, cond_true]
end Go.Shal.Pr
