/- The plain laws of questions put. By an AI agent. -/
import Derived.Test.YtbhigcnmdobmoaaDoorGen10p
set_option linter.unusedVariables false
namespace Go.Shal.Pr
open Go Go.Shal Go.Proofs
abbrev Sp0 : Type := Bool × Int × Int × Unit
theorem wrap_u64 {x : Int} (h0 : 0 ≤ x) (h1 : x < 18446744073709551616) : IntKind.u64.wrap x = x := by
  simp only [IntKind.wrap, IntKind.signed, IntKind.bits]
  simp
  omega
theorem wrap_i64 {x : Int} (h0 : -9223372036854775808 ≤ x) (h1 : x < 9223372036854775808) : IntKind.i64.wrap x = x := by
  simp only [IntKind.wrap, IntKind.signed, IntKind.bits]
  simp
  omega
theorem wrap_u8 (x : Int) : IntKind.u8.wrap x = x % 256 := by
  simp only [IntKind.wrap, IntKind.signed, IntKind.bits]
  simp
theorem max2_eq (x y : Int) : max2 x y = max x y := by unfold max2; split <;> omega
def By (l : List Int) : Prop := ∀ b ∈ l, (0 : Int) ≤ b ∧ b ≤ 255
theorem by_tail {c : Int} {l : List Int} (h : By (c :: l)) : By l := fun b hb => h b (List.mem_cons_of_mem _ hb)
theorem by_cut {l : List Int} (h : By l) (a e : Int) : By (cutL l a e) := fun b hb => h b (List.mem_of_mem_drop (List.mem_of_mem_take hb))
theorem or_add (n a : Nat) (k : Nat) (h : n < 2 ^ k) (ht : n + a * 2 ^ k < 18446744073709551616) : bOr .u64 (n : Int) ((a * 2 ^ k : Nat) : Int) = (n + a * 2 ^ k : Nat) := by
  show IntKind.u64.wrap (((BitVec.ofInt 64 (n : Int) ||| BitVec.ofInt 64 ((a * 2 ^ k : Nat) : Int)).toNat : Nat) : Int) = _
  rw [BitVec.ofInt_natCast, BitVec.ofInt_natCast]
  have h1 : n < 2 ^ 64 := by omega
  have h2 : a * 2 ^ k < 2 ^ 64 := by omega
  rw [BitVec.toNat_or, BitVec.toNat_ofNat, BitVec.toNat_ofNat, Nat.mod_eq_of_lt h1, Nat.mod_eq_of_lt h2, Nat.or_comm, Nat.mul_comm a, ← Nat.two_pow_add_eq_or_of_lt h]
  rw [Nat.mul_comm a] at ht
  rw [wrap_u64 (by omega) (by omega)]
  omega
theorem shl_eq (x : Int) (k : Nat) (hk : k < 64) (h0 : 0 ≤ x) (h : x * 2 ^ k < 18446744073709551616) : sShl .u64 x (k : Int) = x * 2 ^ k := by
  unfold sShl
  have e : min (k : Int).toNat IntKind.u64.bits = k := by simp only [IntKind.bits]; omega
  rw [e]
  exact wrap_u64 (Int.mul_nonneg h0 (by exact_mod_cast Nat.zero_le _)) h
theorem shr_eq (x : Int) (k : Nat) (hk : k < 64) : sShr .u64 x (k : Int) = x / 2 ^ k := by
  unfold sShr
  have e : min (k : Int).toNat IntKind.u64.bits = k := by simp only [IntKind.bits]; omega
  rw [e, Int.fdiv_eq_ediv_of_nonneg]
  exact_mod_cast Nat.zero_le _
theorem byte_or (c : Int) (h0 : 0 ≤ c) (h : c ≤ 255) : bOr .u8 c 128 = c % 128 + 128 := by
  have key : ∀ m : Fin 256, bOr .u8 (m.val : Int) 128 = (m.val : Int) % 128 + 128 := by decide +kernel
  have := key ⟨c.toNat, by omega⟩
  simp only at this
  rw [show (c.toNat : Int) = c by omega] at this
  exact this
theorem byte_and (c : Int) (h0 : 0 ≤ c) (h : c ≤ 255) : bAnd .u8 c 127 = c % 128 := by
  have key : ∀ m : Fin 256, bAnd .u8 (m.val : Int) 127 = (m.val : Int) % 128 := by decide +kernel
  have := key ⟨c.toNat, by omega⟩
  simp only at this
  rw [show (c.toNat : Int) = c by omega] at this
  exact this
def get1 : List Int → Nat → Int → Int × Int × Int
  | [], _, _ => (0, 0, 3)
  | c :: r, i, n => if i = 9 ∧ c > 1 then (0, 0, 4) else if c ≥ 128 then get1 r (i + 1) (n + (c - 128) * 128 ^ i) else if c = 0 ∧ i > 0 then (0, 0, 2) else (n + c * 128 ^ i, (i : Int) + 1, 0)
def from1 (at' : Int) (q : Int × Int × Int) : Int × Int × Int := (q.1, if q.2.2 = 0 then at' + q.2.1 else 0, q.2.2)
def got (b : List Int) (at' : Int) : Int × Int × Int := if at' < 0 ∨ at' > b.length then (0, 0, 3) else from1 at' (get1 (b.drop at'.toNat) 0 0)
theorem pow128 (i : Nat) : (128 : Int) ^ i = ((2 ^ (7 * i) : Nat) : Int) := by
  rw [Nat.pow_mul]; norm_cast
theorem pow128_9 {i : Nat} (h : i ≤ 9) : (1 : Int) ≤ 128 ^ i ∧ (128 : Int) ^ i ≤ 9223372036854775808 := by
  have h1 : 128 ^ i ≤ 128 ^ 9 := Nat.pow_le_pow_right (by omega) h
  have h0 : 0 < 128 ^ i := Nat.pow_pos (by omega)
  have e : (128 : Int) ^ i = ((128 ^ i : Nat) : Int) := by norm_cast
  rw [e]
  have : (128 : Nat) ^ 9 = 9223372036854775808 := by decide
  omega
theorem ixL_get {l : List Int} {i : Nat} (h : i < l.length) : ixL (0 : Int) l i = l[i] := by
  unfold ixL
  simp [List.getElem?_eq_getElem h]
def fin1 (k1 : Int → Int → Int → Option (Int × Int × Int × Unit)) (k2 : Unit → Option (Int × Int × Int × Unit)) (at' : Int) (q : Int × Int × Int) : Option (Int × Int × Int × Unit) :=
  if q.2.2 = 0 then k1 q.1 (at' + q.2.1) 0 else if q.2.2 = 3 then k2 () else k1 0 0 q.2.2
theorem get_rounds (fu : Nat) k1 k2 (at' : Int) (b : List Int) (hb : By b) (ha : 0 ≤ at' ∧ at' ≤ 100000) (hl : b.length ≤ 100000) : ∀ (m i : Nat) (n : Int), i ≤ b.length → b.length < i + m → 0 ≤ n → n < 128 ^ i →
    i ≤ 9 → packGet.l5 fu k1 k2 m at' n b b.length i = fin1 k1 k2 at' (get1 (b.drop i) i n) := by
  intro m
  induction m with
  | zero => intro i n h1 h2; omega
  | succ m ih =>
    intro i n h1 h2 hn0 hn hi9
    unfold packGet.l5 packGet.b5
    by_cases hil : i < b.length
    · have hil' : (i : Int) < b.length := by omega
      have hix : ixOk b i = true := by simp [ixOk, hil]
      have e1 : IntKind.i64.wrap ((i : Int) + 1) = (i + 1 : Nat) := wrap_i64 (by omega) (by omega)
      rw [List.drop_eq_getElem_cons hil]
      have hc := hb _ (List.getElem_mem hil)
      simp only [hil', decide_true, cond_true, chk, hix, ixL_get hil]
      generalize b[i] = c at hc
      have hp := pow128_9 hi9
      have hle : ∀ q : Int, 0 ≤ q → q ≤ 127 → (i = 9 → q ≤ 1) → q * 128 ^ i + n < 18446744073709551616 := fun q h0 h1 h9 => by
        rcases Nat.lt_or_ge i 9 with h | h
        · have h8 : (128 : Int) ^ i ≤ 72057594037927936 := by
            have h1 : 128 ^ i ≤ 128 ^ 8 := Nat.pow_le_pow_right (by omega) (by omega)
            have e : (128 : Int) ^ i = ((128 ^ i : Nat) : Int) := by norm_cast
            rw [e]
            have : (128 : Nat) ^ 8 = 72057594037927936 := by decide
            omega
          have : q * 128 ^ i ≤ 127 * 72057594037927936 := Int.mul_le_mul h1 h8 (by omega) (by omega)
          omega
        · have : i = 9 := by omega
          subst this
          have := h9 rfl
          have : q * 128 ^ 9 ≤ 1 * 9223372036854775808 := Int.mul_le_mul this (by decide) (by decide) (by omega)
          omega
      have j9 : ∀ (c : Int), 0 ≤ c → c ≤ 255 → (i = 9 → c ≤ 1) → ∀ K0 K1, packGet.j9 fu K0 K1 at' n i c b b.length i = (if c ≥ 128 then K0 at' (n + (c - 128) * 128 ^ i) b b.length i else if c = 0 ∧ i > 0 then K1 0 0 2 else K1 (n + c * 128 ^ i) (at' + ((i : Int) + 1)) 0) := by
        intro c hc0 hc1 h9 K0 K1
        unfold packGet.j9 packGet.j50013
        have e2 : IntKind.u64.wrap (bAnd .u8 c 127) = c % 128 := by rw [byte_and c hc0 hc1]; exact wrap_u64 (by omega) (by omega)
        have e3 : IntKind.i64.wrap ((7 : Int) * i) = (7 * i : Nat) := by rw [wrap_i64 (by omega) (by omega)]; omega
        have hq := hle (c % 128) (by omega) (by omega) (fun h => by have := h9 h; omega)
        have hnn : 0 ≤ (c % 128) * 128 ^ i := Int.mul_nonneg (by omega) (by omega)
        have e4 : sShl .u64 (c % 128) ((7 * i : Nat) : Int) = (c % 128) * 128 ^ i := by
          have hpp : (2 : Int) ^ (7 * i) = 128 ^ i := by rw [pow128]; norm_cast
          rw [shl_eq _ (7 * i) (by omega) (by omega) (by rw [hpp]; omega), hpp]
        have e5 : bOr .u64 n ((c % 128) * 128 ^ i) = n + (c % 128) * 128 ^ i := by
          obtain ⟨N, rfl⟩ := Int.eq_ofNat_of_zero_le hn0
          obtain ⟨a, ha⟩ := Int.eq_ofNat_of_zero_le (show 0 ≤ c % 128 by omega)
          rw [ha, pow128] at hq ⊢
          rw [pow128] at hn
          have hq' : N + a * 2 ^ (7 * i) < 18446744073709551616 := by
            have : ((N + a * 2 ^ (7 * i) : Nat) : Int) < 18446744073709551616 := by rw [Int.natCast_add, Int.natCast_mul]; omega
            omega
          have := or_add N a (7 * i) (by omega) hq'
          rw [Int.natCast_add, Int.natCast_mul] at this
          exact this
        have hneg : (decide (((7 * i : Nat) : Int) < 0)) = false := decide_eq_false (by omega)
        have e6 : IntKind.i64.wrap (at' + i) = at' + i := wrap_i64 (by omega) (by omega)
        have e7 : IntKind.i64.wrap (at' + i + 1) = at' + ((i : Int) + 1) := by rw [wrap_i64 (by omega) (by omega)]; omega
        simp only [e2, e3, e4, e5, hneg, chk, Bool.not_false, cond_true, e6, e7]
        by_cases h128 : c ≥ 128
        · have : c % 128 = c - 128 := by omega
          simp only [h128, decide_true, cond_true, this, if_true]
        · have : c % 128 = c := by omega
          simp only [h128, decide_false, cond_false, this, if_false]
          by_cases h0 : c = 0
          · subst h0
            by_cases hi0 : i > 0
            · simp [hi0]
            · simp [hi0]
          · have h0' : (c == 0) = false := beq_false_of_ne h0
            simp [h0, h0']
      unfold get1
      by_cases h9 : i = 9 ∧ c > 1
      · have h9' : ((i : Int) == 9) = true := by rw [h9.1]; rfl
        have h1' : decide (c > 1) = true := decide_eq_true h9.2
        simp [h9', h1', if_pos h9, fin1]
      · have hside : i = 9 → c ≤ 1 := fun h => by
          by_cases hx : c > 1
          · exact absurd ⟨h, hx⟩ h9
          · omega
        rw [if_neg h9]
        have both : ∀ X Y : Option (Int × Int × Int × Unit), (cond ((i : Int) == 9) (cond (decide (c > 1)) X Y) Y) = Y := fun X Y => by
          cases hx : ((i : Int) == 9) with
          | false => rfl
          | true =>
            have : c ≤ 1 := hside (by have := eq_of_beq hx; omega)
            have hd : decide (c > 1) = false := decide_eq_false (by omega)
            simp only [cond_true, hd, cond_false]
        rw [j9 c hc.1 hc.2 hside, both]
        by_cases h128 : c ≥ 128
        · have hi8 : i ≤ 8 := by
            rcases Nat.lt_or_ge i 9 with h | h
            · omega
            · have := hside (by omega); omega
          rw [if_pos h128, if_pos h128]
          simp only [e1]
          have hq : (c - 128) * 128 ^ i + n < 128 ^ (i + 1) := by
            rw [Int.pow_succ]
            have : (c - 128) * 128 ^ i ≤ 127 * 128 ^ i := Int.mul_le_mul_of_nonneg_right (by omega) (by omega)
            omega
          exact ih (i + 1) _ (by omega) (by omega) (by have : 0 ≤ (c - 128) * 128 ^ i := Int.mul_nonneg (by omega) (by omega); omega) (by omega) (by omega)
        · rw [if_neg h128, if_neg h128]
          by_cases h0 : c = 0 ∧ i > 0
          · rw [if_pos h0, if_pos h0]; simp [fin1]
          · rw [if_neg h0, if_neg h0]; simp [fin1]
    · have hx : ¬ (i : Int) < b.length := by omega
      rw [List.drop_of_length_le (by omega)]
      simp [hx, get1, fin1]
theorem get1_err : ∀ (l : List Int) (i : Nat) (n : Int), (get1 l i n).2.2 ≠ 0 → (get1 l i n).1 = 0 ∧ (get1 l i n).2.1 = 0 := by
  intro l
  induction l with
  | nil => intro i n _; exact ⟨rfl, rfl⟩
  | cons c r ih =>
    intro i n
    unfold get1
    split
    · intro _; exact ⟨rfl, rfl⟩
    · split
      · exact ih _ _
      · split
        · intro _; exact ⟨rfl, rfl⟩
        · intro h; exact absurd rfl h
theorem packGet_eq (fu : Nat) (b : List Int) (hb : By b) (hl : b.length ≤ 100000) (hfu : b.length < fu) (at' : Int) : packGet fu b at' = some ((got b at').1, (got b at').2.1, (got b at').2.2, ()) := by
  unfold packGet got
  by_cases h1 : at' < 0
  · simp [h1]
  · by_cases h2 : at' > b.length
    · simp [h1, h2]
    · have hcut : cutOk b at' b.length = true := by simp [cutOk]; omega
      have e : cutL b at' b.length = b.drop at'.toNat := by
        unfold cutL
        rw [List.take_of_length_le]
        rw [List.length_drop]; omega
      have hd : By (b.drop at'.toNat) := fun x hx => hb x (List.mem_of_mem_drop hx)
      have hdl : (b.drop at'.toNat).length ≤ b.length := by rw [List.length_drop]; omega
      have hn : ¬ (at' < 0 ∨ at' > b.length) := by omega
      simp only [h1, h2, or_self, if_false, decide_false, cond_false, hcut, chk, cond_true, e]
      have := get_rounds fu (fun a c d => some (a, c, d, ())) (fun _ => some (0, 0, 3, ())) at' (b.drop at'.toNat) hd (by omega) (by omega) fu 0 0 (by omega) (by omega) (by omega) (by simp) (by omega)
      refine this.trans ?_
      rw [List.drop_zero]
      generalize hq : get1 (b.drop at'.toNat) 0 0 = q
      unfold fin1 from1
      by_cases h0 : q.2.2 = 0
      · simp [h0]
      · by_cases h3 : q.2.2 = 3
        · have hz := get1_err (b.drop at'.toNat) 0 0
          rw [hq] at hz
          simp [h3, hz h0]
        · have hz := get1_err (b.drop at'.toNat) 0 0
          rw [hq] at hz
          simp [h0, h3, hz h0]
def putN : Nat → Int → List Int
  | 0, n => [n]
  | k + 1, n => if n ≥ 128 then (n % 128 + 128) :: putN k (n / 128) else [n]
theorem putN_len : ∀ (k : Nat) (n : Int), (putN k n).length ≤ k + 1 ∧ 0 < (putN k n).length
  | 0, n => by simp [putN]
  | k + 1, n => by
    unfold putN
    split
    · have := putN_len k (n / 128)
      simp only [List.length_cons]
      omega
    · simp
theorem apOk1 {xs ys : List Int} (h : xs.length + ys.length ≤ 1000000) : apOk xs ys 1 = true := by
  unfold apOk
  exact decide_eq_true (Nat.le_trans (Nat.mul_le_mul_right 1 h) (by decide))
def tab8 : List Int := ([0, 1, 2, 2, 3, 3, 3, 3, 4, 4, 4, 4, 4, 4, 4, 4, 5, 5, 5, 5, 5, 5, 5, 5, 5, 5, 5, 5, 5, 5, 5, 5, 6, 6, 6, 6, 6, 6, 6, 6, 6, 6, 6, 6, 6, 6, 6, 6, 6, 6, 6, 6, 6, 6, 6, 6, 6, 6, 6, 6, 6, 6, 6, 6, 7, 7, 7, 7, 7, 7, 7, 7, 7, 7, 7, 7, 7, 7, 7, 7, 7, 7, 7, 7, 7, 7, 7, 7, 7, 7, 7, 7, 7, 7, 7, 7, 7, 7, 7, 7, 7, 7, 7, 7, 7, 7, 7, 7, 7, 7, 7, 7, 7, 7, 7, 7, 7, 7, 7, 7, 7, 7, 7, 7, 7, 7, 7, 7, 8, 8, 8, 8, 8, 8, 8, 8, 8, 8, 8, 8, 8, 8, 8, 8, 8, 8, 8, 8, 8, 8, 8, 8, 8, 8, 8, 8, 8, 8, 8, 8, 8, 8, 8, 8, 8, 8, 8, 8, 8, 8, 8, 8, 8, 8, 8, 8, 8, 8, 8, 8, 8, 8, 8, 8, 8, 8, 8, 8, 8, 8, 8, 8, 8, 8, 8, 8, 8, 8, 8, 8, 8, 8, 8, 8, 8, 8, 8, 8, 8, 8, 8, 8, 8, 8, 8, 8, 8, 8, 8, 8, 8, 8, 8, 8, 8, 8, 8, 8, 8, 8, 8, 8, 8, 8, 8, 8, 8, 8, 8, 8, 8, 8, 8, 8, 8, 8, 8, 8, 8, 8, 8, 8, 8, 8, 8, 8] : List Int)
theorem tab8_ok (x : Int) (h0 : 0 ≤ x) (h1 : x < 256) : ixOk tab8 x = true ∧ 0 ≤ ixL 0 tab8 x ∧ ixL 0 tab8 x ≤ 8 := by
  have key : ∀ m : Fin 256, ixOk tab8 (m.val : Int) = true ∧ 0 ≤ ixL 0 tab8 (m.val : Int) ∧ ixL 0 tab8 (m.val : Int) ≤ 8 := by decide +kernel
  have := key ⟨x.toNat, by omega⟩
  simp only at this
  rw [show (x.toNat : Int) = x by omega] at this
  exact this
theorem len_j7 (fu : Nat) k1 (x n : Int) (h0 : 0 ≤ x) (h1 : x < 65536) (hn : 0 ≤ n) (hn1 : n ≤ 100) : ∃ r, bitsLen64.j7 fu k1 x n = k1 r ∧ 0 ≤ r ∧ r ≤ n + 16 := by
  unfold bitsLen64.j7
  rw [show ([0, 1, 2, 2, 3, 3, 3, 3, 4, 4, 4, 4, 4, 4, 4, 4, 5, 5, 5, 5, 5, 5, 5, 5, 5, 5, 5, 5, 5, 5, 5, 5, 6, 6, 6, 6, 6, 6, 6, 6, 6, 6, 6, 6, 6, 6, 6, 6, 6, 6, 6, 6, 6, 6, 6, 6, 6, 6, 6, 6, 6, 6, 6, 6, 7, 7, 7, 7, 7, 7, 7, 7, 7, 7, 7, 7, 7, 7, 7, 7, 7, 7, 7, 7, 7, 7, 7, 7, 7, 7, 7, 7, 7, 7, 7, 7, 7, 7, 7, 7, 7, 7, 7, 7, 7, 7, 7, 7, 7, 7, 7, 7, 7, 7, 7, 7, 7, 7, 7, 7, 7, 7, 7, 7, 7, 7, 7, 7, 8, 8, 8, 8, 8, 8, 8, 8, 8, 8, 8, 8, 8, 8, 8, 8, 8, 8, 8, 8, 8, 8, 8, 8, 8, 8, 8, 8, 8, 8, 8, 8, 8, 8, 8, 8, 8, 8, 8, 8, 8, 8, 8, 8, 8, 8, 8, 8, 8, 8, 8, 8, 8, 8, 8, 8, 8, 8, 8, 8, 8, 8, 8, 8, 8, 8, 8, 8, 8, 8, 8, 8, 8, 8, 8, 8, 8, 8, 8, 8, 8, 8, 8, 8, 8, 8, 8, 8, 8, 8, 8, 8, 8, 8, 8, 8, 8, 8, 8, 8, 8, 8, 8, 8, 8, 8, 8, 8, 8, 8, 8, 8, 8, 8, 8, 8, 8, 8, 8, 8, 8, 8, 8, 8, 8, 8, 8, 8] : List Int) = tab8 from rfl]
  have fits : ∀ y : Int, 0 ≤ y → y ≤ 1000 → IntKind.i64.wrap y = y := fun y a b => wrap_i64 (by omega) (by omega)
  by_cases h : x ≥ 256
  · have e1 : sShr .u64 x 8 = x / 256 := by have := shr_eq x 8 (by omega); simpa using this
    have e2 : IntKind.u8.wrap (x / 256) = x / 256 := by rw [wrap_u8]; omega
    obtain ⟨q1, q2, q3⟩ := tab8_ok (x / 256) (by omega) (by omega)
    simp only [h, decide_true, cond_true, e1, e2, q1, chk]
    rw [fits (n + 8) (by omega) (by omega), fits (ixL 0 tab8 (x / 256)) q2 (by omega), fits _ (by omega) (by omega)]
    exact ⟨_, rfl, by omega, by omega⟩
  · obtain ⟨q1, q2, q3⟩ := tab8_ok x (by omega) (by omega)
    have e2 : IntKind.u8.wrap x = x := by rw [wrap_u8]; omega
    simp only [h, decide_false, cond_false, e2, q1, chk, cond_true]
    rw [fits (ixL 0 tab8 x) q2 (by omega), fits _ (by omega) (by omega)]
    exact ⟨_, rfl, by omega, by omega⟩
theorem len_j4 (fu : Nat) k1 (x n : Int) (h0 : 0 ≤ x) (h1 : x < 4294967296) (hn : 0 ≤ n) (hn1 : n ≤ 64) : ∃ r, bitsLen64.j4 fu k1 x n = k1 r ∧ 0 ≤ r ∧ r ≤ n + 32 := by
  unfold bitsLen64.j4
  by_cases h : x ≥ 65536
  · have e1 : sShr .u64 x 16 = x / 65536 := by have := shr_eq x 16 (by omega); simpa using this
    have e2 : IntKind.i64.wrap (n + 16) = n + 16 := wrap_i64 (by omega) (by omega)
    simp only [h, decide_true, cond_true, e1, e2]
    obtain ⟨r, h1, h2, h3⟩ := len_j7 fu (fun q => k1 q) (x / 65536) (n + 16) (by omega) (by omega) (by omega) (by omega)
    exact ⟨r, h1, h2, by omega⟩
  · simp only [h, decide_false, cond_false]
    obtain ⟨r, h1, h2, h3⟩ := len_j7 fu (fun q => k1 q) x n (by omega) (by omega) (by omega) (by omega)
    exact ⟨r, h1, h2, by omega⟩
theorem len64_le (fu : Nat) (n : Int) (h0 : 0 ≤ n) (h1 : n < 18446744073709551616) : ∃ r, bitsLen64 fu n = some (r, ()) ∧ 0 ≤ r ∧ r ≤ 64 := by
  unfold bitsLen64
  by_cases h : n ≥ 4294967296
  · have e1 : sShr .u64 n 32 = n / 4294967296 := by have := shr_eq n 32 (by omega); simpa using this
    simp only [h, decide_true, cond_true, e1]
    obtain ⟨r, h1, h2, h3⟩ := len_j4 fu (fun q => some (q, ())) (n / 4294967296) 32 (by omega) (by omega) (by omega) (by omega)
    exact ⟨r, h1, h2, by omega⟩
  · simp only [h, decide_false, cond_false]
    obtain ⟨r, h1, h2, h3⟩ := len_j4 fu (fun q => some (q, ())) n 0 (by omega) (by omega) (by omega) (by omega)
    exact ⟨r, h1, h2, by omega⟩
theorem size_le (fu : Nat) (n : Int) (h0 : 0 ≤ n) (h1 : n < 18446744073709551616) : ∃ r, packSize fu n = some (r, ()) ∧ 0 ≤ r ∧ r ≤ 10 := by
  unfold packSize
  obtain ⟨r, q1, q2, q3⟩ := len64_le fu n h0 h1
  have e1 : IntKind.i64.wrap (max2 r 1 + 6) = max r 1 + 6 := by rw [max2_eq, wrap_i64 (by omega) (by omega)]
  have e2 : Int.tdiv (max r 1 + 6) 7 = (max r 1 + 6) / 7 := Int.tdiv_eq_ediv_of_nonneg (by omega)
  have e3 : IntKind.i64.wrap ((max r 1 + 6) / 7) = (max r 1 + 6) / 7 := wrap_i64 (by omega) (by omega)
  simp only [q1, Option.bind_some, e1, e2, e3]
  exact ⟨_, rfl, by omega, by omega⟩
theorem own_eq (fu : Nat) (b : List Int) (room : Int) (hl : b.length ≤ 500000) (h0 : 0 ≤ room) (h1 : room ≤ 1000) : packOwn fu b room = some ((b, ()), ()) := by
  unfold packOwn
  have e1 : IntKind.i64.wrap ((b.length : Int) + room) = b.length + room := wrap_i64 (by omega) (by omega)
  have e2 : mkOk 0 ((b.length : Int) + room) 1 = true := by
    have hL : (1000000 : Int) ≤ (LIM : Int) := by decide
    unfold mkOk
    simp only [Bool.and_eq_true, decide_eq_true_eq]
    omega
  have e3 : apOk ([] : List Int) b 1 = true := apOk1 (by simp; omega)
  simp only [e1, e2, chk, cond_true, Int.toNat_zero, List.replicate_zero, e3, List.nil_append]
theorem pow_succ128 (k : Nat) : (128 : Int) ^ (k + 1) = 128 * 128 ^ k := by rw [Int.pow_succ, Int.mul_comm]
theorem putO_rounds (fu : Nat) (k2 : Int → List Int → Option (((List Int) × Unit) × (Unit))) : ∀ (k m : Nat) (n : Int) (out : List Int), k < m → 0 ≤ n → n < 128 ^ (k + 1) → out.length + k ≤ 500000 →
    ∃ last init, putN k n = init ++ [last] ∧ 0 ≤ last ∧ last < 128 ∧ packPut.l2 fu k2 m n out = k2 last (out ++ init) := by
  intro k
  induction k with
  | zero =>
    intro m n out hm h0 h1 hl
    obtain ⟨m, rfl⟩ : ∃ j, m = j + 1 := ⟨m - 1, by omega⟩
    have hn : ¬ n ≥ 128 := by have : (128 : Int) ^ (0 + 1) = 128 := by decide
                              omega
    refine ⟨n, [], by simp [putN], h0, by omega, ?_⟩
    unfold packPut.l2 packPut.b2
    simp [hn]
  | succ k ih =>
    intro m n out hm h0 h1 hl
    obtain ⟨m, rfl⟩ : ∃ j, m = j + 1 := ⟨m - 1, by omega⟩
    unfold packPut.l2 packPut.b2 putN
    by_cases hn : n ≥ 128
    · have e1 : sShr .u64 n 7 = n / 128 := by have := shr_eq n 7 (by omega); simpa using this
      have e2 : bOr .u8 (IntKind.u8.wrap n) 128 = n % 128 + 128 := by rw [wrap_u8, byte_or _ (by omega) (by omega)]; omega
      rw [pow_succ128] at h1
      obtain ⟨last, init, q1, q2, q3, q4⟩ := ih m (n / 128) (out ++ [n % 128 + 128]) (by omega) (by omega) (by omega) (by simp; omega)
      refine ⟨last, (n % 128 + 128) :: init, by rw [if_pos hn, q1]; rfl, q2, q3, ?_⟩
      have e3 : apOk out [n % 128 + 128] 1 = true := apOk1 (by simp; omega)
      simp only [hn, decide_true, cond_true, e1, e2, e3, chk]
      rw [q4, List.append_assoc]
      rfl
    · refine ⟨n, [], by rw [if_neg hn]; rfl, h0, by omega, ?_⟩
      simp [hn]
theorem get_put : ∀ (k i : Nat) (l : List Int) (n v e : Int), By l → i + k = 9 → get1 l i n = (v, e, 0) →
    ∃ (m : Int) (j : Nat), v = n + m * 128 ^ i ∧ 0 ≤ m ∧ m < 2 * 128 ^ k ∧ e = i + j ∧ 0 < j ∧ j ≤ l.length ∧ l.take j = putN k m ∧ (i > 0 → 1 ≤ m) := by
  intro k
  induction k with
  | zero =>
    intro i l n v e hb hi h
    cases l with
    | nil => cases h
    | cons c r =>
      have hc := hb c List.mem_cons_self
      unfold get1 at h
      split at h
      · cases h
      · rename_i h9
        have hc1 : ¬ c > 1 := fun hx => h9 ⟨by omega, hx⟩
        rw [if_neg (by omega)] at h
        split at h
        · cases h
        · rename_i h0
          cases h
          refine ⟨c, 1, rfl, hc.1, by omega, by omega, by omega, by simp, by simp [putN], fun hi0 => ?_⟩
          rcases Int.lt_or_le 0 c with hx | hx
          · omega
          · exact absurd ⟨by omega, hi0⟩ h0
  | succ k ih =>
    intro i l n v e hb hi h
    cases l with
    | nil => cases h
    | cons c r =>
      have hc := hb c List.mem_cons_self
      unfold get1 at h
      rw [if_neg (by omega)] at h
      have hpk : (1 : Int) ≤ 128 ^ k := by
        have : 0 < 128 ^ k := Nat.pow_pos (by omega)
        have e : (128 : Int) ^ k = ((128 ^ k : Nat) : Int) := by norm_cast
        omega
      split at h
      · rename_i h128
        obtain ⟨m, j, q1, q2, q3, q4, q5, q6, q7, q8⟩ := ih (i + 1) r _ v e (by_tail hb) (by omega) h
        have hm1 := q8 (by omega)
        refine ⟨c - 128 + 128 * m, j + 1, ?_, by omega, by rw [Int.pow_succ]; omega, by omega, by omega, by simp; omega, ?_, fun _ => by omega⟩
        · rw [q1, Int.pow_succ, Int.add_mul, Int.mul_comm 128 m, Int.mul_assoc m 128, Int.mul_comm 128 (128 ^ i)]; omega
        · rw [List.take_succ_cons, q7]
          conv => rhs; unfold putN
          rw [if_pos (by omega), show (c - 128 + 128 * m) % 128 + 128 = c by omega, show (c - 128 + 128 * m) / 128 = m by omega]
      · rename_i h128
        split at h
        · cases h
        · rename_i h0
          cases h
          refine ⟨c, 1, rfl, hc.1, by rw [Int.pow_succ]; omega, by omega, by omega, by simp, ?_, fun hi0 => ?_⟩
          · conv => rhs; unfold putN
            rw [if_neg (by omega)]; simp
          · rcases Int.lt_or_le 0 c with hx | hx
            · omega
            · exact absurd ⟨by omega, hi0⟩ h0
theorem put_get : ∀ (k i : Nat) (m n : Int) (rest : List Int), i + k = 9 → 0 ≤ m → m < 2 * 128 ^ k → (i > 0 → 1 ≤ m) → get1 (putN k m ++ rest) i n = (n + m * 128 ^ i, (i : Int) + ((putN k m).length : Int), 0) := by
  intro k
  induction k with
  | zero =>
    intro i m n rest hi h0 h1 hp
    have hm1 : m ≤ 1 := by simp at h1; omega
    unfold putN get1
    simp only [List.cons_append, List.nil_append]
    rw [if_neg (by omega), if_neg (by omega), if_neg (fun h => by have := hp h.2; omega)]
    simp
  | succ k ih =>
    intro i m n rest hi h0 h1 hp
    unfold putN
    split
    · rename_i hge
      simp only [List.cons_append]
      unfold get1
      rw [if_neg (by omega), if_pos (by omega)]
      rw [ih (i + 1) (m / 128) _ rest (by omega) (by omega) (by rw [Int.pow_succ] at h1; omega) (fun _ => by omega)]
      simp only [List.length_cons]
      refine Prod.ext ?_ (Prod.ext ?_ rfl)
      · show n + (m % 128 + 128 - 128) * 128 ^ i + m / 128 * 128 ^ (i + 1) = n + m * 128 ^ i
        rw [Int.pow_succ, Int.mul_comm (128 ^ i) 128, ← Int.mul_assoc, Int.add_assoc, ← Int.add_mul]
        congr 2
        omega
      · show ((i + 1 : Nat) : Int) + ((putN k (m / 128)).length : Int) = (i : Int) + (((putN k (m / 128)).length + 1 : Nat) : Int)
        omega
    · rename_i hlt
      simp only [List.cons_append, List.nil_append]
      unfold get1
      rw [if_neg (by omega), if_neg (by omega), if_neg (fun h => by have := hp h.2; omega)]
      simp
theorem got_ok {b : List Int} (hb : By b) {at' v e : Int} (h : got b at' = (v, e, 0)) : 0 ≤ at' ∧ 0 ≤ v ∧ v < 18446744073709551616 ∧ ∃ j : Nat, e = at' + j ∧ 0 < j ∧ at' + j ≤ b.length ∧ cutL b at' e = putN 9 v := by
  unfold got at h
  split at h
  · cases h
  · rename_i hn
    generalize hq : get1 (b.drop at'.toNat) 0 0 = q at h
    obtain ⟨v', e', er⟩ := q
    unfold from1 at h
    simp only [Prod.mk.injEq] at h
    obtain ⟨rfl, h2, rfl⟩ := h
    rw [if_pos rfl] at h2
    obtain ⟨m, j, q1, q2, q3, q4, q5, q6, q7, q8⟩ := get_put 9 0 (b.drop at'.toNat) 0 v' e' (fun x hx => hb x (List.mem_of_mem_drop hx)) rfl hq
    have hv : v' = m := by rw [q1]; simp
    rw [List.length_drop] at q6
    have hp : (2 : Int) * 128 ^ 9 = 18446744073709551616 := by decide
    refine ⟨by omega, by omega, by omega, j, by omega, q5, by omega, ?_⟩
    rw [hv, ← q7]
    unfold cutL
    rw [show (e - at').toNat = j by omega]
theorem got_put (a rest : List Int) (n : Int) (h0 : 0 ≤ n) (h1 : n < 18446744073709551616) : got (a ++ putN 9 n ++ rest) a.length = (n, (a.length : Int) + ((putN 9 n).length : Int), 0) := by
  unfold got
  rw [if_neg (by simp; omega)]
  have hp : (2 : Int) * 128 ^ 9 = 18446744073709551616 := by decide
  have e : (a ++ putN 9 n ++ rest).drop (a.length : Int).toNat = putN 9 n ++ rest := by simp
  rw [e, put_get 9 0 n 0 rest rfl h0 (by omega) (fun h => by omega)]
  unfold from1
  simp
theorem cut_len {b : List Int} {x y : Int} (h0 : 0 ≤ x) (h1 : x ≤ y) (h2 : y ≤ b.length) : (cutL b x y).length = (y - x).toNat := by
  unfold cutL
  rw [List.length_take, List.length_drop]
  omega
theorem cutOk_of {b : List Int} {x y : Int} (h0 : 0 ≤ x) (h1 : x ≤ y) (h2 : y ≤ b.length) : cutOk b x y = true := by simp [cutOk, h0, h1, h2]
def text1 (b : List Int) (at' most : Int) : List Int × Int × Int :=
  if (got b at').2.2 ≠ 0 then ([], 0, (got b at').2.2) else if (got b at').1 > max most 0 then ([], 0, 4) else if (got b at').1 > b.length - (got b at').2.1 then ([], 0, 3)
  else (cutL b (got b at').2.1 ((got b at').2.1 + (got b at').1), (got b at').2.1 + (got b at').1, 0)
theorem getText_eq (fu : Nat) (b : List Int) (hb : By b) (hl : b.length ≤ 100000) (hfu : b.length < fu) (at' most : Int) (hm : -9223372036854775808 ≤ most ∧ most < 9223372036854775808) : packGetText fu b at' most = some ((text1 b at' most).1, (text1 b at' most).2.1, (text1 b at' most).2.2, ()) := by
  unfold packGetText text1
  rw [packGet_eq fu b hb hl hfu]
  generalize hq : got b at' = q
  obtain ⟨v, e, er⟩ := q
  simp only [Option.bind_some]
  by_cases h : er = 0
  · subst h
    obtain ⟨g1, g2, g3, j, g4, g5, g6, g7⟩ := got_ok hb hq
    have e1 : IntKind.u64.wrap (max2 most 0) = max most 0 := by rw [max2_eq]; exact wrap_u64 (by omega) (by omega)
    have e2 : IntKind.i64.wrap ((b.length : Int) - e) = b.length - e := wrap_i64 (by omega) (by omega)
    have e3 : IntKind.u64.wrap ((b.length : Int) - e) = b.length - e := wrap_u64 (by omega) (by omega)
    simp only [bne_self_eq_false, cond_false, e1, e2, e3, ne_eq, not_true_eq_false, if_false]
    by_cases h1 : v > max most 0
    · simp [h1]
    · by_cases h2 : v > b.length - e
      · simp only [h1, h2, decide_false, decide_true, cond_false, cond_true, if_false, if_true]
      · have e4 : IntKind.i64.wrap v = v := wrap_i64 (by omega) (by omega)
        have e5 : IntKind.i64.wrap (e + v) = e + v := wrap_i64 (by omega) (by omega)
        simp only [h1, h2, decide_false, cond_false, if_false, e4, e5, cutOk_of (show 0 ≤ e by omega) (show e ≤ e + v by omega) (show e + v ≤ b.length by omega), chk, cond_true]
  · have h' : (er != 0) = true := bne_iff_ne.2 h
    simp [h, h']
def isNan (x : Nat) : Prop := x % 9223372036854775808 > 9218868437227405312
instance : DecidablePred isNan := fun x => inferInstanceAs (Decidable (_ > _))
def canon (x : Nat) : Int := if isNan x then 9221120237041090560 else x
theorem nan_iff (x : Nat) : fNeq x x = decide (isNan x) := by
  unfold fNeq
  show (FloatKind.f64.format.order x x != some .eq) = _
  have hsw : FloatKind.f64.format.signWeight = 9223372036854775808 := by decide
  have hir : FloatKind.f64.format.infRung = 9218868437227405312 := by decide
  have hbi : FloatKind.f64.format.binade = 4503599627370496 := by decide
  unfold Ieee.Format.order Ieee.Format.read
  have no : ¬ (x % 9223372036854775808 > 9218868437227405312) → decide (isNan x) = false := fun h => decide_eq_false h
  simp only [hsw, hir, hbi]
  split
  · rename_i h
    rw [no (by omega)]
    simp [Ieee.Datum.order]
  · split
    · rename_i h1 h2
      rw [no (by omega)]
      simp [Ieee.Datum.order]
    · split
      · rename_i h1 h2 h3
        rw [no (by omega)]
        simp [Ieee.Datum.order]
      · rename_i h1 h2 h3
        exact (decide_eq_true (p := isNan x) (show x % 9223372036854775808 > 9218868437227405312 by omega)).symm
theorem realBits_eq (fu : Nat) (x : Nat) (h : x < 18446744073709551616) : realBits fu x = some (canon x, ()) := by
  unfold realBits canon
  rw [nan_iff]
  by_cases hx : isNan x
  · simp [hx]
  · have : extBits.f fu (x, ()) = some ((x : Int), ()) := by
      show (match decide (x < 18446744073709551616) with | true => some ((x : Int), ()) | false => none) = _
      rw [decide_eq_true h]
    simp only [hx, decide_false, cond_false, if_false]
    rw [this]
    rfl
theorem canon_fits (x : Nat) (h : x < 18446744073709551616) : 0 ≤ canon x ∧ canon x < 18446744073709551616 := by
  unfold canon; split <;> omega
theorem realFrom_eq (fu : Nat) (n : Int) (h0 : 0 ≤ n) (h : n < 18446744073709551616) : realFrom fu n = some (if canon n.toNat = n then (n.toNat, true, ()) else (0, false, ())) := by
  unfold realFrom
  have : extFrom.f fu (n, ()) = some (n.toNat, ()) := rfl
  rw [this]
  show ((realBits fu n.toNat).bind fun r2 => cond (r2.1 != n) (some ((0 : Nat), false, ())) (some (n.toNat, true, ()))) = _
  rw [realBits_eq fu n.toNat (by omega)]
  by_cases hx : canon n.toNat = n
  · have hx' : (canon n.toNat != n) = false := by rw [hx]; exact bne_self_eq_false _
    simp only [Option.bind_some, hx', cond_false, if_pos hx]
  · have hx' : (canon n.toNat != n) = true := bne_iff_ne.2 hx
    simp only [Option.bind_some, hx', cond_true, if_neg hx]
def be (l : List Int) (n : Int) : Int := l.foldl (fun n c => n * 256 + c) n
theorem or_comm' (k : IntKind) (x y : Int) : bOr k x y = bOr k y x := by unfold bOr; rw [BitVec.or_comm]
theorem real_rounds (fu : Nat) (k2 : Int → Int → Option (Nat × Int × Int × Unit)) (at' : Int) (v : List Int) (hv : By v) (hl : v.length = 8) : ∀ (m i : Nat) (n : Int), i ≤ 8 → 8 < i + m → 0 ≤ n → n < 256 ^ i →
    packGetReal.l5 fu k2 m at' n v 8 i = k2 at' (be (v.drop i) n) := by
  intro m
  induction m with
  | zero => intro i n h1 h2; omega
  | succ m ih =>
    intro i n h1 h2 h3 h4
    unfold packGetReal.l5 packGetReal.b5
    by_cases hi : i < 8
    · have hi' : (i : Int) < 8 := by omega
      have hil : i < v.length := by omega
      have hix : ixOk v i = true := by simp [ixOk, hil]
      have hc := hv _ (List.getElem_mem hil)
      have e1 : IntKind.i64.wrap ((i : Int) + 1) = (i + 1 : Nat) := wrap_i64 (by omega) (by omega)
      have hp : (256 : Int) ^ i ≤ 72057594037927936 := by
        have h1 : 256 ^ i ≤ 256 ^ 7 := Nat.pow_le_pow_right (by omega) (by omega)
        have e : (256 : Int) ^ i = ((256 ^ i : Nat) : Int) := by rw [Int.natCast_pow]; rfl
        rw [e]
        have : (256 : Nat) ^ 7 = 72057594037927936 := by decide
        omega
      rw [List.drop_eq_getElem_cons hil]
      simp only [hi', decide_true, cond_true, chk, hix, ixL_get hil, e1]
      generalize v[i] = c at hc
      have e2 : sShl .u64 n 8 = n * 256 := by have := shl_eq n 8 (by omega) h3 (by omega); rw [show (2 : Int) ^ 8 = 256 by decide] at this; exact this
      have e3 : IntKind.u64.wrap c = c := wrap_u64 (by omega) (by omega)
      have e4 : bOr .u64 (n * 256) c = n * 256 + c := by
        obtain ⟨N, rfl⟩ := Int.eq_ofNat_of_zero_le h3
        obtain ⟨C, rfl⟩ := Int.eq_ofNat_of_zero_le hc.1
        have := or_add C N 8 (by omega) (by omega)
        rw [or_comm']
        have e : ((N * 2 ^ 8 : Nat) : Int) = (N : Int) * 256 := by omega
        rw [e] at this
        rw [this]
        omega
      rw [e2, e3, e4, ih (i + 1) (n * 256 + c) (by omega) (by omega) (by omega) (by rw [Int.pow_succ]; omega)]
      rfl
    · have : i = 8 := by omega
      subst this
      rw [List.drop_of_length_le (by omega)]
      simp [be]
def real1 (b : List Int) (at' : Int) : Nat × Int × Int :=
  if at' < 0 ∨ at' > b.length - 8 then (0, 0, 3) else if canon (be (cutL b at' (at' + 8)) 0).toNat = be (cutL b at' (at' + 8)) 0 then ((be (cutL b at' (at' + 8)) 0).toNat, at' + 8, 0) else (0, 0, 2)
theorem be_fits : ∀ (l : List Int) (n : Int) (i : Nat), By l → 0 ≤ n → n < 256 ^ i → 0 ≤ be l n ∧ be l n < 256 ^ (i + l.length) := by
  intro l
  induction l with
  | nil => intro n i _ h0 h1; exact ⟨h0, h1⟩
  | cons c r ih =>
    intro n i hb h0 h1
    have hc := hb c List.mem_cons_self
    have := ih (n * 256 + c) (i + 1) (by_tail hb) (by omega) (by rw [Int.pow_succ]; omega)
    rw [show i + (c :: r).length = i + 1 + r.length by simp; omega]
    exact this
theorem be_u64 {l : List Int} (hb : By l) (hl : l.length = 8) : 0 ≤ be l 0 ∧ be l 0 < 18446744073709551616 := by
  have := be_fits l 0 0 hb (by omega) (by simp)
  rw [hl] at this
  have e : (256 : Int) ^ (0 + 8) = 18446744073709551616 := by decide
  omega
theorem getReal_eq (fu : Nat) (hfu : 10 ≤ fu) (b : List Int) (hb : By b) (hl : b.length ≤ 100000) (at' : Int) : packGetReal fu b at' = some ((real1 b at').1, (real1 b at').2.1, (real1 b at').2.2, ()) := by
  unfold packGetReal real1
  by_cases h1 : at' < 0
  · simp [h1]
  · have e1 : IntKind.i64.wrap ((b.length : Int) - 8) = b.length - 8 := wrap_i64 (by omega) (by omega)
    by_cases h2 : at' > b.length - 8
    · simp [h1, e1, h2]
    · have e2 : IntKind.i64.wrap (at' + 8) = at' + 8 := wrap_i64 (by omega) (by omega)
      have hlen : (cutL b at' (at' + 8)).length = 8 := by rw [cut_len (by omega) (by omega) (by omega)]; omega
      have hby : By (cutL b at' (at' + 8)) := by_cut hb _ _
      have hu := be_u64 hby hlen
      simp only [h1, h2, e1, e2, decide_false, cond_false, cutOk_of (show 0 ≤ at' by omega) (show at' ≤ at' + 8 by omega) (show at' + 8 ≤ b.length by omega), chk, cond_true, hlen, or_self, if_false]
      have := real_rounds fu (fun atvq2 nq2 =>
          (realFrom fu nq2).bind fun r4 =>
          cond (!r4.2.1) (
            some ((0 : Nat), (0 : Int), (2 : Int), ())) (
            let t5 := IntKind.i64.wrap (atvq2 + (8 : Int))
            some (r4.1, t5, (0 : Int), ()))) at' (cutL b at' (at' + 8)) hby hlen fu 0 0 (by omega) (by omega) (by omega) (by simp)
      refine this.trans ?_
      simp only [List.drop_zero, realFrom_eq fu _ hu.1 hu.2, Option.bind_some, e2]
      by_cases h3 : canon (be (cutL b at' (at' + 8)) 0).toNat = be (cutL b at' (at' + 8)) 0
      · rw [if_pos h3, if_pos h3]; rfl
      · rw [if_neg h3, if_neg h3]; rfl
def bytes8 (n : Int) : List Int := [n / 72057594037927936 % 256, n / 281474976710656 % 256, n / 1099511627776 % 256, n / 4294967296 % 256, n / 16777216 % 256, n / 65536 % 256, n / 256 % 256, n % 256]
theorem be_bytes8 (n : Int) (h0 : 0 ≤ n) (h1 : n < 18446744073709551616) : be (bytes8 n) 0 = n := by
  show (((((((0 * 256 + n / 72057594037927936 % 256) * 256 + n / 281474976710656 % 256) * 256 + n / 1099511627776 % 256) * 256 + n / 4294967296 % 256) * 256 + n / 16777216 % 256) * 256 + n / 65536 % 256) * 256 + n / 256 % 256) * 256 + n % 256 = n
  omega
theorem bytes8_by (n : Int) : By (bytes8 n) := by
  intro x hx
  simp only [bytes8, List.mem_cons, List.not_mem_nil, or_false] at hx
  omega
def zig (n : Int) : Int := if n ≥ 0 then 2 * n else -2 * n - 1
theorem xor_zero64 (x : Int) (h0 : 0 ≤ x) (h1 : x < 18446744073709551616) : bXor .u64 x 0 = x := by
  obtain ⟨N, rfl⟩ := Int.eq_ofNat_of_zero_le h0
  show IntKind.u64.wrap (((BitVec.ofInt 64 (N : Int) ^^^ BitVec.ofInt 64 (0 : Int)).toNat : Nat) : Int) = _
  rw [show BitVec.ofInt 64 (0 : Int) = 0#64 from rfl, BitVec.xor_zero, BitVec.ofInt_natCast, BitVec.toNat_ofNat, Nat.mod_eq_of_lt (by omega)]
  exact wrap_u64 (by omega) (by omega)
theorem xor_ones64 (x : Int) (h0 : 0 ≤ x) (h1 : x < 18446744073709551616) : bXor .u64 x 18446744073709551615 = 18446744073709551615 - x := by
  obtain ⟨N, rfl⟩ := Int.eq_ofNat_of_zero_le h0
  show IntKind.u64.wrap (((BitVec.ofInt 64 (N : Int) ^^^ BitVec.ofInt 64 (18446744073709551615 : Int)).toNat : Nat) : Int) = _
  rw [show BitVec.ofInt 64 (18446744073709551615 : Int) = BitVec.allOnes 64 by decide, BitVec.xor_allOnes, BitVec.toNat_not, BitVec.ofInt_natCast, BitVec.toNat_ofNat, Nat.mod_eq_of_lt (by omega)]
  rw [wrap_u64 (by omega) (by omega)]
  omega
theorem shr63 (n : Int) (h0 : -9223372036854775808 ≤ n) (h1 : n < 9223372036854775808) : sShr .i64 n 63 = if n ≥ 0 then 0 else -1 := by
  unfold sShr
  have e : min (63 : Int).toNat IntKind.i64.bits = 63 := by decide
  rw [e, show (2 : Int) ^ 63 = 9223372036854775808 by decide, Int.fdiv_eq_ediv_of_nonneg _ (by omega)]
  split <;> omega
def zag (v : Int) : Int := if v % 2 = 0 then v / 2 else -(v / 2) - 1
theorem and_one (v : Int) (h0 : 0 ≤ v) (h1 : v < 18446744073709551616) : bAnd .u64 v 1 = v % 2 := by
  obtain ⟨N, rfl⟩ := Int.eq_ofNat_of_zero_le h0
  show IntKind.u64.wrap (((BitVec.ofInt 64 (N : Int) &&& BitVec.ofInt 64 (1 : Int)).toNat : Nat) : Int) = _
  rw [show BitVec.ofInt 64 (1 : Int) = 1#64 from rfl, BitVec.toNat_and, BitVec.ofInt_natCast, BitVec.toNat_ofNat, Nat.mod_eq_of_lt (by omega), show (1#64).toNat = 1 from rfl, Nat.and_one_is_mod]
  rw [wrap_u64 (by omega) (by omega)]
  omega
theorem xor_i64_zero (x : Int) (h0 : 0 ≤ x) (h1 : x < 9223372036854775808) : bXor .i64 x 0 = x := by
  obtain ⟨N, rfl⟩ := Int.eq_ofNat_of_zero_le h0
  show IntKind.i64.wrap (((BitVec.ofInt 64 (N : Int) ^^^ BitVec.ofInt 64 (0 : Int)).toNat : Nat) : Int) = _
  rw [show BitVec.ofInt 64 (0 : Int) = 0#64 from rfl, BitVec.xor_zero, BitVec.ofInt_natCast, BitVec.toNat_ofNat, Nat.mod_eq_of_lt (by omega)]
  exact wrap_i64 (by omega) (by omega)
theorem xor_i64_ones (x : Int) (h0 : 0 ≤ x) (h1 : x < 9223372036854775808) : bXor .i64 x (-1) = -x - 1 := by
  obtain ⟨N, rfl⟩ := Int.eq_ofNat_of_zero_le h0
  show IntKind.i64.wrap (((BitVec.ofInt 64 (N : Int) ^^^ BitVec.ofInt 64 (-1 : Int)).toNat : Nat) : Int) = _
  rw [show BitVec.ofInt 64 (-1 : Int) = BitVec.allOnes 64 by decide, BitVec.xor_allOnes, BitVec.toNat_not, BitVec.ofInt_natCast, BitVec.toNat_ofNat, Nat.mod_eq_of_lt (by omega)]
  simp only [IntKind.wrap, IntKind.signed, IntKind.bits]
  simp
  omega
theorem getInt_eq (fu : Nat) (b : List Int) (hb : By b) (hl : b.length ≤ 100000) (hfu : b.length < fu) (at' : Int) : packGetInt fu b at' = some (zag (got b at').1, (got b at').2.1, (got b at').2.2, ()) := by
  unfold packGetInt
  rw [packGet_eq fu b hb hl hfu]
  have hv : 0 ≤ (got b at').1 ∧ (got b at').1 < 18446744073709551616 := by
    generalize hq : got b at' = q
    obtain ⟨v, e, er⟩ := q
    by_cases h0 : er = 0
    · subst h0
      obtain ⟨g1, g2, g3, _⟩ := got_ok hb hq
      exact ⟨g2, g3⟩
    · unfold got at hq
      split at hq
      · cases hq; simp
      · have hz := get1_err (b.drop at'.toNat) 0 0
        unfold from1 at hq
        simp only [Prod.mk.injEq] at hq
        obtain ⟨rfl, _, h3⟩ := hq
        have := (hz (by rw [h3]; exact h0)).1
        rw [this]; omega
  generalize (got b at').1 = v at hv
  simp only [Option.bind_some]
  have e1 : sShr .u64 v 1 = v / 2 := by have := shr_eq v 1 (by omega); simpa using this
  have e2 : IntKind.i64.wrap (v / 2) = v / 2 := wrap_i64 (by omega) (by omega)
  have e3 : IntKind.i64.wrap (v % 2) = v % 2 := wrap_i64 (by omega) (by omega)
  have e4 : IntKind.i64.wrap (0 - v % 2) = 0 - v % 2 := wrap_i64 (by omega) (by omega)
  rw [and_one v hv.1 hv.2, e1, e2, e3, e4]
  unfold zag
  by_cases h : v % 2 = 0
  · rw [if_pos h, h, show (0 : Int) - 0 = 0 by rfl, xor_i64_zero _ (by omega) (by omega)]
  · rw [if_neg h, show v % 2 = 1 by omega, show (0 : Int) - 1 = -1 by rfl, xor_i64_ones _ (by omega) (by omega)]
theorem zag_zig (n : Int) : zag (zig n) = n := by
  unfold zag zig
  split <;> split <;> omega
theorem partsBits_eq (fu : Nat) (n : Int) (h0 : 0 ≤ n) (h1 : n < 18446744073709551616) : ((ref02OfBits fu n).bind fun r => ref02PartsBits fu r.1) = some (canon n.toNat, ()) := by
  unfold ref02OfBits ref02PartsBits ref02PartsNaN canon
  have t1 : Int.tdiv n 4503599627370496 = n / 4503599627370496 := Int.tdiv_eq_ediv_of_nonneg h0
  have t2 : IntKind.u64.wrap (n / 4503599627370496) = n / 4503599627370496 := wrap_u64 (by omega) (by omega)
  have t3 : Int.tmod (n / 4503599627370496) 2048 = n / 4503599627370496 % 2048 := Int.tmod_eq_emod_of_nonneg (by omega)
  have t4 : IntKind.i64.wrap (n / 4503599627370496 % 2048) = n / 4503599627370496 % 2048 := wrap_i64 (by omega) (by omega)
  have t5 : Int.tmod n 4503599627370496 = n % 4503599627370496 := Int.tmod_eq_emod_of_nonneg h0
  have t6 : IntKind.u64.wrap (n / 4503599627370496 % 2048) = n / 4503599627370496 % 2048 := wrap_u64 (by omega) (by omega)
  have t7 : IntKind.u64.wrap (n / 4503599627370496 % 2048 * 4503599627370496) = n / 4503599627370496 % 2048 * 4503599627370496 := wrap_u64 (by omega) (by omega)
  have t8 : IntKind.u64.wrap (n / 4503599627370496 % 2048 * 4503599627370496 + n % 4503599627370496) = n / 4503599627370496 % 2048 * 4503599627370496 + n % 4503599627370496 := wrap_u64 (by omega) (by omega)
  simp only [t1, t2, t3, t4, t5, t6, t7, t8, Option.bind_some]
  have hnan : isNan n.toNat ↔ n / 4503599627370496 % 2048 = 2047 ∧ n % 4503599627370496 ≠ 0 := by
    unfold isNan
    constructor
    · intro h; omega
    · rintro ⟨h1, h2⟩; omega
  by_cases hx : n / 4503599627370496 % 2048 = 2047
  · by_cases hy : n % 4503599627370496 = 0
    · rw [if_neg (fun h => (hnan.1 h).2 hy)]
      simp only [hx, hy, beq_self_eq_true, bne_self_eq_false, cond_true, cond_false, Option.bind_some]
      by_cases hs : n ≥ 9223372036854775808
      · have : IntKind.u64.wrap (2047 * 4503599627370496 + 0 + 9223372036854775808) = n := by rw [wrap_u64 (by omega) (by omega)]; omega
        simp only [hs, decide_true, cond_true, this]
        congr 2; omega
      · simp only [hs, decide_false, cond_false]
        congr 2; omega
    · rw [if_pos (hnan.2 ⟨hx, hy⟩)]
      have hy' : (n % 4503599627370496 != 0) = true := bne_iff_ne.2 hy
      simp only [hx, hy', beq_self_eq_true, cond_true, Option.bind_some]
  · rw [if_neg (fun h => hx (hnan.1 h).1)]
    have hx' : (n / 4503599627370496 % 2048 == 2047) = false := beq_false_of_ne hx
    simp only [hx', cond_false, Option.bind_some]
    by_cases hs : n ≥ 9223372036854775808
    · have : IntKind.u64.wrap (n / 4503599627370496 % 2048 * 4503599627370496 + n % 4503599627370496 + 9223372036854775808) = n := by rw [wrap_u64 (by omega) (by omega)]; omega
      simp only [hs, decide_true, cond_true, this]
      congr 2; omega
    · simp only [hs, decide_false, cond_false]
      congr 2; omega
theorem canon_canon (x : Nat) : canon (canon x).toNat = canon x := by
  unfold canon
  by_cases h : isNan x
  · rw [if_pos h, if_pos (by decide)]
  · rw [if_neg h, Int.toNat_natCast, if_neg h]
theorem putN_by : ∀ (k : Nat) (n : Int), 0 ≤ n → n < 2 * 128 ^ k → By (putN k n) := by
  intro k
  induction k with
  | zero => intro n h0 h1 x hx; simp [putN] at hx; simp at h1; omega
  | succ k ih =>
    intro n h0 h1 x hx
    unfold putN at hx
    split at hx
    · rcases List.mem_cons.1 hx with rfl | hx
      · omega
      · exact ih (n / 128) (by omega) (by rw [Int.pow_succ] at h1; omega) x hx
    · simp at hx; omega
theorem putN_by9 (n : Int) (h0 : 0 ≤ n) (h1 : n < 18446744073709551616) : By (putN 9 n) := by
  have hp : (2 : Int) * 128 ^ 9 = 18446744073709551616 := by decide
  exact putN_by 9 n h0 (by omega)
theorem by_app {a b : List Int} (ha : By a) (hb : By b) : By (a ++ b) := fun x hx => by
  rcases List.mem_append.1 hx with h | h
  · exact ha x h
  · exact hb x h
theorem cut_mid (a s r : List Int) : cutL (a ++ s ++ r) a.length (a.length + s.length) = s := by
  unfold cutL
  rw [List.append_assoc, show (a.length : Int).toNat = a.length by omega, List.drop_left, show ((a.length : Int) + s.length - a.length).toNat = s.length by omega, List.take_left]
theorem u64Of {x : Int} (h : inR .u64 x) : 0 ≤ x ∧ x < 18446744073709551616 := by
  simp [inR, IntKind.min, IntKind.max, IntKind.signed, IntKind.bits] at h
  omega
theorem i64Of {x : Int} (h : inR .i64 x) : -9223372036854775808 ≤ x ∧ x < 9223372036854775808 := by
  simp [inR, IntKind.min, IntKind.max, IntKind.signed, IntKind.bits] at h
  omega
theorem byOf {l : List Int} (h : (Kd.slice (.int .u8)).ok l) : By l := fun x hx => by
  have := h.2 x hx
  simp [Kd.ok, inR, IntKind.min, IntKind.max, IntKind.signed, IntKind.bits] at this
  omega
abbrev Va : Type := Int × Int × Nat × List Int × Unit
def noVa : Va := ((0 : Int), (0 : Int), (0 : Nat), [], ())
def val1 (b : List Int) (at' : Int) : Va × Int × Int :=
  if at' < 0 ∨ at' ≥ b.length then (noVa, 0, 3) else
  if ixL (0 : Int) b at' = 0 then (noVa, at' + 1, 0) else
  if ixL (0 : Int) b at' = 1 then (if (got b (at' + 1)).2.2 = 0 then (((1 : Int), zag (got b (at' + 1)).1, (0 : Nat), [], ()), (got b (at' + 1)).2.1, 0) else (noVa, 0, (got b (at' + 1)).2.2)) else
  if ixL (0 : Int) b at' = 2 then (if (real1 b (at' + 1)).2.2 = 0 then (((2 : Int), (0 : Int), (real1 b (at' + 1)).1, [], ()), (real1 b (at' + 1)).2.1, 0) else (noVa, 0, (real1 b (at' + 1)).2.2)) else
  if ixL (0 : Int) b at' = 3 then (if (text1 b (at' + 1) 255).2.2 = 0 then (((3 : Int), (0 : Int), (0 : Nat), (text1 b (at' + 1) 255).1, ()), (text1 b (at' + 1) 255).2.1, 0) else (noVa, 0, (text1 b (at' + 1) 255).2.2)) else
  (noVa, 0, 11)
theorem ne_bne {x y : Int} (h : ¬ x = y) : (x != y) = true := bne_iff_ne.2 h
theorem ne_beq {x y : Int} (h : ¬ x = y) : (x == y) = false := beq_false_of_ne h
theorem valueGet_eq (fu : Nat) (b : List Int) (hb : By b) (hl : b.length ≤ 100000) (hfu : b.length < fu) (hfu2 : 10 ≤ fu) (at' : Int) : valueGet fu b at' = some ((val1 b at').1, (val1 b at').2.1, (val1 b at').2.2, ()) := by
  unfold valueGet val1
  by_cases h1 : at' < 0
  · rw [if_pos (Or.inl h1), decide_eq_true h1]; rfl
  · by_cases h2 : at' ≥ (b.length : Int)
    · rw [if_pos (Or.inr h2), decide_eq_false h1, decide_eq_true h2]; rfl
    · have e0 : ixOk b at' = true := by unfold ixOk; simp; omega
      have e1 : IntKind.i64.wrap (at' + 1) = at' + 1 := wrap_i64 (by omega) (by omega)
      rw [if_neg (by omega), decide_eq_false h1, decide_eq_false h2]
      simp only [cond_false, e0, e1, chk, cond_true, valueGet.j14]
      generalize ixL (0 : Int) b at' = c
      by_cases c0 : c = 0
      · subst c0; simp [noVa]
      · by_cases c1 : c = 1
        · subst c1
          simp only [ne_beq c0, beq_self_eq_true, cond_true, cond_false, if_neg c0, if_true, getInt_eq fu b hb hl hfu, Option.bind_some]
          by_cases e : (got b (at' + 1)).2.2 = 0
          · simp only [e, bne_self_eq_false, cond_false, if_true]
          · simp only [ne_bne e, cond_true, if_neg e, noVa]
        · by_cases c2 : c = 2
          · subst c2
            simp only [ne_beq c0, ne_beq c1, beq_self_eq_true, cond_true, cond_false, if_neg c0, if_neg c1, if_true, getReal_eq fu hfu2 b hb hl, Option.bind_some]
            by_cases e : (real1 b (at' + 1)).2.2 = 0
            · simp only [e, bne_self_eq_false, cond_false, if_true]
            · simp only [ne_bne e, cond_true, if_neg e, noVa]
          · by_cases c3 : c = 3
            · subst c3
              simp only [ne_beq c0, ne_beq c1, ne_beq c2, beq_self_eq_true, cond_true, cond_false, if_neg c0, if_neg c1, if_neg c2, if_true, getText_eq fu b hb hl hfu (at' + 1) 255 (by omega), Option.bind_some]
              by_cases e : (text1 b (at' + 1) 255).2.2 = 0
              · simp only [e, bne_self_eq_false, cond_false, if_true]
              · simp only [ne_bne e, cond_true, if_neg e, noVa]
            · simp only [ne_beq c0, ne_beq c1, ne_beq c2, ne_beq c3, cond_false, if_neg c0, if_neg c1, if_neg c2, if_neg c3, noVa, ne_bne (show ¬ (11 : Int) = 0 by decide), cond_true]
def F64 (x : Nat) : Prop := x < 18446744073709551616
theorem extBits_eq (fu : Nat) {x : Nat} (h : F64 x) : extBits.f fu (x, ()) = some ((x : Int), ()) := by
  show (match decide (x < 18446744073709551616) with | true => some ((x : Int), ()) | false => none) = _
  have : decide (x < 18446744073709551616) = true := decide_eq_true (show x < 18446744073709551616 from h)
  rw [this]
theorem bits_bind {β : Type} (fu : Nat) {x : Nat} (h : F64 x) (K : (Kd.struct extBits.rs).T → Option β) : (extBits.f fu (x, ())).bind K = K ((x : Int), ()) := by rw [extBits_eq fu h]; rfl
def mayV (v : Va) : Bool := decide (v.1 ≤ 3) && (decide (v.2.1 = 0) || decide (v.1 = 1)) && (decide (v.2.2.1 = 0) || decide (v.1 = 2)) && (decide (v.2.2.2.1 = []) || decide (v.1 = 3)) && decide (v.2.2.2.1.length ≤ 255)
theorem valueMay_eq (fu : Nat) (v : Va) (h : F64 v.2.2.1) : valueMay fu v = some (mayV v, ()) := by
  obtain ⟨k, i, x, s, u⟩ := v
  have h0 : F64 0 := by unfold F64; omega
  have q1 : ∀ y : Nat, (((0 : Nat) : Int) == (y : Int)) = decide (y = 0) := fun y => by
    by_cases hy : y = 0
    · subst hy; rfl
    · rw [decide_eq_false hy]; exact ne_beq (by omega)
  have q2 : ∀ y : Int, ((0 : Int) == y) = decide (y = 0) := fun y => by
    by_cases hy : y = 0
    · subst hy; rfl
    · rw [decide_eq_false hy]; exact ne_beq (by omega)
  have q3 : ∀ y : List Int, (([] : List Int) == y) = decide (y = []) := fun y => by cases y <;> rfl
  have q4 : decide ((s.length : Int) ≤ 255) = decide (s.length ≤ 255) := by
    by_cases hs : s.length ≤ 255
    · rw [decide_eq_true hs, decide_eq_true (by omega)]
    · rw [decide_eq_false hs, decide_eq_false (by omega)]
  have h' : F64 x := h
  unfold valueMay valueHeld mayV
  by_cases k1 : k = 1
  · subst k1
    simp only [beq_self_eq_true, cond_true, Option.bind_some, bits_bind fu h', bits_bind fu h0, q1, q3, q4]
    cases decide (s.length ≤ 255) <;> cases decide (s = []) <;> cases decide (x = 0) <;> simp
  · by_cases k2 : k = 2
    · subst k2
      simp only [ne_beq (show ¬ (2 : Int) = 1 by decide), beq_self_eq_true, cond_true, cond_false, Option.bind_some, bits_bind fu h', q2, q3, q4]
      cases decide (s.length ≤ 255) <;> cases decide (s = []) <;> cases decide (i = 0) <;> simp
    · by_cases k3 : k = 3
      · subst k3
        simp only [ne_beq (show ¬ (3 : Int) = 1 by decide), ne_beq (show ¬ (3 : Int) = 2 by decide), beq_self_eq_true, cond_true, cond_false, Option.bind_some, bits_bind fu h', bits_bind fu h0, q1, q2, q4]
        cases decide (s.length ≤ 255) <;> cases decide (i = 0) <;> cases decide (x = 0) <;> simp
      · simp only [ne_beq k1, ne_beq k2, ne_beq k3, cond_false, Option.bind_some, bits_bind fu h', bits_bind fu h0, q1, q2, q3, q4, k1, k2, k3, decide_false, Bool.or_false]
        cases decide (k ≤ 3) <;> cases decide (s.length ≤ 255) <;> cases decide (i = 0) <;> cases decide (x = 0) <;> cases decide (s = []) <;> simp
def same4 (a b : Va) : Bool := decide (a.1 = b.1) && (if a.1 = 1 then decide (a.2.1 = b.2.1) else if a.1 = 2 then decide (canon a.2.2.1 = canon b.2.2.1) else if a.1 = 3 then decide (a.2.2.2.1 = b.2.2.2.1) else true)
theorem refBits_bind {β : Type} (fu : Nat) {x : Nat} (h : F64 x) (K : Int × Unit → Option β) : ((ref02Of fu x).bind fun r1 => (ref02PartsBits fu r1.1).bind K) = K (canon x, ()) := by
  unfold ref02Of
  rw [bits_bind fu h]
  have h' : x < 18446744073709551616 := h
  have e := partsBits_eq fu (x : Int) (by omega) (by omega)
  rw [Int.toNat_natCast] at e
  show ((((ref02OfBits fu (x : Int)).bind fun r2 => some (r2.1, ())).bind fun r1 => (ref02PartsBits fu r1.1).bind K)) = _
  cases hq : ref02OfBits fu (x : Int) with
  | none => rw [hq] at e; exact absurd e (by simp)
  | some r =>
    rw [hq] at e
    simp only [Option.bind_some] at e ⊢
    rw [e]; rfl
theorem same4_eq (fu : Nat) (a b : Va) (ha : F64 a.2.2.1) (hb : F64 b.2.2.1) : ref04Same fu a b = some (same4 a b, ()) := by
  unfold ref04Same same4
  by_cases h : a.1 = b.1
  · simp only [h, bne_self_eq_false, cond_false, decide_true, Bool.true_and]
    by_cases k1 : b.1 = 1
    · simp only [k1, beq_self_eq_true, cond_true, if_true]
      congr 2
    · by_cases k2 : b.1 = 2
      · simp only [k2, ne_beq (show ¬ (2 : Int) = 1 by decide), beq_self_eq_true, cond_true, cond_false, show ¬ (2 : Int) = 1 by decide, if_false, if_true]
        rw [refBits_bind fu ha, refBits_bind fu hb]
        congr 2
      · by_cases k3 : b.1 = 3
        · simp only [k3, ne_beq (show ¬ (3 : Int) = 1 by decide), ne_beq (show ¬ (3 : Int) = 2 by decide), beq_self_eq_true, cond_true, cond_false, show ¬ (3 : Int) = 1 by decide, show ¬ (3 : Int) = 2 by decide, if_false, if_true]
          congr 2
          cases hq : decide (a.2.2.2.1 = b.2.2.2.1) with
          | true => rw [of_decide_eq_true hq]; exact beq_self_eq_true _
          | false => exact beq_false_of_ne (of_decide_eq_false hq)
        · simp only [ne_beq k1, ne_beq k2, ne_beq k3, cond_false, if_neg k1, if_neg k2, if_neg k3]
  · simp only [ne_bne h, cond_true, decide_eq_false h, Bool.false_and]
def putV (v : Va) : List Int := v.1 :: (if v.1 = 1 then putN 9 (zig v.2.1) else if v.1 = 2 then bytes8 (canon v.2.2.1) else if v.1 = 3 then putN 9 v.2.2.2.1.length ++ v.2.2.2.1 else [])
def vaOk (v : Va) : Prop := (0 ≤ v.1 ∧ v.1 ≤ 255) ∧ (-9223372036854775808 ≤ v.2.1 ∧ v.2.1 < 9223372036854775808) ∧ F64 v.2.2.1 ∧ By v.2.2.2.1
theorem mkOk0 {n : Int} (h0 : 0 ≤ n) (h1 : n ≤ 500000) : mkOk (0 : Int) n 1 = true := by
  have hL : (1000000 : Int) ≤ (LIM : Int) := by decide
  unfold mkOk
  simp only [Bool.and_eq_true, decide_eq_true_eq]
  omega
theorem mayV_len {v : Va} (h : mayV v = true) : v.2.2.2.1.length ≤ 255 := by
  unfold mayV at h; simp only [Bool.and_eq_true, decide_eq_true_eq] at h; exact h.2
theorem refPut_rounds (fu : Nat) (k2 : Int → List Int → Option (((List Int) × Unit) × (Unit))) : ∀ (k m : Nat) (n : Int) (out : List Int), k < m → 0 ≤ n → n < 128 ^ (k + 1) → n < 18446744073709551616 → out.length + k ≤ 500000 →
    ∃ last init, putN k n = init ++ [last] ∧ 0 ≤ last ∧ last < 128 ∧ ref03Put.l3 fu k2 m n out = k2 last (out ++ init) := by
  intro k
  induction k with
  | zero =>
    intro m n out hm h0 h1 _ hl
    obtain ⟨m, rfl⟩ : ∃ j, m = j + 1 := ⟨m - 1, by omega⟩
    have hn : ¬ n ≥ 128 := by have : (128 : Int) ^ (0 + 1) = 128 := by decide
                              omega
    refine ⟨n, [], by simp [putN], h0, by omega, ?_⟩
    unfold ref03Put.l3 ref03Put.b3
    simp [hn]
  | succ k ih =>
    intro m n out hm h0 h1 h64 hl
    obtain ⟨m, rfl⟩ : ∃ j, m = j + 1 := ⟨m - 1, by omega⟩
    unfold ref03Put.l3 ref03Put.b3 putN
    by_cases hn : n ≥ 128
    · have t1 : Int.tmod n 128 = n % 128 := Int.tmod_eq_emod_of_nonneg h0
      have t2 : Int.tdiv n 128 = n / 128 := Int.tdiv_eq_ediv_of_nonneg h0
      have e1 : IntKind.u64.wrap (n / 128) = n / 128 := wrap_u64 (by omega) (by omega)
      have e2 : IntKind.u8.wrap (IntKind.u64.wrap (n % 128 + 128)) = n % 128 + 128 := by rw [wrap_u64 (by omega) (by omega), wrap_u8]; omega
      rw [pow_succ128] at h1
      obtain ⟨last, init, q1, q2, q3, q4⟩ := ih m (n / 128) (out ++ [n % 128 + 128]) (by omega) (by omega) (by omega) (by omega) (by simp; omega)
      refine ⟨last, (n % 128 + 128) :: init, by rw [if_pos hn, q1]; rfl, q2, q3, ?_⟩
      have e3 : apOk out [n % 128 + 128] 1 = true := apOk1 (by simp; omega)
      simp only [hn, decide_true, cond_true, t1, t2, e1, e2, e3, chk]
      rw [q4, List.append_assoc]
      rfl
    · refine ⟨n, [], by rw [if_neg hn]; rfl, h0, by omega, ?_⟩
      simp [hn]
theorem refPut_eq (fu : Nat) (hfu : 12 ≤ fu) (b : List Int) (n : Int) (hl : b.length ≤ 400000) (h0 : 0 ≤ n) (h1 : n < 18446744073709551616) : ref03Put fu b n = some ((b ++ putN 9 n, ()), ()) := by
  have hp : (128 : Int) ^ (9 + 1) = 1180591620717411303424 := by decide
  obtain ⟨last, init, p1, p2, p3, p4⟩ := refPut_rounds fu (fun nq2 outq2 => 
      chk (apOk outq2 ([IntKind.u8.wrap nq2]) 1) <|
      let t3 := outq2 ++ ([IntKind.u8.wrap nq2])
      some ((t3, ()), (()))) 9 fu n b (by omega) h0 (by omega) h1 (by omega)
  have hlen := putN_len 9 n
  rw [p1] at hlen
  simp only [List.length_append, List.length_cons, List.length_nil] at hlen
  have e1 : IntKind.u8.wrap last = last := by rw [wrap_u8]; omega
  have e2 : apOk (b ++ init) [last] 1 = true := apOk1 (by simp; omega)
  have e3 : apOk ([] : List Int) b 1 = true := apOk1 (by simp; omega)
  unfold ref03Put
  simp only [e3, chk, cond_true, List.nil_append]
  refine p4.trans ?_
  simp only [e1, e2, chk, cond_true, p1, List.append_assoc]
theorem zig_fits {n : Int} (h0 : -9223372036854775808 ≤ n) (h1 : n < 9223372036854775808) : 0 ≤ zig n ∧ zig n < 18446744073709551616 := by
  unfold zig; split <;> omega
theorem refMay_eq (fu : Nat) (v : Va) (h : F64 v.2.2.1) : ref04May fu v = some (mayV v, ()) := by
  obtain ⟨k, i, x, s, u⟩ := v
  have h' : F64 x := h
  have q1 : ((x : Int) == 0) = decide (x = 0) := by
    by_cases hy : x = 0
    · subst hy; rfl
    · rw [decide_eq_false hy]; exact ne_beq (by omega)
  have q2 : ∀ a b : Int, (a == b) = decide (a = b) := fun _ _ => rfl
  have q3 : (s == ([] : List Int)) = decide (s = []) := by cases s <;> rfl
  have q4 : decide ((s.length : Int) ≤ 255) = decide (s.length ≤ 255) := by
    by_cases hs : s.length ≤ 255
    · rw [decide_eq_true hs, decide_eq_true (by omega)]
    · rw [decide_eq_false hs, decide_eq_false (by omega)]
  have q5 : decide (k < 4) = decide (k ≤ 3) := by
    by_cases hs : k ≤ 3
    · rw [decide_eq_true hs, decide_eq_true (by omega)]
    · rw [decide_eq_false hs, decide_eq_false (by omega)]
  unfold ref04May mayV
  unfold ref04May.j2
  rw [bits_bind fu h', bits_bind fu h']
  simp only [ref04May.j3, ref04May.j4, q1, q2, q3, q4, q5]
  cases decide (k ≤ 3) <;> cases decide (s.length ≤ 255) <;> cases decide (i = 0) <;> cases decide (x = 0) <;> cases decide (s = []) <;> cases decide (k = 1) <;> cases decide (k = 2) <;> cases decide (k = 3) <;> rfl
theorem text_put (a rest s : List Int) (hs : s.length ≤ 255) : text1 (a ++ (putN 9 s.length ++ s) ++ rest) a.length 255 = (s, (a.length : Int) + ((putN 9 s.length).length : Int) + s.length, 0) := by
  have g := got_put a (s ++ rest) s.length (by omega) (by omega)
  rw [show a ++ putN 9 (s.length : Int) ++ (s ++ rest) = a ++ (putN 9 s.length ++ s) ++ rest by simp] at g
  unfold text1
  rw [g]
  simp only
  rw [if_neg (by simp), if_neg (by omega), if_neg (by simp; omega)]
  have := cut_mid (a ++ putN 9 s.length) s rest
  rw [show a ++ putN 9 (s.length : Int) ++ s ++ rest = a ++ (putN 9 s.length ++ s) ++ rest by simp, List.length_append] at this
  rw [show ((a.length : Int) + ((putN 9 (s.length : Int)).length : Int)) = ((a.length + (putN 9 (s.length : Int)).length : Nat) : Int) by omega, this]
theorem real_put (a rest : List Int) (x : Nat) (hx : F64 x) : real1 (a ++ bytes8 (canon x) ++ rest) a.length = ((canon x).toNat, (a.length : Int) + 8, 0) := by
  have hc := canon_fits x hx
  have hm := cut_mid a (bytes8 (canon x)) rest
  rw [show (bytes8 (canon x)).length = 8 from rfl] at hm
  unfold real1
  rw [if_neg (by simp [bytes8]; omega)]
  rw [show ((a.length : Int) + ((8 : Nat) : Int)) = (a.length : Int) + 8 from rfl] at hm
  rw [hm, be_bytes8 _ hc.1 hc.2, if_pos (canon_canon x)]
def cv (v : Va) : Va := (v.1, v.2.1, (canon v.2.2.1).toNat, v.2.2.2.1, ())
theorem cv_same (v : Va) : same4 (cv v) v = true := by
  unfold same4 cv
  have h := canon_canon v.2.2.1
  simp [h]
theorem val_put (a rest : List Int) (v : Va) (hv : vaOk v) (hm : mayV v = true) : val1 (a ++ putV v ++ rest) a.length = (cv v, (a.length : Int) + (putV v).length, 0) := by
  have hm0 := hm
  unfold mayV at hm
  simp only [Bool.and_eq_true, Bool.or_eq_true, decide_eq_true_eq] at hm
  obtain ⟨⟨⟨⟨m1, m2⟩, m3⟩, m4⟩, m5⟩ := hm
  obtain ⟨k, i, x, s, u⟩ := v
  simp only at m1 m2 m3 m4 m5
  have hk := hv.1.1
  have hi := zig_fits hv.2.1.1 hv.2.1.2
  have hx : F64 x := hv.2.2.1
  simp only at hk hi
  have e1 : ∀ t : List Int, ixL (0 : Int) (a ++ (k :: t) ++ rest) a.length = k := fun t => by
    unfold ixL; simp
  have e2 : ∀ t : List Int, a ++ (k :: t) ++ rest = (a ++ [k]) ++ t ++ rest := fun t => by simp
  have e3 : (a.length : Int) + 1 = ((a ++ [k]).length : Int) := by simp
  have e4 : ∀ t : List Int, ¬ ((a.length : Int) < 0 ∨ (a.length : Int) ≥ ((a ++ (k :: t) ++ rest).length : Int)) := fun t => by simp; omega
  have c0 : (canon 0).toNat = 0 := by decide
  unfold val1 cv
  simp only
  by_cases k0 : k = 0
  · subst k0
    have : i = 0 := by omega
    have : x = 0 := by omega
    have hs0 : s = [] := by rcases m4 with h | h; exact h; omega
    subst_vars
    have p : putV (0, 0, 0, [], u) = 0 :: [] := rfl
    rw [p, if_neg (e4 _), e1, if_pos rfl, c0]
    simp [noVa]
  · by_cases k1 : k = 1
    · subst k1
      have : x = 0 := by omega
      have hs0 : s = [] := by rcases m4 with h | h; exact h; omega
      subst_vars
      have p : putV (1, i, 0, [], u) = 1 :: putN 9 (zig i) := rfl
      rw [p, if_neg (e4 _), e1, if_neg k0, if_pos rfl, e2, e3, got_put _ rest _ hi.1 hi.2, if_pos rfl, zag_zig, c0]
      simp; omega
    · by_cases k2 : k = 2
      · subst k2
        have : i = 0 := by omega
        have hs0 : s = [] := by rcases m4 with h | h; exact h; omega
        subst_vars
        have p : putV (2, 0, x, [], u) = 2 :: bytes8 (canon x) := rfl
        rw [p, if_neg (e4 _), e1, if_neg k0, if_neg k1, if_pos rfl, e2, e3, real_put _ rest _ hx, if_pos rfl]
        simp [bytes8]; omega
      · have k3 : k = 3 := by omega
        subst k3
        have : i = 0 := by omega
        have : x = 0 := by omega
        subst_vars
        have p : putV (3, 0, 0, s, u) = 3 :: (putN 9 s.length ++ s) := rfl
        rw [p, if_neg (e4 _), e1, if_neg k0, if_neg k1, if_neg k2, if_pos rfl, e2, e3, text_put _ rest _ m5, if_pos rfl, c0]
        simp; omega
theorem bytes8_len (n : Int) : (bytes8 n).length = 8 := rfl
theorem putV_len {v : Va} (hm : mayV v = true) : (putV v).length ≤ 300 := by
  have := mayV_len hm
  have h1 := putN_len 9 (zig v.2.1)
  have h2 := putN_len 9 (v.2.2.2.1.length)
  unfold putV
  split
  · simp only [List.length_cons]; omega
  · split
    · simp only [List.length_cons, bytes8_len]; omega
    · split
      · simp only [List.length_cons, List.length_append]; omega
      · simp
theorem putV_by {v : Va} (hv : vaOk v) (hm : mayV v = true) : By (putV v) := by
  have hi := zig_fits hv.2.1.1 hv.2.1.2
  have hk := hv.1
  have hs := hv.2.2.2
  have hl := mayV_len hm
  unfold putV
  intro x hx
  rcases List.mem_cons.1 hx with rfl | hx
  · exact hk
  · split at hx
    · exact putN_by9 _ hi.1 hi.2 x hx
    · split at hx
      · exact bytes8_by _ x hx
      · split at hx
        · exact by_app (putN_by9 _ (by omega) (by omega)) hs x hx
        · exact nomatch hx
theorem ixOkN {α : Type} {l : List α} {i : Nat} (h : i < l.length) : ixOk l (i : Int) = true := by unfold ixOk; simp; omega
theorem drop_one {α : Type} {l : List α} {i : Nat} (h : i < l.length) : l.drop i = l[i] :: l.drop (i + 1) := List.drop_eq_getElem_cons h
theorem clone_eq (fu : Nat) (b : List Int) (hl : b.length ≤ 500000) : slicesClone fu b = some ((b, ()), ()) := by
  have e1 : apOk ([] : List Int) b 1 = true := apOk1 (by simp; omega)
  unfold slicesClone
  simp only [e1, chk, cond_true, List.nil_append]
  cases b with
  | nil => unfold nilQ both; simp
  | cons x q => rfl
abbrev Rw : Type := Int × Int × Int × List Int × Unit
def rawV (x : Rw) : Va := (x.1, x.2.1, x.2.2.1.toNat, x.2.2.2.1, ())
theorem raw_eq (fu : Nat) (x : Rw) : law04RawValue fu x = some (rawV x, ()) := rfl
def rung (x : Nat) : Nat := x % 9223372036854775808
def sgn (x : Nat) : Bool := x / 9223372036854775808 % 2 == 1
instance (x : Nat) : Decidable (isNan x) := inferInstanceAs (Decidable (_ > _))
def vaFit (v : Va) : Prop := (-9223372036854775808 ≤ v.2.1 ∧ v.2.1 ≤ 9223372036854775807) ∧ F64 v.2.2.1
theorem raw_fit {x : Rw} (h : (Kd.struct [(.int .u8), (.int .i64), (.int .u64), .str]).ok x) : vaFit (rawV x) := by
  obtain ⟨-, k2, k3, -⟩ := h
  have k2 := i64Of k2
  have k3 : 0 ≤ x.2.2.1 ∧ x.2.2.1 < 18446744073709551616 := u64Of k3
  have k2 : -9223372036854775808 ≤ x.2.1 ∧ x.2.1 < 9223372036854775808 := k2
  exact ⟨⟨k2.1, by show x.2.1 ≤ _; omega⟩, by show x.2.2.1.toNat < _; omega⟩
def key (x : Nat) : Int := if isNan x then 18444492273895866368 else if sgn x = true then 9223372036854775807 - (rung x : Int) else 9223372036854775808 + (rung x : Int)
theorem u8Of {x : Int} (h : inR .u8 x) : 0 ≤ x ∧ x < 256 := by
  simp [inR, IntKind.min, IntKind.max, IntKind.signed, IntKind.bits] at h
  omega
abbrev Te : Type := Int × Int × Va × Unit
abbrev Pd : Type := Bool × Int × List Te × Unit
abbrev RT : Type := Int × Int × Rw × Unit
def rawT (x : RT) : Te := (x.1, x.2.1, rawV x.2.2.1, ())
theorem apOk48 {xs ys : List Te} (h : xs.length + ys.length ≤ 100000) : apOk xs ys 48 = true := by
  have hL : (10000000 : Nat) ≤ LIM := by decide
  unfold apOk
  exact decide_eq_true (by omega)
theorem ixRT {l : List RT} {i : Nat} (h : i < l.length) : ixL ((0 : Int), (0 : Int), ((0 : Int), (0 : Int), (0 : Int), ([] : List Int), ()), ()) l i = l[i] := by
  unfold ixL
  simp [List.getElem?_eq_getElem h]
theorem ixT {l : List Te} {i : Nat} (h : i < l.length) : ixL ((0 : Int), (0 : Int), ((0 : Int), (0 : Int), (0 : Nat), ([] : List Int), ()), ()) l i = l[i] := by
  unfold ixL
  simp [List.getElem?_eq_getElem h]
theorem raw10_rounds (fu : Nat) (k2 : Bool → Int → List Te → Bool → Int → List Te → Option (Pd × Unit)) (l : List RT) (hl : l.length ≤ 140737488355328) (b1 b2 : Bool) (c1 c2 : Int) (c1x : List Te) : ∀ (k m i : Nat), i + k = l.length → k < m →
    law10RawPred.l3 fu k2 m l l.length i b1 c1 c1x b2 c2 ((l.take (min i 10)).map rawT) = k2 b1 c1 c1x b2 c2 ((l.take 10).map rawT) := by
  intro k
  induction k with
  | zero =>
    intro m i h1 h2
    obtain ⟨m, rfl⟩ : ∃ j, m = j + 1 := ⟨m - 1, by omega⟩
    unfold law10RawPred.l3 law10RawPred.b3
    rw [decide_eq_false (by omega), cond_false]
    congr 2
    by_cases h : i ≤ 10
    · rw [show min i 10 = i by omega, List.take_of_length_le (by omega), List.take_of_length_le (by omega)]
    · rw [show min i 10 = 10 by omega]
  | succ k ih =>
    intro m i h1 h2
    obtain ⟨m, rfl⟩ : ∃ j, m = j + 1 := ⟨m - 1, by omega⟩
    have hi : i < l.length := by omega
    have e1 : IntKind.i64.wrap ((i : Int) + 1) = ((i + 1 : Nat) : Int) := wrap_i64 (by omega) (by omega)
    have := ih m (i + 1) (by omega) (by omega)
    unfold law10RawPred.l3 law10RawPred.b3
    rw [decide_eq_true (by omega), cond_true, ixOkN hi, ixRT hi]
    simp only [raw_eq, chk, cond_true, Option.bind_some, e1]
    by_cases h30 : (i : Int) < 10
    · have e2 : apOk ((l.take (min i 10)).map rawT) [rawT l[i]] 48 = true := apOk48 (by simp; omega)
      have e3 : (((l[i].1, l[i].2.1, rawV l[i].2.2.1, ()) : Te)) = rawT l[i] := rfl
      simp only [decide_eq_true h30, cond_true, e3, e2]
      rw [show min (i + 1) 10 = i + 1 by omega, List.take_succ_eq_append_getElem hi, List.map_append] at this
      rw [show min i 10 = i by omega]
      exact this
    · simp only [decide_eq_false h30, cond_false]
      rw [show min (i + 1) 10 = 10 by omega] at this
      rw [show min i 10 = 10 by omega]
      exact this
def rawP (x : Bool × Int × List RT × Unit) : Pd := (x.1, x.2.1, (x.2.2.1.take 10).map rawT, ())
theorem rawP_eq (fu : Nat) (x : Bool × Int × List RT × Unit) (hl : x.2.2.1.length ≤ 140737488355328) (hfu : x.2.2.1.length < fu) : law10RawPred fu x = some (rawP x, ()) := by
  unfold law10RawPred
  have := raw10_rounds fu (fun c1q2 c1q2x2 c1q2x3 c2q2 c2q2x2 c2q2x3 => some ((c2q2, c2q2x2, c2q2x3, ()), ())) x.2.2.1 hl false x.1 0 x.2.1 [] x.2.2.1.length fu 0 (by omega) hfu
  rw [show min 0 10 = 0 from rfl, List.take_zero, List.map_nil] at this
  exact this
theorem great10_rounds (fu : Nat) (k2 : Int → Option (Bool × Unit)) (p : Pd) (hl : p.2.2.1.length ≤ 40) : ∀ (k m i : Nat) (n : Int), i + k = p.2.2.1.length → k < m → ∃ n', ref10Great.l5 fu k2 m n p.2.2.1.length i p = k2 n' := by
  intro k
  induction k with
  | zero =>
    intro m i n h1 h2
    obtain ⟨m, rfl⟩ : ∃ j, m = j + 1 := ⟨m - 1, by omega⟩
    unfold ref10Great.l5 ref10Great.b5
    rw [decide_eq_false (by omega), cond_false]
    exact ⟨n, rfl⟩
  | succ k ih =>
    intro m i n h1 h2
    obtain ⟨m, rfl⟩ : ∃ j, m = j + 1 := ⟨m - 1, by omega⟩
    have hi : i < p.2.2.1.length := by omega
    have e1 : IntKind.i64.wrap ((i : Int) + 1) = ((i + 1 : Nat) : Int) := wrap_i64 (by omega) (by omega)
    unfold ref10Great.l5 ref10Great.b5
    rw [decide_eq_true (by omega), cond_true, ixOkN hi, ixT hi]
    simp only [chk, cond_true, e1]
    exact ih m (i + 1) _ (by omega) (by omega)
theorem great10_eq (fu : Nat) (hfu : 50 ≤ fu) (p : Pd) : ∃ g, ref10Great fu p = some (g, ()) := by
  unfold ref10Great
  by_cases h : (p.2.2.1.length : Int) > 20
  · exact ⟨true, by simp only [decide_eq_true h, cond_true]⟩
  · obtain ⟨n', hn⟩ := great10_rounds fu (fun nq2 => some (decide (nq2 > (3000 : Int)), ())) p (by omega) p.2.2.1.length fu 0 p.2.2.1.length (by omega) (by omega)
    refine ⟨decide (n' > (3000 : Int)), ?_⟩
    simp only [decide_eq_false h, cond_false]
    exact hn
def sameT (x y : Te) : Bool := decide (x.1 = y.1) && (decide (x.2.1 = y.2.1) && same4 x.2.2.1 y.2.2.1)
def allT : List Te → List Te → Bool
  | x :: xs, y :: ys => sameT x y && allT xs ys
  | _, _ => true
def okT (l : List Te) : Prop := ∀ t ∈ l, F64 t.2.2.1.2.2.1
theorem refT_rounds (fu : Nat) (k1 : Bool → Option (Bool × Unit)) (k2 : Unit → Option (Bool × Unit)) (a b : Pd) (hl : a.2.2.1.length = b.2.2.1.length) (hmax : a.2.2.1.length ≤ 1000) (ha : okT a.2.2.1) (hb : okT b.2.2.1) : ∀ (k m i : Nat), i + k = a.2.2.1.length → k < m →
    ref10Same.l4 fu k1 k2 m a.2.2.1.length i a b = cond (allT (a.2.2.1.drop i) (b.2.2.1.drop i)) (k2 ()) (k1 false) := by
  intro k
  induction k with
  | zero =>
    intro m i h1 h2
    obtain ⟨m, rfl⟩ : ∃ j, m = j + 1 := ⟨m - 1, by omega⟩
    rw [List.drop_eq_nil_of_le (by omega)]
    unfold ref10Same.l4 ref10Same.b4
    rw [decide_eq_false (by omega), cond_false]
    rfl
  | succ k ih =>
    intro m i h1 h2
    obtain ⟨m, rfl⟩ : ∃ j, m = j + 1 := ⟨m - 1, by omega⟩
    have hi : i < a.2.2.1.length := by omega
    have hi' : i < b.2.2.1.length := by omega
    have e1 : IntKind.i64.wrap ((i : Int) + 1) = ((i + 1 : Nat) : Int) := wrap_i64 (by omega) (by omega)
    have := ih m (i + 1) (by omega) (by omega)
    have ea := ha _ (List.getElem_mem hi)
    have eb := hb _ (List.getElem_mem hi')
    rw [drop_one hi, drop_one hi']
    unfold ref10Same.l4 ref10Same.b4 allT sameT
    rw [decide_eq_true (by omega), cond_true, ixOkN hi, ixOkN hi', ixT hi, ixT hi']
    simp only [same4_eq fu _ _ ea eb, chk, cond_true, Option.bind_some, e1, this]
    generalize a.2.2.1[i] = x
    generalize b.2.2.1[i] = y
    by_cases h1 : x.1 = y.1
    · by_cases h2 : x.2.1 = y.2.1
      · simp only [h1, h2, bne_self_eq_false, cond_false, decide_true, Bool.true_and]
        cases same4 x.2.2.1 y.2.2.1 <;> simp
      · simp only [h1, bne_self_eq_false, cond_false, ne_bne h2, cond_true, decide_eq_false h2, Bool.false_and, Bool.and_false]
    · simp only [ne_bne h1, cond_true, decide_eq_false h1, Bool.false_and, cond_false]
def sameP (a b : Pd) : Bool := (a.1 == b.1) && (decide (a.2.1 = b.2.1) && (decide (a.2.2.1.length = b.2.2.1.length) && allT a.2.2.1 b.2.2.1))
theorem len_bne (x y : Nat) : ((x : Int) != (y : Int)) = !decide (x = y) := by
  by_cases h : x = y
  · subst h; simp
  · rw [decide_eq_false h]; exact ne_bne (by omega)
theorem refSameP_eq (fu : Nat) (a b : Pd) (hmax : a.2.2.1.length ≤ 1000) (hfu : a.2.2.1.length < fu) (ha : okT a.2.2.1) (hb : okT b.2.2.1) : ref10Same fu a b = some (sameP a b, ()) := by
  unfold ref10Same sameP
  have q : (a.2.1 != b.2.1) = !decide (a.2.1 = b.2.1) := rfl
  rw [q]
  simp only [len_bne]
  by_cases hl : a.2.2.1.length = b.2.2.1.length
  · have := refT_rounds fu (fun vq3 => some (vq3, ())) (fun _ => some (true, ())) a b hl hmax ha hb a.2.2.1.length fu 0 (by omega) hfu
    rw [List.drop_zero, List.drop_zero] at this
    rw [show ((0 : Nat) : Int) = 0 from rfl] at this
    simp only [decide_eq_true hl, Bool.not_true, cond_false, this]
    cases (a.1 == b.1) <;> cases decide (a.2.1 = b.2.1) <;> cases allT a.2.2.1 b.2.2.1 <;> rfl
  · simp only [decide_eq_false hl, Bool.not_false, cond_true]
    cases (a.1 == b.1) <;> cases decide (a.2.1 = b.2.1) <;> rfl
theorem fixed10 (m : Nat) : law10Fixed (m + 100) = some (true, ()) := by kernel_rfl
theorem rawP_ok {x : Bool × Int × List RT × Unit} (h : kS5.ok x) : okT (rawP x).2.2.1 ∧ (rawP x).2.2.1.length ≤ 10 ∧ x.2.2.1.length ≤ 140737488355328 := by
  obtain ⟨-, -, h2, -⟩ := h
  refine ⟨?_, by simp [rawP]; omega, ?_⟩
  · intro v hv
    obtain ⟨w, hw, rfl⟩ := List.mem_map.1 hv
    obtain ⟨-, -, ⟨-, -, k3, -⟩, -⟩ := h2.2 w (List.mem_of_mem_take hw)
    have k3 : 0 ≤ w.2.2.1.2.2.1 ∧ w.2.2.1.2.2.1 < 18446744073709551616 := u64Of k3
    show w.2.2.1.2.2.1.toNat < _
    omega
  · have hb : x.2.2.1.length * 1 ≤ x.2.2.1.length * (Kd.bytes kS4) := Nat.mul_le_mul_left _ (by decide)
    have hr : reachBytes = 140737488351232 + 4096 - 4096 := by decide
    have : x.2.2.1.length * (Kd.bytes kS4) ≤ reachBytes := h2.1
    omega
def teFit (t : Te) : Prop := (0 ≤ t.1 ∧ t.1 ≤ 255) ∧ (0 ≤ t.2.1 ∧ t.2.1 ≤ 255) ∧ vaFit t.2.2.1 ∧ 0 ≤ t.2.2.1.1
def rightT (t : Te) : Bool := mayV t.2.2.1 && (if t.2.1 = 7 then decide (t.2.2.1.1 = 0) else if t.2.1 = 8 then decide (t.2.2.1.1 = 3) else decide (1 ≤ t.2.1) && (decide (t.2.1 ≤ 6) && !decide (t.2.2.1.1 = 0)))
theorem beq_dec (x y : Int) : (x == y) = decide (x = y) := rfl
theorem bne_dec' (x y : Int) : (x != y) = !decide (x = y) := rfl
theorem predRight_eq (fu : Nat) (t : Te) (h : teFit t) : predRight fu t = some (rightT t, ()) := by
  unfold predRight rightT
  rw [valueMay_eq fu _ h.2.2.1.2]
  simp only [Option.bind_some, beq_dec, bne_dec']
  cases mayV t.2.2.1 with
  | false => rfl
  | true =>
    simp only [Bool.not_true, cond_false, Bool.true_and]
    by_cases h7 : t.2.1 = 7
    · simp [h7]
    · by_cases h8 : t.2.1 = 8
      · simp [h8]
      · simp only [decide_eq_false h7, decide_eq_false h8, if_neg h7, if_neg h8, cond_false]
        by_cases h1 : 1 ≤ t.2.1
        · rw [decide_eq_true (show t.2.1 ≥ 1 from h1)]
          by_cases h6 : t.2.1 ≤ 6
          · rw [decide_eq_true h6]; rfl
          · rw [decide_eq_false h6]; rfl
        · rw [decide_eq_false (show ¬ t.2.1 ≥ 1 from h1)]; rfl
theorem refRight_eq (fu : Nat) (t : Te) (h : teFit t) : ref10Right fu t = some (rightT t, ()) := by
  unfold ref10Right rightT
  rw [refMay_eq fu _ h.2.2.1.2]
  simp only [Option.bind_some, beq_dec, bne_dec']
  by_cases h1 : t.2.1 < 1
  · rw [decide_eq_true h1, if_neg (by omega), if_neg (by omega), decide_eq_false (show ¬ 1 ≤ t.2.1 by omega)]
    simp
  · rw [decide_eq_false h1, decide_eq_true (show 1 ≤ t.2.1 by omega)]
    by_cases h8 : t.2.1 > 8
    · rw [decide_eq_true h8, if_neg (by omega), if_neg (by omega), decide_eq_false (show ¬ t.2.1 ≤ 6 by omega)]
      simp
    · rw [decide_eq_false h8]
      cases mayV t.2.2.1 with
      | false => rfl
      | true =>
        simp only [Bool.not_true, cond_false, Bool.true_and]
        by_cases h7 : t.2.1 = 7
        · simp [h7]
        · by_cases h8 : t.2.1 = 8
          · simp [h8]
          · rw [decide_eq_true (show t.2.1 ≤ 6 by omega)]
            simp only [decide_eq_false h7, decide_eq_false h8, if_neg h7, if_neg h8, cond_false, Bool.true_and]
theorem index10_rounds (fu : Nat) (k1 : Int → Option ((Int × Unit) × (Unit))) (k2 : Unit → Option ((Int × Unit) × (Unit))) (l : List Te) (hv : ∀ v ∈ l, teFit v) (hl : l.length ≤ 1000) : ∀ (k m i : Nat), i + k = l.length → k < m →
    ((l.drop i).all rightT = true → slicesIndexFunc.l2 fu k1 k2 m l l.length i = k2 ()) ∧ ((l.drop i).all rightT = false → ∃ j : Nat, slicesIndexFunc.l2 fu k1 k2 m l l.length i = k1 j) := by
  intro k
  induction k with
  | zero =>
    intro m i h1 h2
    obtain ⟨m, rfl⟩ : ∃ j, m = j + 1 := ⟨m - 1, by omega⟩
    rw [List.drop_eq_nil_of_le (by omega)]
    refine ⟨fun _ => ?_, fun h => absurd h (by decide)⟩
    unfold slicesIndexFunc.l2 slicesIndexFunc.b2
    rw [decide_eq_false (by omega), cond_false]
  | succ k ih =>
    intro m i h1 h2
    obtain ⟨m, rfl⟩ : ∃ j, m = j + 1 := ⟨m - 1, by omega⟩
    have hi : i < l.length := by omega
    have e1 : IntKind.i64.wrap ((i : Int) + 1) = ((i + 1 : Nat) : Int) := wrap_i64 (by omega) (by omega)
    have := ih m (i + 1) (by omega) (by omega)
    rw [drop_one hi]
    unfold slicesIndexFunc.l2 slicesIndexFunc.b2 predMay1
    rw [decide_eq_true (by omega), cond_true, ixOkN hi, ixT hi]
    simp only [predRight_eq fu _ (hv _ (List.getElem_mem hi)), chk, cond_true, Option.bind_some, e1, List.all_cons]
    cases hm : rightT l[i] with
    | true => simpa using this
    | false => simp only [Bool.false_and, Bool.not_false, cond_true]; exact ⟨fun h => (nomatch h), fun _ => ⟨i, rfl⟩⟩
def pdFit (p : Pd) : Prop := ∀ t ∈ p.2.2.1, teFit t
def mayP (p : Pd) : Bool := !(p.1 && !decide (p.2.1 = 0)) && (decide (p.2.2.1.length ≤ 4) && p.2.2.1.all rightT)
theorem contains10_eq (fu : Nat) (l : List Te) (hv : ∀ v ∈ l, teFit v) (hl : l.length ≤ 1000) (hfu : l.length < fu) : slicesContainsFunc fu l = some ((!(l.all rightT), ()), ()) := by
  have := index10_rounds fu (fun vq3 => some ((vq3, ()), (()))) (fun _ => some (((-1 : Int), ()), (()))) l hv hl l.length fu 0 (by omega) (by omega)
  rw [List.drop_zero] at this
  unfold slicesContainsFunc slicesIndexFunc
  rw [show ((0 : Int)) = ((0 : Nat) : Int) from rfl]
  cases hm : l.all rightT with
  | true => rw [this.1 hm]; rfl
  | false =>
    obtain ⟨j, hj⟩ := this.2 hm
    rw [hj]
    simp only [Option.bind_some, decide_eq_true (show (j : Int) ≥ ((0 : Nat) : Int) by omega), Bool.not_false]
theorem predMay_eq (fu : Nat) (hfu : 10 ≤ fu) (p : Pd) (hp : pdFit p) : predMay fu p = some (mayP p, ()) := by
  unfold predMay mayP
  have tail : (cond (decide ((p.2.2.1.length : Int) > 4)) (some (false, ())) ((slicesContainsFunc fu p.2.2.1).bind fun r2 => some (!r2.1.1, ()))) = some (decide (p.2.2.1.length ≤ 4) && p.2.2.1.all rightT, ()) := by
    by_cases h : p.2.2.1.length ≤ 4
    · rw [decide_eq_false (show ¬ (p.2.2.1.length : Int) > 4 by omega), decide_eq_true h, contains10_eq fu _ hp (by omega) (by omega)]
      simp
    · rw [decide_eq_true (show (p.2.2.1.length : Int) > 4 by omega), decide_eq_false h]; rfl
  simp only [bne_dec', tail]
  cases p.1 with
  | false => rfl
  | true =>
    by_cases h : p.2.1 = 0
    · simp [h]
    · simp [h]
theorem refMay10_rounds (fu : Nat) (k1 : Bool → Option (Bool × Unit)) (k2 : Pd → Option (Bool × Unit)) (p : Pd) (hv : pdFit p) (hl : p.2.2.1.length ≤ 1000) : ∀ (k m i : Nat), i + k = p.2.2.1.length → k < m →
    ref10May.l2 fu k1 k2 m p.2.2.1.length i p = if (p.2.2.1.drop i).all rightT = true then k2 p else k1 false := by
  intro k
  induction k with
  | zero =>
    intro m i h1 h2
    obtain ⟨m, rfl⟩ : ∃ j, m = j + 1 := ⟨m - 1, by omega⟩
    rw [List.drop_eq_nil_of_le (by omega)]
    unfold ref10May.l2 ref10May.b2
    rw [decide_eq_false (by omega), cond_false]
    rfl
  | succ k ih =>
    intro m i h1 h2
    obtain ⟨m, rfl⟩ : ∃ j, m = j + 1 := ⟨m - 1, by omega⟩
    have hi : i < p.2.2.1.length := by omega
    have e1 : IntKind.i64.wrap ((i : Int) + 1) = ((i + 1 : Nat) : Int) := wrap_i64 (by omega) (by omega)
    have := ih m (i + 1) (by omega) (by omega)
    rw [drop_one hi]
    unfold ref10May.l2 ref10May.b2
    rw [decide_eq_true (by omega), cond_true, ixOkN hi, ixT hi]
    simp only [refRight_eq fu _ (hv _ (List.getElem_mem hi)), chk, cond_true, Option.bind_some, e1, List.all_cons]
    by_cases hm : rightT p.2.2.1[i] = true
    · simp only [hm, Bool.not_true, cond_false, Bool.true_and]; exact this
    · have hm' : rightT p.2.2.1[i] = false := by simpa using hm
      simp [hm']
theorem refMayP_eq (fu : Nat) (hfu : 50 ≤ fu) (p : Pd) (hp : pdFit p) (hl : p.2.2.1.length ≤ 30) : ref10May fu p = some (mayP p, ()) := by
  unfold ref10May mayP
  have := refMay10_rounds fu (fun vq3 => some (vq3, ())) (fun b0q4 => cond (decide ((b0q4.2.2.1.length : Int) ≤ (4 : Int))) (cond b0q4.1 (some (!(b0q4.2.1 != (0 : Int)), ())) (some (true, ()))) (some (false, ()))) p hp (by omega) p.2.2.1.length fu 0 (by omega) (by omega)
  rw [List.drop_zero] at this
  refine Eq.trans this ?_
  have q : decide ((p.2.2.1.length : Int) ≤ 4) = decide (p.2.2.1.length ≤ 4) := by
    by_cases hs : p.2.2.1.length ≤ 4
    · rw [decide_eq_true hs, decide_eq_true (by omega)]
    · rw [decide_eq_false hs, decide_eq_false (by omega)]
  cases hm : p.2.2.1.all rightT with
  | true =>
    simp only [if_true, q, Bool.and_true, bne_dec']
    cases decide (p.2.2.1.length ≤ 4) <;> cases p.1 <;> cases decide (p.2.1 = 0) <;> rfl
  | false => simp
theorem putO_eq (fu : Nat) (hfu : 12 ≤ fu) (b : List Int) (n : Int) (hl : b.length ≤ 400000) (h0 : 0 ≤ n) (h1 : n < 18446744073709551616) : packPut fu b n = some ((b ++ putN 9 n, ()), ()) := by
  obtain ⟨r, q1, q2, q3⟩ := size_le fu n h0 h1
  have hp : (128 : Int) ^ (9 + 1) = 1180591620717411303424 := by decide
  obtain ⟨last, init, p1, p2, p3, p4⟩ := putO_rounds fu (fun nq2 outq2 => 
    chk (apOk outq2 ([IntKind.u8.wrap nq2]) 1) <|
    let t3 := outq2 ++ ([IntKind.u8.wrap nq2])
    some ((t3, ()), (()))) 9 fu n b (by omega) h0 (by omega) (by omega)
  have hlen := putN_len 9 n
  rw [p1] at hlen
  simp only [List.length_append, List.length_cons, List.length_nil] at hlen
  have e1 : IntKind.u8.wrap last = last := by rw [wrap_u8]; omega
  have e2 : apOk (b ++ init) [last] 1 = true := apOk1 (by simp; omega)
  unfold packPut
  simp only [q1, Option.bind_some, own_eq fu b r (by omega) q2 (by omega)]
  refine p4.trans ?_
  simp only [e1, e2, chk, cond_true, p1, List.append_assoc]
theorem putTextO_eq (fu : Nat) (hfu : 12 ≤ fu) (b s : List Int) (hl : b.length ≤ 400000) (hs : s.length ≤ 400000) : packPutText fu b s = some ((b ++ putN 9 s.length ++ s, ()), ()) := by
  unfold packPutText
  have e1 : IntKind.u64.wrap (s.length : Int) = s.length := wrap_u64 (by omega) (by omega)
  have := putN_len 9 s.length
  have e2 : apOk (b ++ putN 9 s.length) s 1 = true := apOk1 (by rw [List.length_append]; omega)
  simp only [e1, putO_eq fu hfu b s.length hl (by omega) (by omega), Option.bind_some, e2, chk, cond_true]
theorem realO_step (fu : Nat) (k2 : List Int → Option (((List Int) × Unit) × (Unit))) (m k : Nat) (hk : k < 64) (out : List Int) (n : Int) (ho : out.length ≤ 900000) :
    packPutReal.l4 fu k2 (m + 1) out n (k : Int) = packPutReal.l4 fu k2 m (out ++ [n / 2 ^ k % 256]) n ((k : Int) - 8) := by
  have e1 : apOk out [n / 2 ^ k % 256] 1 = true := apOk1 (by simp; omega)
  have e2 : IntKind.i64.wrap ((k : Int) - 8) = k - 8 := wrap_i64 (by omega) (by omega)
  have h1 : decide ((k : Int) ≥ 0) = true := decide_eq_true (by omega)
  have h2 : decide ((k : Int) < 0) = false := decide_eq_false (by omega)
  conv => lhs; unfold packPutReal.l4 packPutReal.b4
  simp only [h1, h2, cond_true, chk, Bool.not_false, shr_eq n k hk, wrap_u8, e1, e2]
theorem realO_end (fu : Nat) (k2 : List Int → Option (((List Int) × Unit) × (Unit))) (m : Nat) (out : List Int) (n : Int) : packPutReal.l4 fu k2 (m + 1) out n (-8) = k2 out := by
  unfold packPutReal.l4 packPutReal.b4
  rfl
theorem putRealO_eq (f : Nat) (b : List Int) (x : Nat) (hl : b.length ≤ 400000) (hx : x < 18446744073709551616) :
    packPutReal (f + 9) b x = some ((b ++ bytes8 (canon x), ()), ()) := by
  unfold packPutReal
  rw [own_eq _ b 8 (by omega) (by omega) (by omega), realBits_eq _ x hx]
  simp only [Option.bind_some]
  generalize canon x = n
  refine (realO_step _ _ (f + 8) 56 (by omega) b n (by omega)).trans ?_
  refine (realO_step _ _ (f + 7) 48 (by omega) _ n (by simp; omega)).trans ?_
  refine (realO_step _ _ (f + 6) 40 (by omega) _ n (by simp; omega)).trans ?_
  refine (realO_step _ _ (f + 5) 32 (by omega) _ n (by simp; omega)).trans ?_
  refine (realO_step _ _ (f + 4) 24 (by omega) _ n (by simp; omega)).trans ?_
  refine (realO_step _ _ (f + 3) 16 (by omega) _ n (by simp; omega)).trans ?_
  refine (realO_step _ _ (f + 2) 8 (by omega) _ n (by simp; omega)).trans ?_
  refine (realO_step _ _ (f + 1) 0 (by omega) _ n (by simp; omega)).trans ?_
  refine (realO_end _ _ f _ n).trans ?_
  simp [bytes8]
theorem putRealO_eq' (fu : Nat) (hfu : 9 ≤ fu) (b : List Int) (x : Nat) (hl : b.length ≤ 400000) (hx : x < 18446744073709551616) : packPutReal fu b x = some ((b ++ bytes8 (canon x), ()), ()) := by
  have := putRealO_eq (fu - 9) b x hl hx
  rwa [show fu - 9 + 9 = fu by omega] at this
theorem putIntO_eq (fu : Nat) (hfu : 12 ≤ fu) (b : List Int) (n : Int) (hl : b.length ≤ 400000) (h0 : -9223372036854775808 ≤ n) (h1 : n < 9223372036854775808) : packPutInt fu b n = some ((b ++ putN 9 (zig n), ()), ()) := by
  unfold packPutInt zig
  rw [shr63 n h0 h1]
  have hsh : ∀ x : Int, 0 ≤ x → x < 18446744073709551616 → sShl .u64 x 1 = IntKind.u64.wrap (x * 2) := fun x _ _ => by
    unfold sShl
    have e : min (1 : Int).toNat IntKind.u64.bits = 1 := by decide
    rw [e]
    rfl
  by_cases hn : n ≥ 0
  · have e1 : IntKind.u64.wrap n = n := wrap_u64 (by omega) (by omega)
    have e2 : sShl .u64 n 1 = 2 * n := by rw [hsh n hn (by omega), wrap_u64 (by omega) (by omega)]; omega
    have e3 : IntKind.u64.wrap 0 = 0 := by decide
    simp only [hn, if_true, e1, e2, e3, xor_zero64 (2 * n) (by omega) (by omega), putO_eq fu hfu b (2 * n) hl (by omega) (by omega), Option.bind_some]
  · have e1 : IntKind.u64.wrap n = n + 18446744073709551616 := by
      simp only [IntKind.wrap, IntKind.signed, IntKind.bits]
      simp
      omega
    have e2 : sShl .u64 (n + 18446744073709551616) 1 = 2 * n + 18446744073709551616 := by
      rw [hsh _ (by omega) (by omega)]
      simp only [IntKind.wrap, IntKind.signed, IntKind.bits]
      simp
      omega
    have e3 : IntKind.u64.wrap (-1) = 18446744073709551615 := by decide
    have e4 : (18446744073709551615 : Int) - (2 * n + 18446744073709551616) = -2 * n - 1 := by omega
    simp only [hn, if_false, e1, e2, e3, xor_ones64 (2 * n + 18446744073709551616) (by omega) (by omega), e4, putO_eq fu hfu b (-2 * n - 1) hl (by omega) (by omega), Option.bind_some]
theorem valuePutO_eq (fu : Nat) (hfu : 12 ≤ fu) (b : List Int) (v : Va) (hl : b.length ≤ 300000) (hv : vaOk v) : valuePut fu b v = some ((if mayV v = true then b ++ putV v else [], if mayV v = true then 0 else 1, ()), ()) := by
  unfold valuePut
  simp only [valueMay_eq fu v hv.2.2.1, Option.bind_some]
  by_cases hm : mayV v = true
  · have e1 : IntKind.i64.wrap ((b.length : Int) + 1) = b.length + 1 := wrap_i64 (by omega) (by omega)
    have e2 : mkOk (0 : Int) ((b.length : Int) + 1) 1 = true := mkOk0 (by omega) (by omega)
    have e3 : apOk ([] : List Int) b 1 = true := apOk1 (by simp; omega)
    have e4 : apOk b [v.1] 1 = true := apOk1 (by simp; omega)
    have hlen := mayV_len hm
    simp only [hm, Bool.not_true, cond_false, e1, e2, chk, cond_true, if_true, Int.toNat_zero, List.replicate_zero, e3, List.nil_append, e4]
    unfold putV
    by_cases k1 : v.1 = 1
    · simp only [k1, beq_self_eq_true, cond_true, putIntO_eq fu hfu (b ++ [1]) v.2.1 (by simp; omega) hv.2.1.1 hv.2.1.2, Option.bind_some, if_true, List.append_assoc, List.singleton_append]
    · by_cases k2 : v.1 = 2
      · simp only [k2, ne_beq (show ¬ (2 : Int) = 1 by decide), beq_self_eq_true, cond_true, cond_false, putRealO_eq' fu (by omega) (b ++ [2]) v.2.2.1 (by simp; omega) hv.2.2.1, Option.bind_some, show ¬ (2 : Int) = 1 by decide, if_false, if_true, List.append_assoc, List.singleton_append]
      · by_cases k3 : v.1 = 3
        · simp only [k3, ne_beq (show ¬ (3 : Int) = 1 by decide), ne_beq (show ¬ (3 : Int) = 2 by decide), beq_self_eq_true, cond_true, cond_false, putTextO_eq fu hfu (b ++ [3]) v.2.2.2.1 (by simp; omega) (by omega), Option.bind_some, show ¬ (3 : Int) = 1 by decide, show ¬ (3 : Int) = 2 by decide, if_false, if_true, List.append_assoc, List.nil_append, List.cons_append]
        · simp only [ne_beq k1, ne_beq k2, ne_beq k3, cond_false, if_neg k1, if_neg k2, if_neg k3]
  · have hm' : mayV v = false := by simpa using hm
    simp [hm']
theorem refPutIntO_eq (fu : Nat) (hfu : 12 ≤ fu) (b : List Int) (n : Int) (hl : b.length ≤ 400000) (h0 : -9223372036854775808 ≤ n) (h1 : n < 9223372036854775808) : ref03PutInt fu b n = some ((b ++ putN 9 (zig n), ()), ()) := by
  unfold ref03PutInt
  by_cases h : n ≥ 0
  · have e1 : IntKind.u64.wrap n = n := wrap_u64 (by omega) (by omega)
    have e2 : IntKind.u64.wrap (2 * n) = zig n := by rw [wrap_u64 (by omega) (by omega)]; unfold zig; rw [if_pos h]
    have hz := zig_fits h0 h1
    simp only [decide_eq_true h, cond_true, e1, e2, refPut_eq fu hfu b _ hl hz.1 hz.2, Option.bind_some]
  · have e0 : IntKind.i64.wrap (n + 1) = n + 1 := wrap_i64 (by omega) (by omega)
    have e3 : IntKind.i64.wrap (0 - (n + 1)) = -n - 1 := by rw [wrap_i64 (by omega) (by omega)]; omega
    have e1 : IntKind.u64.wrap (-n - 1) = -n - 1 := wrap_u64 (by omega) (by omega)
    have e4 : IntKind.u64.wrap (2 * (-n - 1)) = 2 * (-n - 1) := wrap_u64 (by omega) (by omega)
    have e2 : IntKind.u64.wrap (2 * (-n - 1) + 1) = zig n := by rw [wrap_u64 (by omega) (by omega)]; unfold zig; rw [if_neg h]; omega
    have hz := zig_fits h0 h1
    simp only [decide_eq_false h, cond_false, e0, e3, e1, e4, e2, refPut_eq fu hfu b _ hl hz.1 hz.2, Option.bind_some]
theorem refPutTextO_eq (fu : Nat) (hfu : 12 ≤ fu) (b s : List Int) (hl : b.length ≤ 400000) (hs : s.length ≤ 400000) : ref03PutText fu b s = some ((b ++ putN 9 s.length ++ s, ()), ()) := by
  unfold ref03PutText
  have e1 : IntKind.u64.wrap (s.length : Int) = s.length := wrap_u64 (by omega) (by omega)
  have := putN_len 9 s.length
  have e2 : apOk (b ++ putN 9 s.length) s 1 = true := apOk1 (by rw [List.length_append]; omega)
  simp only [e1, refPut_eq fu hfu b s.length hl (by omega) (by omega), Option.bind_some, e2, chk, cond_true]
theorem refRealO_step (fu : Nat) (k2 : List Int → List Int → Option (((List Int) × Unit) × (Unit))) (m k : Nat) (hk : k < 8) (out : List Int) (n : Int) (h0 : 0 ≤ n) (h1 : n < 18446744073709551616) (c0 : List Int) (hc : c0.length = 8) :
    ref03PutReal.l6 fu k2 (m + 1) out n (k : Int) c0 = ref03PutReal.l6 fu k2 m out (n / 256) ((k : Int) - 1) (c0.set k (n % 256)) := by
  have t1 : Int.tmod n 256 = n % 256 := Int.tmod_eq_emod_of_nonneg h0
  have t2 : Int.tdiv n 256 = n / 256 := Int.tdiv_eq_ediv_of_nonneg h0
  have e1 : IntKind.u8.wrap (n % 256) = n % 256 := by rw [wrap_u8]; omega
  have e2 : IntKind.u64.wrap (n / 256) = n / 256 := wrap_u64 (by omega) (by omega)
  have e3 : IntKind.i64.wrap ((k : Int) - 1) = k - 1 := wrap_i64 (by omega) (by omega)
  have e4 : ixArr 8 (k : Int) = true := by unfold ixArr; simp; omega
  have e5 : nOk c0 8 = true := by unfold nOk; rw [hc]; rfl
  conv => lhs; unfold ref03PutReal.l6 ref03PutReal.b6
  simp only [decide_eq_true (show (k : Int) ≥ 0 by omega), cond_true, t1, t2, e1, e2, e3, e4, e5, chk, stL, Int.toNat_natCast]
theorem refRealO_end (fu : Nat) (k2 : List Int → List Int → Option (((List Int) × Unit) × (Unit))) (m : Nat) (out : List Int) (n : Int) (c0 : List Int) : ref03PutReal.l6 fu k2 (m + 1) out n (-1) c0 = k2 out c0 := by
  unfold ref03PutReal.l6 ref03PutReal.b6
  rfl
theorem refRealO_rounds8 (fu : Nat) (k2 : List Int → List Int → Option (((List Int) × Unit) × (Unit))) (f : Nat) (out : List Int) (n : Int) (h0 : 0 ≤ n) (h1 : n < 18446744073709551616) :
    ref03PutReal.l6 fu k2 (f + 9) out n 7 (List.replicate 8 0) = k2 out (bytes8 n) := by
  refine (refRealO_step _ _ (f + 8) 7 (by omega) out n h0 h1 _ rfl).trans ?_
  refine (refRealO_step _ _ (f + 7) 6 (by omega) out _ (by omega) (by omega) _ (by simp)).trans ?_
  refine (refRealO_step _ _ (f + 6) 5 (by omega) out _ (by omega) (by omega) _ (by simp)).trans ?_
  refine (refRealO_step _ _ (f + 5) 4 (by omega) out _ (by omega) (by omega) _ (by simp)).trans ?_
  refine (refRealO_step _ _ (f + 4) 3 (by omega) out _ (by omega) (by omega) _ (by simp)).trans ?_
  refine (refRealO_step _ _ (f + 3) 2 (by omega) out _ (by omega) (by omega) _ (by simp)).trans ?_
  refine (refRealO_step _ _ (f + 2) 1 (by omega) out _ (by omega) (by omega) _ (by simp)).trans ?_
  refine (refRealO_step _ _ (f + 1) 0 (by omega) out _ (by omega) (by omega) _ (by simp)).trans ?_
  refine (refRealO_end _ _ f _ _ _).trans ?_
  congr 1
  have d1 : n / 256 / 256 = n / 65536 := by omega
  have d2 : n / 65536 / 256 = n / 16777216 := by omega
  have d3 : n / 16777216 / 256 = n / 4294967296 := by omega
  have d4 : n / 4294967296 / 256 = n / 1099511627776 := by omega
  have d5 : n / 1099511627776 / 256 = n / 281474976710656 := by omega
  have d6 : n / 281474976710656 / 256 = n / 72057594037927936 := by omega
  simp only [d1, d2, d3, d4, d5, d6]
  rfl
theorem refPutRealO_eq (fu : Nat) (hfu : 9 ≤ fu) (b : List Int) (x : Nat) (hl : b.length ≤ 400000) (hx : F64 x) : ref03PutReal fu b x = some ((b ++ bytes8 (canon x), ()), ()) := by
  obtain ⟨f, rfl⟩ : ∃ f, fu = f + 9 := ⟨fu - 9, by omega⟩
  have hc := canon_fits x hx
  unfold ref03PutReal
  rw [show apOk ([] : List Int) b 1 = true from apOk1 (by simp; omega)]
  simp only [chk, cond_true]
  rw [refBits_bind (f + 9) hx]
  have e1 : mkMut (8 : Int) (8 : Int) 1 = true := by decide
  rw [e1, show (8 : Int).toNat = 8 from rfl]
  simp only [cond_true]
  rw [refRealO_rounds8 _ _ f _ _ hc.1 hc.2]
  have e2 : nOk (bytes8 (canon x)) 8 = true := rfl
  have e3 : apOk b (bytes8 (canon x)) 1 = true := apOk1 (by simp [bytes8]; omega)
  simp only [List.nil_append, e2, e3, Bool.and_true, cond_true]
theorem refVPutO_eq (fu : Nat) (hfu : 12 ≤ fu) (b : List Int) (v : Va) (hl : b.length ≤ 300000) (hv : vaOk v) : ref04Put fu b v = some ((if mayV v = true then b ++ putV v else [], if mayV v = true then 0 else 1, ()), ()) := by
  unfold ref04Put
  simp only [refMay_eq fu v hv.2.2.1, Option.bind_some]
  by_cases hm : mayV v = true
  · have e3 : apOk ([] : List Int) b 1 = true := apOk1 (by simp; omega)
    have e4 : apOk b [v.1] 1 = true := apOk1 (by simp; omega)
    have hlen := mayV_len hm
    simp only [hm, Bool.not_true, cond_false, chk, cond_true, if_true, e3, List.nil_append, e4]
    unfold putV
    by_cases k1 : v.1 = 1
    · simp only [k1, beq_self_eq_true, cond_true, refPutIntO_eq fu hfu (b ++ [1]) v.2.1 (by simp; omega) hv.2.1.1 hv.2.1.2, Option.bind_some, if_true, List.append_assoc, List.singleton_append]
    · by_cases k2 : v.1 = 2
      · simp only [k2, ne_beq (show ¬ (2 : Int) = 1 by decide), beq_self_eq_true, cond_true, cond_false, refPutRealO_eq fu (by omega) (b ++ [2]) v.2.2.1 (by simp; omega) hv.2.2.1, Option.bind_some, show ¬ (2 : Int) = 1 by decide, if_false, if_true, List.append_assoc, List.singleton_append]
      · by_cases k3 : v.1 = 3
        · simp only [k3, ne_beq (show ¬ (3 : Int) = 1 by decide), ne_beq (show ¬ (3 : Int) = 2 by decide), beq_self_eq_true, cond_true, cond_false, refPutTextO_eq fu hfu (b ++ [3]) v.2.2.2.1 (by simp; omega) (by omega), Option.bind_some, show ¬ (3 : Int) = 1 by decide, show ¬ (3 : Int) = 2 by decide, if_false, if_true, List.append_assoc, List.nil_append, List.cons_append]
        · simp only [ne_beq k1, ne_beq k2, ne_beq k3, cond_false, if_neg k1, if_neg k2, if_neg k3]
  · have hm' : mayV v = false := by simpa using hm
    simp [hm']
/-! ### Questions put -/
def putT (t : Te) : List Int := t.1 :: t.2.1 :: putV t.2.2.1
def putTs (l : List Te) : List Int := l.flatMap putT
theorem putTs_cons (t : Te) (l : List Te) : putTs (t :: l) = putT t ++ putTs l := by simp [putTs]
def headP (p : Pd) : List Int := if p.1 = true then [16 * (p.2.2.1.length : Int) + 1] else [16 * (p.2.2.1.length : Int), p.2.1]
def putP (p : Pd) : List Int := headP p ++ putTs p.2.2.1
/-- What tests fit. -/
def teOk (t : Te) : Prop := teFit t ∧ vaOk t.2.2.1
def pdOk (p : Pd) : Prop := (0 ≤ p.2.1 ∧ p.2.1 ≤ 255) ∧ ∀ t ∈ p.2.2.1, teOk t
theorem right_may {t : Te} (h : rightT t = true) : mayV t.2.2.1 = true := by
  unfold rightT at h; rw [Bool.and_eq_true] at h; exact h.1
theorem pd_all {p : Pd} (h : mayP p = true) : p.2.2.1.length ≤ 4 ∧ ∀ t ∈ p.2.2.1, rightT t = true := by
  unfold mayP at h
  simp only [Bool.and_eq_true, decide_eq_true_eq] at h
  exact ⟨h.2.1, List.all_eq_true.1 h.2.2⟩
theorem putT_len {t : Te} (h : mayV t.2.2.1 = true) : (putT t).length ≤ 302 := by
  have := putV_len h
  simp only [putT, List.length_cons]; omega
theorem put10_rounds (fu : Nat) (hfu : 12 ≤ fu) (k2 : List Int → Option ((List Int) × Int × Unit)) (l : List Te) (hv : ∀ t ∈ l, teOk t ∧ rightT t = true) (hl : l.length ≤ 4) : ∀ (k m i : Nat) (out : List Int), i + k = l.length → k < m → out.length + 302 * k ≤ 200000 →
    predPutDat.l9 fu k2 m out l l.length i = k2 (out ++ putTs (l.drop i)) := by
  intro k
  induction k with
  | zero =>
    intro m i out h1 h2 h3
    obtain ⟨m, rfl⟩ : ∃ j, m = j + 1 := ⟨m - 1, by omega⟩
    rw [List.drop_eq_nil_of_le (by omega)]
    unfold predPutDat.l9 predPutDat.b9
    rw [decide_eq_false (by omega), cond_false]
    simp [putTs]
  | succ k ih =>
    intro m i out h1 h2 h3
    obtain ⟨m, rfl⟩ : ∃ j, m = j + 1 := ⟨m - 1, by omega⟩
    have hi : i < l.length := by omega
    have e1 : IntKind.i64.wrap ((i : Int) + 1) = ((i + 1 : Nat) : Int) := wrap_i64 (by omega) (by omega)
    obtain ⟨q1, q2⟩ := hv _ (List.getElem_mem hi)
    have qm := right_may q2
    have hp := putV_len qm
    rw [drop_one hi]
    unfold predPutDat.l9 predPutDat.b9
    rw [decide_eq_true (by omega), cond_true, ixOkN hi, ixT hi]
    have e2 : apOk out [l[i].1, l[i].2.1] 1 = true := apOk1 (by simp; omega)
    simp only [e2, valuePutO_eq fu hfu (out ++ [l[i].1, l[i].2.1]) _ (by simp; omega) q1.2, chk, cond_true, Option.bind_some, e1, if_pos qm]
    rw [ih m (i + 1) _ (by omega) (by omega) (by simp; omega), putTs_cons]
    unfold putT
    simp
theorem refPut10_rounds (fu : Nat) (hfu : 12 ≤ fu) (k2 : List Int → Option ((List Int) × Int × Unit)) (p : Pd) (hv : ∀ t ∈ p.2.2.1, teOk t ∧ rightT t = true) (hl : p.2.2.1.length ≤ 4) : ∀ (k m i : Nat) (out : List Int), i + k = p.2.2.1.length → k < m → out.length + 302 * k ≤ 200000 →
    ref10PutDat.l9 fu k2 m out p.2.2.1.length i p = k2 (out ++ putTs (p.2.2.1.drop i)) := by
  intro k
  induction k with
  | zero =>
    intro m i out h1 h2 h3
    obtain ⟨m, rfl⟩ : ∃ j, m = j + 1 := ⟨m - 1, by omega⟩
    rw [List.drop_eq_nil_of_le (by omega)]
    unfold ref10PutDat.l9 ref10PutDat.b9
    rw [decide_eq_false (by omega), cond_false]
    simp [putTs]
  | succ k ih =>
    intro m i out h1 h2 h3
    obtain ⟨m, rfl⟩ : ∃ j, m = j + 1 := ⟨m - 1, by omega⟩
    have hi : i < p.2.2.1.length := by omega
    have e1 : IntKind.i64.wrap ((i : Int) + 1) = ((i + 1 : Nat) : Int) := wrap_i64 (by omega) (by omega)
    obtain ⟨q1, q2⟩ := hv _ (List.getElem_mem hi)
    have qm := right_may q2
    have hp := putV_len qm
    rw [drop_one hi]
    unfold ref10PutDat.l9 ref10PutDat.b9
    rw [decide_eq_true (by omega), cond_true, ixOkN hi, ixT hi]
    have e2 : apOk out [p.2.2.1[i].1, p.2.2.1[i].2.1] 1 = true := apOk1 (by simp; omega)
    simp only [e2, refVPutO_eq fu hfu (out ++ [p.2.2.1[i].1, p.2.2.1[i].2.1]) _ (by simp; omega) q1.2, chk, cond_true, Option.bind_some, e1, if_pos qm]
    rw [ih m (i + 1) _ (by omega) (by omega) (by simp; omega), putTs_cons]
    unfold putT
    simp
theorem predPut_eq (fu : Nat) (hfu : 20 ≤ fu) (b : List Int) (p : Pd) (hl : b.length ≤ 100000) (hp : pdOk p) : predPutDat fu b p = some (if mayP p = true then b ++ putP p else [], if mayP p = true then 0 else 1, ()) := by
  unfold predPutDat
  rw [predMay_eq fu (by omega) p (fun t ht => (hp.2 t ht).1)]
  simp only [Option.bind_some]
  cases hm : mayP p with
  | false => rfl
  | true =>
    obtain ⟨m1, m2⟩ := pd_all hm
    have key := fun out ho k2 => put10_rounds fu (by omega) k2 p.2.2.1 (fun t ht => ⟨hp.2 t ht, m2 t ht⟩) m1 p.2.2.1.length fu 0 out (by omega) (by omega) ho
    rw [clone_eq fu b (by omega)]
    have e0 : IntKind.i64.wrap (16 * (p.2.2.1.length : Int)) = 16 * p.2.2.1.length := wrap_i64 (by omega) (by omega)
    have e1 : IntKind.u8.wrap (16 * (p.2.2.1.length : Int)) = 16 * p.2.2.1.length := by rw [wrap_u8]; omega
    have e2 : IntKind.u8.wrap (16 * (p.2.2.1.length : Int) + 1) = 16 * p.2.2.1.length + 1 := by rw [wrap_u8]; omega
    have e3 : apOk b [16 * (p.2.2.1.length : Int) + 1] 1 = true := apOk1 (by simp; omega)
    have e4 : apOk b [16 * (p.2.2.1.length : Int), p.2.1] 1 = true := apOk1 (by simp; omega)
    simp only [Bool.not_true, cond_false, Option.bind_some, e0, e1, e2, e3, e4, chk, cond_true, if_true]
    unfold predPutDat.j8 putP headP
    cases hp1 : p.1 with
    | true =>
      simp only [cond_true, if_true]
      refine (key _ (by simp; omega) _).trans ?_
      simp
    | false =>
      simp only [cond_false]
      refine (key _ (by simp; omega) _).trans ?_
      simp
theorem refPPut_eq (fu : Nat) (hfu : 50 ≤ fu) (b : List Int) (p : Pd) (hl : b.length ≤ 100000) (hp : pdOk p) (hn : p.2.2.1.length ≤ 30) : ref10PutDat fu b p = some (if mayP p = true then b ++ putP p else [], if mayP p = true then 0 else 1, ()) := by
  unfold ref10PutDat
  rw [refMayP_eq fu hfu p (fun t ht => (hp.2 t ht).1) hn]
  simp only [Option.bind_some]
  cases hm : mayP p with
  | false => rfl
  | true =>
    obtain ⟨m1, m2⟩ := pd_all hm
    have key := fun out ho k2 => refPut10_rounds fu (by omega) k2 p (fun t ht => ⟨hp.2 t ht, m2 t ht⟩) m1 p.2.2.1.length fu 0 out (by omega) (by omega) ho
    have ea : apOk ([] : List Int) b 1 = true := apOk1 (by simp; omega)
    have e0 : IntKind.i64.wrap (16 * (p.2.2.1.length : Int)) = 16 * p.2.2.1.length := wrap_i64 (by omega) (by omega)
    have e5 : IntKind.i64.wrap (16 * (p.2.2.1.length : Int) + 1) = 16 * p.2.2.1.length + 1 := wrap_i64 (by omega) (by omega)
    have e1 : IntKind.u8.wrap (16 * (p.2.2.1.length : Int)) = 16 * p.2.2.1.length := by rw [wrap_u8]; omega
    have e2 : IntKind.u8.wrap (16 * (p.2.2.1.length : Int) + 1) = 16 * p.2.2.1.length + 1 := by rw [wrap_u8]; omega
    have e3 : apOk b [16 * (p.2.2.1.length : Int) + 1] 1 = true := apOk1 (by simp; omega)
    have e4 : apOk b [16 * (p.2.2.1.length : Int), p.2.1] 1 = true := apOk1 (by simp; omega)
    simp only [Bool.not_true, cond_false, ea, List.nil_append, e0, e5, e1, e2, e3, e4, chk, cond_true, if_true]
    unfold ref10PutDat.j8 putP headP
    cases hp1 : p.1 with
    | true =>
      simp only [cond_true, if_true]
      refine (key _ (by simp; omega) _).trans ?_
      simp
    | false =>
      simp only [cond_false]
      refine (key _ (by simp; omega) _).trans ?_
      simp
/-! ### Questions got -/
def cT (t : Te) : Te := (t.1, t.2.1, cv t.2.2.1, ())
theorem mayV_cv {v : Va} (h : mayV v = true) : mayV (cv v) = true := by
  have c0 : (canon 0).toNat = 0 := by decide
  unfold mayV at h ⊢
  simp only [Bool.and_eq_true, Bool.or_eq_true, decide_eq_true_eq] at h ⊢
  refine ⟨⟨⟨⟨h.1.1.1.1, h.1.1.1.2⟩, ?_⟩, h.1.2⟩, h.2⟩
  show (canon v.2.2.1).toNat = 0 ∨ v.1 = 2
  rcases h.1.1.2 with k | k
  · rw [k]; exact .inl c0
  · exact .inr k
theorem right_cT {t : Te} (h : rightT t = true) : rightT (cT t) = true := by
  have hm := mayV_cv (right_may h)
  unfold rightT at h ⊢
  rw [Bool.and_eq_true] at h ⊢
  exact ⟨hm, h.2⟩
theorem cT_fit {t : Te} (h : teOk t) : teFit (cT t) := by
  obtain ⟨⟨h1, h2, h3, h4⟩, h5⟩ := h
  have := canon_fits t.2.2.1.2.2.1 h5.2.2.1
  exact ⟨h1, h2, ⟨h3.1, by show (canon t.2.2.1.2.2.1).toNat < _; omega⟩, h4⟩
theorem putT_by {t : Te} (h : teOk t) (hm : mayV t.2.2.1 = true) : By (putT t) := by
  intro c hc
  rcases List.mem_cons.1 (show c ∈ t.1 :: t.2.1 :: putV t.2.2.1 from hc) with rfl | hc
  · exact h.1.1
  · rcases List.mem_cons.1 hc with rfl | hc
    · exact h.1.2.1
    · exact putV_by h.2 hm c hc
theorem putTs_by : ∀ (l : List Te), (∀ t ∈ l, teOk t ∧ rightT t = true) → By (putTs l) := by
  intro l
  induction l with
  | nil => intro _ c hc; simp [putTs] at hc
  | cons t l ih =>
    intro h
    rw [putTs_cons]
    obtain ⟨q1, q2⟩ := h t (List.mem_cons_self ..)
    exact by_app (putT_by q1 (right_may q2)) (ih fun w hw => h w (List.mem_cons_of_mem _ hw))
theorem putTs_len : ∀ (l : List Te), (∀ t ∈ l, rightT t = true) → (putTs l).length ≤ 302 * l.length := by
  intro l
  induction l with
  | nil => intro _; simp [putTs]
  | cons t l ih =>
    intro h
    rw [putTs_cons, List.length_append, List.length_cons]
    have := putT_len (right_may (h t (List.mem_cons_self ..)))
    have := ih fun w hw => h w (List.mem_cons_of_mem _ hw)
    omega
theorem get10_rounds (fu : Nat) (k1 : Int → Int → Bool → Int → List Te → Option (Pd × Int × Int × Unit)) (k2 : Int → Bool → Int → List Te → Bool → Int → List Te → Option (Pd × Int × Int × Unit)) (b : List Int) (hb : By b) (hlb : b.length ≤ 100000) (hfu : b.length < fu) (hfu2 : 1000 ≤ fu) (c0 c1 : Bool) (d0 d1 : Int) (x0 : List Te) (N : Nat) (hN : N ≤ 4) : ∀ (l : List Te) (m i : Nat) (a : List Int) (done : List Te), (∀ t ∈ l, teOk t ∧ rightT t = true) → i + l.length = N → l.length < m → b = a ++ putTs l → done.length + l.length ≤ 10 →
    predGet.l5 fu k1 k2 m b a.length N i c0 d0 x0 c1 d1 done = k2 ((a.length : Int) + (putTs l).length) c0 d0 x0 c1 d1 (done ++ l.map cT) := by
  intro l
  induction l with
  | nil =>
    intro m i a done hv h1 h2 h3 h4
    obtain ⟨m, rfl⟩ : ∃ j, m = j + 1 := ⟨m - 1, by omega⟩
    simp only [List.length_nil] at h1
    unfold predGet.l5 predGet.b5
    rw [decide_eq_false (by omega), cond_false]
    simp [putTs]
  | cons t l ih =>
    intro m i a done hv h1 h2 h3 h4
    obtain ⟨m, rfl⟩ : ∃ j, m = j + 1 := ⟨m - 1, by omega⟩
    simp only [List.length_cons] at h1 h2 h4
    obtain ⟨q1, q2⟩ := hv t (List.mem_cons_self ..)
    have qm := right_may q2
    have hlen : b.length = a.length + (2 + (putV t.2.2.1).length) + (putTs l).length := by
      rw [h3, putTs_cons]; simp [putT]; omega
    have hb2 : b = (a ++ [t.1, t.2.1]) ++ putV t.2.2.1 ++ putTs l := by rw [h3, putTs_cons]; simp [putT]
    have e1 : IntKind.i64.wrap ((i : Int) + 1) = ((i + 1 : Nat) : Int) := wrap_i64 (by omega) (by omega)
    have e2 : IntKind.i64.wrap ((b.length : Int) - 2) = (b.length : Int) - 2 := wrap_i64 (by omega) (by omega)
    have e3 : IntKind.i64.wrap ((a.length : Int) + 2) = ((a ++ [t.1, t.2.1]).length : Int) := by rw [wrap_i64 (by omega) (by omega)]; simp
    have e4 : IntKind.i64.wrap ((a.length : Int) + 1) = ((a.length + 1 : Nat) : Int) := wrap_i64 (by omega) (by omega)
    have hv1 := val_put (a ++ [t.1, t.2.1]) (putTs l) t.2.2.1 q1.2 qm
    rw [← hb2] at hv1
    have i0 : ixL (0 : Int) b a.length = t.1 := by rw [hb2]; unfold ixL; simp
    have i1 : ixL (0 : Int) b ((a.length + 1 : Nat) : Int) = t.2.1 := by
      rw [hb2]; unfold ixL
      rw [Int.toNat_natCast]
      simp
    have k0 : ixOk b (a.length : Int) = true := ixOkN (by omega)
    have k1' : ixOk b ((a.length + 1 : Nat) : Int) = true := ixOkN (by omega)
    have e5 : apOk done [cT t] 48 = true := apOk48 (by simp; omega)
    have hct : ((t.1, t.2.1, cv t.2.2.1, ()) : Te) = cT t := rfl
    unfold predGet.l5 predGet.b5
    rw [decide_eq_true (show ((i : Int) < (N : Int)) by omega), cond_true]
    simp only [e2, decide_eq_false (show ¬ (a.length : Int) > (b.length : Int) - 2 by omega), cond_false, e3, valueGet_eq fu b hb hlb hfu (by omega), hv1, Option.bind_some, bne_self_eq_false, cond_false, k0, chk, cond_true, i0, e4, k1', i1, hct, predRight_eq fu _ (cT_fit q1), right_cT q2, Bool.not_true, e5, e1]
    have := ih m (i + 1) (a ++ [t.1, t.2.1] ++ putV t.2.2.1) (done ++ [cT t]) (fun w hw => hv w (List.mem_cons_of_mem _ hw)) (by omega) (by omega) hb2 (by simp; omega)
    rw [show (((a ++ [t.1, t.2.1]).length : Int) + ((putV t.2.2.1).length : Int)) = ((a ++ [t.1, t.2.1] ++ putV t.2.2.1).length : Int) by have := @List.length_append _ (a ++ [t.1, t.2.1]) (putV t.2.2.1); omega]
    rw [this, putTs_cons]
    simp only [List.append_assoc, List.singleton_append, List.map_cons]
    congr 1
    simp [putT]
    omega
theorem head_eq (fu : Nat) (b : List Int) (p : Pd) (hl : b.length ≤ 90000) (hm : mayP p = true) (r : List Int) : predHead fu (b ++ (headP p ++ r)) b.length = some ((p.1, (if p.1 = true then 0 else p.2.1), (), ()), (p.2.2.1.length : Int), (b.length : Int) + (headP p).length, 0, ()) := by
  obtain ⟨m1, -⟩ := pd_all hm
  have hh : 1 ≤ (headP p).length := by unfold headP; split <;> simp
  have w1 : IntKind.i64.wrap ((b.length : Int) + 1) = ((b.length + 1 : Nat) : Int) := by rw [wrap_i64 (by omega) (by omega)]; omega
  have w2 : IntKind.i64.wrap ((b.length : Int) + 2) = ((b.length + 2 : Nat) : Int) := by rw [wrap_i64 (by omega) (by omega)]; omega
  unfold predHead
  have k0 : ixOk (b ++ (headP p ++ r)) (b.length : Int) = true := ixOkN (by simp; omega)
  rw [decide_eq_false (show ¬ (b.length : Int) < 0 by omega), cond_false]
  simp only [decide_eq_false (show ¬ (b.length : Int) ≥ ((b ++ (headP p ++ r)).length : Int) by simp; omega), cond_false, k0, chk, cond_true]
  have hn : p.2.2.1.length = 0 ∨ p.2.2.1.length = 1 ∨ p.2.2.1.length = 2 ∨ p.2.2.1.length = 3 ∨ p.2.2.1.length = 4 := by omega
  cases hp : p.1 with
  | true =>
    have hx : headP p = [16 * (p.2.2.1.length : Int) + 1] := by unfold headP; rw [hp]; rfl
    have i0 : ixL (0 : Int) (b ++ (headP p ++ r)) b.length = 16 * (p.2.2.1.length : Int) + 1 := by rw [hx]; unfold ixL; simp
    rw [i0, hx]
    rw [w1]
    rcases hn with h | h | h | h | h <;> rw [h] <;> rfl
  | false =>
    have hx : headP p = [16 * (p.2.2.1.length : Int), p.2.1] := by unfold headP; rw [hp]; rfl
    have i0 : ixL (0 : Int) (b ++ (headP p ++ r)) b.length = 16 * (p.2.2.1.length : Int) := by rw [hx]; unfold ixL; simp
    have i1 : ixL (0 : Int) (b ++ (headP p ++ r)) ((b.length + 1 : Nat) : Int) = p.2.1 := by
      rw [hx]; unfold ixL
      rw [Int.toNat_natCast]
      simp
    have hlen : ((b ++ (headP p ++ r)).length) = b.length + 2 + r.length := by rw [hx]; simp; omega
    have k1 : ixOk (b ++ (headP p ++ r)) ((b.length + 1 : Nat) : Int) = true := ixOkN (by omega)
    have d1 : decide (((b.length + 1 : Nat) : Int) ≥ ((b ++ (headP p ++ r)).length : Int)) = false := decide_eq_false (by omega)
    rw [i0, w1, d1, k1, i1, w2, hx]
    rcases hn with h | h | h | h | h <;> rw [h] <;> rfl
def cP (p : Pd) : Pd := (p.1, (if p.1 = true then 0 else p.2.1), p.2.2.1.map cT, ())
theorem putP_len {p : Pd} (hm : mayP p = true) : (putP p).length ≤ 1300 := by
  obtain ⟨m1, m2⟩ := pd_all hm
  have := putTs_len p.2.2.1 m2
  unfold putP headP
  rw [List.length_append]
  split <;> simp <;> omega
theorem putP_by {p : Pd} (hp : pdOk p) (hm : mayP p = true) : By (putP p) := by
  obtain ⟨m1, m2⟩ := pd_all hm
  refine by_app ?_ (putTs_by _ fun t ht => ⟨hp.2 t ht, m2 t ht⟩)
  unfold headP
  split
  · intro c hc
    obtain rfl := List.mem_singleton.1 hc
    omega
  · intro c hc
    rcases List.mem_cons.1 hc with rfl | hc
    · omega
    · obtain rfl := List.mem_singleton.1 hc
      exact hp.1
theorem predGet_eq (fu : Nat) (b : List Int) (hb : By b) (p : Pd) (hl : b.length ≤ 90000) (hfu : b.length + 2000 < fu) (hp : pdOk p) (hm : mayP p = true) : predGet fu (b ++ putP p) b.length = some (cP p, (((b ++ putP p).length : Nat) : Int), 0, ()) := by
  obtain ⟨m1, m2⟩ := pd_all hm
  have hlen := putP_len hm
  have hby := putP_by hp hm
  unfold predGet
  rw [show b ++ putP p = b ++ (headP p ++ putTs p.2.2.1) from rfl, head_eq fu b p hl hm]
  simp only [Option.bind_some, bne_self_eq_false, cond_false]
  have key := get10_rounds fu (fun vq3 vq3x2 c0q3 c0q3x2 c0q3x3 => 
        some ((c0q3, c0q3x2, c0q3x3, ()), vq3, vq3x2, ())) (fun atvq4 c0q4 c0q4x2 c0q4x3 c1q4 c1q4x2 c1q4x3 => 
        some ((c1q4, c1q4x2, c1q4x3, ()), atvq4, (0 : Int), ())) (b ++ putP p) (by_app hb hby) (by simp; omega) (by simp; omega) (by omega) false p.1 0 (if p.1 = true then 0 else p.2.1) [] p.2.2.1.length m1 p.2.2.1 fu 0 (b ++ headP p) [] (fun t ht => ⟨hp.2 t ht, m2 t ht⟩) (by omega) (by omega) (by unfold putP; simp) (by simp; omega)
  rw [show (((b ++ headP p).length : Nat) : Int) = (b.length : Int) + (headP p).length by simp] at key
  refine key.trans ?_
  unfold cP
  rw [List.nil_append, show (((b ++ (headP p ++ putTs p.2.2.1)).length : Nat) : Int) = (b.length : Int) + (headP p).length + (putTs p.2.2.1).length by rw [List.length_append, List.length_append]; omega]
theorem allT_cT : ∀ l : List Te, allT (l.map cT) l = true := by
  intro l
  induction l with
  | nil => rfl
  | cons t l ih =>
    show (sameT (cT t) t && allT (l.map cT) l) = true
    rw [ih, Bool.and_true]
    unfold sameT
    rw [show same4 (cT t).2.2.1 t.2.2.1 = true from cv_same t.2.2.1]
    simp [cT]
theorem pd_ok {x : Bool × Int × List RT × Unit} (h : kS5.ok x) : pdOk (rawP x) := by
  obtain ⟨-, h1, h2, -⟩ := h
  have h1 : 0 ≤ x.2.1 ∧ x.2.1 < 256 := u8Of h1
  refine ⟨⟨h1.1, by show x.2.1 ≤ 255; omega⟩, fun v hv => ?_⟩
  obtain ⟨w, hw, rfl⟩ := List.mem_map.1 hv
  obtain ⟨k1, k2, k3, -⟩ := h2.2 w (List.mem_of_mem_take hw)
  have k1 : 0 ≤ w.1 ∧ w.1 < 256 := u8Of k1
  have k2 : 0 ≤ w.2.1 ∧ w.2.1 < 256 := u8Of k2
  obtain ⟨v1, v2, v3, v4, -⟩ := k3
  have v1 : 0 ≤ w.2.2.1.1 ∧ w.2.2.1.1 < 256 := u8Of v1
  have v2 := i64Of v2
  have v3 : 0 ≤ w.2.2.1.2.2.1 ∧ w.2.2.1.2.2.1 < 18446744073709551616 := u64Of v3
  have f : F64 (rawV w.2.2.1).2.2.1 := by show w.2.2.1.2.2.1.toNat < _; omega
  exact ⟨⟨⟨k1.1, by show w.1 ≤ 255; omega⟩, ⟨k2.1, by show w.2.1 ≤ 255; omega⟩, ⟨⟨v2.1, by show w.2.2.1.2.1 ≤ _; omega⟩, f⟩, v1.1⟩, ⟨v1.1, by show w.2.2.1.1 ≤ 255; omega⟩, v2, f, fun c hc => v4.2 c hc⟩
/-- THE LAW. -/
theorem lawPredPuts (b : List Int) (x : Bool × Int × List RT × Unit) (h : okAll law10PredPuts.con.ps (b, x, ())) : law10PredPuts (x.2.2.1.length + 8000) b x = some (true, ()) := by
  have hb : By b := byOf h.1
  obtain ⟨hx1, hx2, hx3⟩ := rawP_ok h.2.1
  have hp := pd_ok h.2.1
  have hf := fixed10 (x.2.2.1.length + 7900)
  rw [show x.2.2.1.length + 7900 + 100 = x.2.2.1.length + 8000 by omega] at hf
  generalize hfu : x.2.2.1.length + 8000 = fu at hf
  unfold law10PredPuts
  obtain ⟨g, hg⟩ := great10_eq fu (by omega) (rawP x)
  rw [rawP_eq fu x hx3 (by omega)]
  simp only [Option.bind_some, hg, hf]
  cases g with
  | true => rfl
  | false =>
    by_cases hl : (b.length : Int) > 2000
    · simp only [decide_eq_true hl, cond_true, cond_false]
    · generalize rawP x = p at hp hx1 hx2
      have ea : apOk ([] : List Int) b 1 = true := apOk1 (by simp; omega)
      simp only [decide_eq_false hl, cond_false, ea, chk, cond_true, List.nil_append]
      rw [predPut_eq fu (by omega) b p (by omega) hp, refPPut_eq fu (by omega) b p (by omega) hp (Nat.le_trans hx2 (by decide))]
      simp only [Option.bind_some, Bool.not_true, bne_self_eq_false, cond_false]
      cases hm : mayP p with
      | false => rfl
      | true =>
        have b1 : ((0 : Int) == 0) = true := rfl
        have b2 : ((0 : Int) != 0) = false := rfl
        have e2 : ∀ n : Int, (n == n) = true := fun n => beq_self_eq_true n
        simp only [if_true, b2, cond_false]
        rw [predGet_eq fu b hb p (by omega) (by omega) hp hm]
        simp only [Option.bind_some, b1, cond_true, e2]
        have hsame : ref10Same fu (cP p) p = some (true, ()) := by
          have q1 : okT p.2.2.1 := fun t ht => (hp.2 t ht).2.2.2.1
          have q2 : okT (cP p).2.2.1 := fun t ht => by
            obtain ⟨u, hu, rfl⟩ := List.mem_map.1 (show t ∈ p.2.2.1.map cT from ht)
            exact (cT_fit (hp.2 u hu)).2.2.1.2
          rw [refSameP_eq fu (cP p) p (by simp [cP]; omega) (by simp [cP]; omega) q2 q1]
          unfold sameP
          rw [show allT (cP p).2.2.1 p.2.2.1 = true from allT_cT p.2.2.1, decide_eq_true (show (cP p).2.2.1.length = p.2.2.1.length by simp [cP])]
          unfold mayP at hm
          simp only [cP]
          by_cases hp1 : p.1 = true
          · rw [hp1] at hm
            by_cases h0 : p.2.1 = 0
            · simp [h0, hp1]
            · simp [h0] at hm
          · simp [hp1]
        rw [hsame]
        rfl

end Go.Shal.Pr
