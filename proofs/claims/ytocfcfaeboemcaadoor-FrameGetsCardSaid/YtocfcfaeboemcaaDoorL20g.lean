/- The plain laws of frames got. By an AI agent. -/
import Derived.Test.YtocfcfaeboemcaaDoorGen20g
set_option linter.unusedVariables false
namespace Go.Shal.Pr
open Go Go.Shal Go.Proofs

theorem wrap_u64 {x : Int} (h0 : 0 ≤ x) (h1 : x < 18446744073709551616) : IntKind.u64.wrap x = x := by
  simp only [IntKind.wrap, IntKind.signed, IntKind.bits]
  simp
  omega
theorem wrap_i64 {x : Int} (h0 : -9223372036854775808 ≤ x) (h1 : x < 9223372036854775808) : IntKind.i64.wrap x = x := by
  simp only [IntKind.wrap, IntKind.signed, IntKind.bits]
  simp
  omega
theorem wrap_u8 (x : Int) : IntKind.u8.wrap x = x % 256 := by
  simp only [IntKind.wrap, IntKind.signed, IntKind.bits]
  simp
theorem max2_eq (x y : Int) : max2 x y = max x y := by unfold max2; split <;> omega
def By (l : List Int) : Prop := ∀ b ∈ l, (0 : Int) ≤ b ∧ b ≤ 255
theorem by_tail {c : Int} {l : List Int} (h : By (c :: l)) : By l := fun b hb => h b (List.mem_cons_of_mem _ hb)
theorem by_cut {l : List Int} (h : By l) (a e : Int) : By (cutL l a e) := fun b hb => h b (List.mem_of_mem_drop (List.mem_of_mem_take hb))
theorem or_add (n a : Nat) (k : Nat) (h : n < 2 ^ k) (ht : n + a * 2 ^ k < 18446744073709551616) : bOr .u64 (n : Int) ((a * 2 ^ k : Nat) : Int) = (n + a * 2 ^ k : Nat) := by
  show IntKind.u64.wrap (((BitVec.ofInt 64 (n : Int) ||| BitVec.ofInt 64 ((a * 2 ^ k : Nat) : Int)).toNat : Nat) : Int) = _
  rw [BitVec.ofInt_natCast, BitVec.ofInt_natCast]
  have h1 : n < 2 ^ 64 := by omega
  have h2 : a * 2 ^ k < 2 ^ 64 := by omega
  rw [BitVec.toNat_or, BitVec.toNat_ofNat, BitVec.toNat_ofNat, Nat.mod_eq_of_lt h1, Nat.mod_eq_of_lt h2, Nat.or_comm, Nat.mul_comm a, ← Nat.two_pow_add_eq_or_of_lt h]
  rw [Nat.mul_comm a] at ht
  rw [wrap_u64 (by omega) (by omega)]
  omega
theorem shl_eq (x : Int) (k : Nat) (hk : k < 64) (h0 : 0 ≤ x) (h : x * 2 ^ k < 18446744073709551616) : sShl .u64 x (k : Int) = x * 2 ^ k := by
  unfold sShl
  have e : min (k : Int).toNat IntKind.u64.bits = k := by simp only [IntKind.bits]; omega
  rw [e]
  exact wrap_u64 (Int.mul_nonneg h0 (by exact_mod_cast Nat.zero_le _)) h
theorem shr_eq (x : Int) (k : Nat) (hk : k < 64) : sShr .u64 x (k : Int) = x / 2 ^ k := by
  unfold sShr
  have e : min (k : Int).toNat IntKind.u64.bits = k := by simp only [IntKind.bits]; omega
  rw [e, Int.fdiv_eq_ediv_of_nonneg]
  exact_mod_cast Nat.zero_le _
theorem byte_or (c : Int) (h0 : 0 ≤ c) (h : c ≤ 255) : bOr .u8 c 128 = c % 128 + 128 := by
  have key : ∀ m : Fin 256, bOr .u8 (m.val : Int) 128 = (m.val : Int) % 128 + 128 := by decide +kernel
  have := key ⟨c.toNat, by omega⟩
  simp only at this
  rw [show (c.toNat : Int) = c by omega] at this
  exact this
theorem byte_and (c : Int) (h0 : 0 ≤ c) (h : c ≤ 255) : bAnd .u8 c 127 = c % 128 := by
  have key : ∀ m : Fin 256, bAnd .u8 (m.val : Int) 127 = (m.val : Int) % 128 := by decide +kernel
  have := key ⟨c.toNat, by omega⟩
  simp only at this
  rw [show (c.toNat : Int) = c by omega] at this
  exact this
def get1 : List Int → Nat → Int → Int × Int × Int
  | [], _, _ => (0, 0, 3)
  | c :: r, i, n => if i = 9 ∧ c > 1 then (0, 0, 4) else if c ≥ 128 then get1 r (i + 1) (n + (c - 128) * 128 ^ i) else if c = 0 ∧ i > 0 then (0, 0, 2) else (n + c * 128 ^ i, (i : Int) + 1, 0)
def from1 (at' : Int) (q : Int × Int × Int) : Int × Int × Int := (q.1, if q.2.2 = 0 then at' + q.2.1 else 0, q.2.2)
def got (b : List Int) (at' : Int) : Int × Int × Int := if at' < 0 ∨ at' > b.length then (0, 0, 3) else from1 at' (get1 (b.drop at'.toNat) 0 0)
theorem pow128 (i : Nat) : (128 : Int) ^ i = ((2 ^ (7 * i) : Nat) : Int) := by
  rw [Nat.pow_mul]; norm_cast
theorem pow128_9 {i : Nat} (h : i ≤ 9) : (1 : Int) ≤ 128 ^ i ∧ (128 : Int) ^ i ≤ 9223372036854775808 := by
  have h1 : 128 ^ i ≤ 128 ^ 9 := Nat.pow_le_pow_right (by omega) h
  have h0 : 0 < 128 ^ i := Nat.pow_pos (by omega)
  have e : (128 : Int) ^ i = ((128 ^ i : Nat) : Int) := by norm_cast
  rw [e]
  have : (128 : Nat) ^ 9 = 9223372036854775808 := by decide
  omega
theorem ixL_get {l : List Int} {i : Nat} (h : i < l.length) : ixL (0 : Int) l i = l[i] := by
  unfold ixL
  simp [List.getElem?_eq_getElem h]
def fin1 (k1 : Int → Int → Int → Option (Int × Int × Int × Unit)) (k2 : Unit → Option (Int × Int × Int × Unit)) (at' : Int) (q : Int × Int × Int) : Option (Int × Int × Int × Unit) :=
  if q.2.2 = 0 then k1 q.1 (at' + q.2.1) 0 else if q.2.2 = 3 then k2 () else k1 0 0 q.2.2
theorem get_rounds (fu : Nat) k1 k2 (at' : Int) (b : List Int) (hb : By b) (ha : 0 ≤ at' ∧ at' ≤ 100000) (hl : b.length ≤ 100000) : ∀ (m i : Nat) (n : Int), i ≤ b.length → b.length < i + m → 0 ≤ n → n < 128 ^ i →
    i ≤ 9 → packGet.l5 fu k1 k2 m at' n b b.length i = fin1 k1 k2 at' (get1 (b.drop i) i n) := by
  intro m
  induction m with
  | zero => intro i n h1 h2; omega
  | succ m ih =>
    intro i n h1 h2 hn0 hn hi9
    unfold packGet.l5 packGet.b5
    by_cases hil : i < b.length
    · have hil' : (i : Int) < b.length := by omega
      have hix : ixOk b i = true := by simp [ixOk, hil]
      have e1 : IntKind.i64.wrap ((i : Int) + 1) = (i + 1 : Nat) := wrap_i64 (by omega) (by omega)
      rw [List.drop_eq_getElem_cons hil]
      have hc := hb _ (List.getElem_mem hil)
      simp only [hil', decide_true, cond_true, chk, hix, ixL_get hil]
      generalize b[i] = c at hc
      have hp := pow128_9 hi9
      have hle : ∀ q : Int, 0 ≤ q → q ≤ 127 → (i = 9 → q ≤ 1) → q * 128 ^ i + n < 18446744073709551616 := fun q h0 h1 h9 => by
        rcases Nat.lt_or_ge i 9 with h | h
        · have h8 : (128 : Int) ^ i ≤ 72057594037927936 := by
            have h1 : 128 ^ i ≤ 128 ^ 8 := Nat.pow_le_pow_right (by omega) (by omega)
            have e : (128 : Int) ^ i = ((128 ^ i : Nat) : Int) := by norm_cast
            rw [e]
            have : (128 : Nat) ^ 8 = 72057594037927936 := by decide
            omega
          have : q * 128 ^ i ≤ 127 * 72057594037927936 := Int.mul_le_mul h1 h8 (by omega) (by omega)
          omega
        · have : i = 9 := by omega
          subst this
          have := h9 rfl
          have : q * 128 ^ 9 ≤ 1 * 9223372036854775808 := Int.mul_le_mul this (by decide) (by decide) (by omega)
          omega
      have j9 : ∀ (c : Int), 0 ≤ c → c ≤ 255 → (i = 9 → c ≤ 1) → ∀ K0 K1, packGet.j9 fu K0 K1 at' n i c b b.length i = (if c ≥ 128 then K0 at' (n + (c - 128) * 128 ^ i) b b.length i else if c = 0 ∧ i > 0 then K1 0 0 2 else K1 (n + c * 128 ^ i) (at' + ((i : Int) + 1)) 0) := by
        intro c hc0 hc1 h9 K0 K1
        unfold packGet.j9 packGet.j50013
        have e2 : IntKind.u64.wrap (bAnd .u8 c 127) = c % 128 := by rw [byte_and c hc0 hc1]; exact wrap_u64 (by omega) (by omega)
        have e3 : IntKind.i64.wrap ((7 : Int) * i) = (7 * i : Nat) := by rw [wrap_i64 (by omega) (by omega)]; omega
        have hq := hle (c % 128) (by omega) (by omega) (fun h => by have := h9 h; omega)
        have hnn : 0 ≤ (c % 128) * 128 ^ i := Int.mul_nonneg (by omega) (by omega)
        have e4 : sShl .u64 (c % 128) ((7 * i : Nat) : Int) = (c % 128) * 128 ^ i := by
          have hpp : (2 : Int) ^ (7 * i) = 128 ^ i := by rw [pow128]; norm_cast
          rw [shl_eq _ (7 * i) (by omega) (by omega) (by rw [hpp]; omega), hpp]
        have e5 : bOr .u64 n ((c % 128) * 128 ^ i) = n + (c % 128) * 128 ^ i := by
          obtain ⟨N, rfl⟩ := Int.eq_ofNat_of_zero_le hn0
          obtain ⟨a, ha⟩ := Int.eq_ofNat_of_zero_le (show 0 ≤ c % 128 by omega)
          rw [ha, pow128] at hq ⊢
          rw [pow128] at hn
          have hq' : N + a * 2 ^ (7 * i) < 18446744073709551616 := by
            have : ((N + a * 2 ^ (7 * i) : Nat) : Int) < 18446744073709551616 := by rw [Int.natCast_add, Int.natCast_mul]; omega
            omega
          have := or_add N a (7 * i) (by omega) hq'
          rw [Int.natCast_add, Int.natCast_mul] at this
          exact this
        have hneg : (decide (((7 * i : Nat) : Int) < 0)) = false := decide_eq_false (by omega)
        have e6 : IntKind.i64.wrap (at' + i) = at' + i := wrap_i64 (by omega) (by omega)
        have e7 : IntKind.i64.wrap (at' + i + 1) = at' + ((i : Int) + 1) := by rw [wrap_i64 (by omega) (by omega)]; omega
        simp only [e2, e3, e4, e5, hneg, chk, Bool.not_false, cond_true, e6, e7]
        by_cases h128 : c ≥ 128
        · have : c % 128 = c - 128 := by omega
          simp only [h128, decide_true, cond_true, this, if_true]
        · have : c % 128 = c := by omega
          simp only [h128, decide_false, cond_false, this, if_false]
          by_cases h0 : c = 0
          · subst h0
            by_cases hi0 : i > 0
            · simp [hi0]
            · simp [hi0]
          · have h0' : (c == 0) = false := beq_false_of_ne h0
            simp [h0, h0']
      unfold get1
      by_cases h9 : i = 9 ∧ c > 1
      · have h9' : ((i : Int) == 9) = true := by rw [h9.1]; rfl
        have h1' : decide (c > 1) = true := decide_eq_true h9.2
        simp [h9', h1', if_pos h9, fin1]
      · have hside : i = 9 → c ≤ 1 := fun h => by
          by_cases hx : c > 1
          · exact absurd ⟨h, hx⟩ h9
          · omega
        rw [if_neg h9]
        have both : ∀ X Y : Option (Int × Int × Int × Unit), (cond ((i : Int) == 9) (cond (decide (c > 1)) X Y) Y) = Y := fun X Y => by
          cases hx : ((i : Int) == 9) with
          | false => rfl
          | true =>
            have : c ≤ 1 := hside (by have := eq_of_beq hx; omega)
            have hd : decide (c > 1) = false := decide_eq_false (by omega)
            simp only [cond_true, hd, cond_false]
        rw [j9 c hc.1 hc.2 hside, both]
        by_cases h128 : c ≥ 128
        · have hi8 : i ≤ 8 := by
            rcases Nat.lt_or_ge i 9 with h | h
            · omega
            · have := hside (by omega); omega
          rw [if_pos h128, if_pos h128]
          simp only [e1]
          have hq : (c - 128) * 128 ^ i + n < 128 ^ (i + 1) := by
            rw [Int.pow_succ]
            have : (c - 128) * 128 ^ i ≤ 127 * 128 ^ i := Int.mul_le_mul_of_nonneg_right (by omega) (by omega)
            omega
          exact ih (i + 1) _ (by omega) (by omega) (by have : 0 ≤ (c - 128) * 128 ^ i := Int.mul_nonneg (by omega) (by omega); omega) (by omega) (by omega)
        · rw [if_neg h128, if_neg h128]
          by_cases h0 : c = 0 ∧ i > 0
          · rw [if_pos h0, if_pos h0]; simp [fin1]
          · rw [if_neg h0, if_neg h0]; simp [fin1]
    · have hx : ¬ (i : Int) < b.length := by omega
      rw [List.drop_of_length_le (by omega)]
      simp [hx, get1, fin1]
theorem get1_err : ∀ (l : List Int) (i : Nat) (n : Int), (get1 l i n).2.2 ≠ 0 → (get1 l i n).1 = 0 ∧ (get1 l i n).2.1 = 0 := by
  intro l
  induction l with
  | nil => intro i n _; exact ⟨rfl, rfl⟩
  | cons c r ih =>
    intro i n
    unfold get1
    split
    · intro _; exact ⟨rfl, rfl⟩
    · split
      · exact ih _ _
      · split
        · intro _; exact ⟨rfl, rfl⟩
        · intro h; exact absurd rfl h
theorem packGet_eq (fu : Nat) (b : List Int) (hb : By b) (hl : b.length ≤ 100000) (hfu : b.length < fu) (at' : Int) : packGet fu b at' = some ((got b at').1, (got b at').2.1, (got b at').2.2, ()) := by
  unfold packGet got
  by_cases h1 : at' < 0
  · simp [h1]
  · by_cases h2 : at' > b.length
    · simp [h1, h2]
    · have hcut : cutOk b at' b.length = true := by simp [cutOk]; omega
      have e : cutL b at' b.length = b.drop at'.toNat := by
        unfold cutL
        rw [List.take_of_length_le]
        rw [List.length_drop]; omega
      have hd : By (b.drop at'.toNat) := fun x hx => hb x (List.mem_of_mem_drop hx)
      have hdl : (b.drop at'.toNat).length ≤ b.length := by rw [List.length_drop]; omega
      have hn : ¬ (at' < 0 ∨ at' > b.length) := by omega
      simp only [h1, h2, or_self, if_false, decide_false, cond_false, hcut, chk, cond_true, e]
      have := get_rounds fu (fun a c d => some (a, c, d, ())) (fun _ => some (0, 0, 3, ())) at' (b.drop at'.toNat) hd (by omega) (by omega) fu 0 0 (by omega) (by omega) (by omega) (by simp) (by omega)
      refine this.trans ?_
      rw [List.drop_zero]
      generalize hq : get1 (b.drop at'.toNat) 0 0 = q
      unfold fin1 from1
      by_cases h0 : q.2.2 = 0
      · simp [h0]
      · by_cases h3 : q.2.2 = 3
        · have hz := get1_err (b.drop at'.toNat) 0 0
          rw [hq] at hz
          simp [h3, hz h0]
        · have hz := get1_err (b.drop at'.toNat) 0 0
          rw [hq] at hz
          simp [h0, h3, hz h0]
def putN : Nat → Int → List Int
  | 0, n => [n]
  | k + 1, n => if n ≥ 128 then (n % 128 + 128) :: putN k (n / 128) else [n]
theorem putN_len : ∀ (k : Nat) (n : Int), (putN k n).length ≤ k + 1 ∧ 0 < (putN k n).length
  | 0, n => by simp [putN]
  | k + 1, n => by
    unfold putN
    split
    · have := putN_len k (n / 128)
      simp only [List.length_cons]
      omega
    · simp
theorem apOk1 {xs ys : List Int} (h : xs.length + ys.length ≤ 1000000) : apOk xs ys 1 = true := by
  unfold apOk
  exact decide_eq_true (Nat.le_trans (Nat.mul_le_mul_right 1 h) (by decide))
def tab8 : List Int := ([0, 1, 2, 2, 3, 3, 3, 3, 4, 4, 4, 4, 4, 4, 4, 4, 5, 5, 5, 5, 5, 5, 5, 5, 5, 5, 5, 5, 5, 5, 5, 5, 6, 6, 6, 6, 6, 6, 6, 6, 6, 6, 6, 6, 6, 6, 6, 6, 6, 6, 6, 6, 6, 6, 6, 6, 6, 6, 6, 6, 6, 6, 6, 6, 7, 7, 7, 7, 7, 7, 7, 7, 7, 7, 7, 7, 7, 7, 7, 7, 7, 7, 7, 7, 7, 7, 7, 7, 7, 7, 7, 7, 7, 7, 7, 7, 7, 7, 7, 7, 7, 7, 7, 7, 7, 7, 7, 7, 7, 7, 7, 7, 7, 7, 7, 7, 7, 7, 7, 7, 7, 7, 7, 7, 7, 7, 7, 7, 8, 8, 8, 8, 8, 8, 8, 8, 8, 8, 8, 8, 8, 8, 8, 8, 8, 8, 8, 8, 8, 8, 8, 8, 8, 8, 8, 8, 8, 8, 8, 8, 8, 8, 8, 8, 8, 8, 8, 8, 8, 8, 8, 8, 8, 8, 8, 8, 8, 8, 8, 8, 8, 8, 8, 8, 8, 8, 8, 8, 8, 8, 8, 8, 8, 8, 8, 8, 8, 8, 8, 8, 8, 8, 8, 8, 8, 8, 8, 8, 8, 8, 8, 8, 8, 8, 8, 8, 8, 8, 8, 8, 8, 8, 8, 8, 8, 8, 8, 8, 8, 8, 8, 8, 8, 8, 8, 8, 8, 8, 8, 8, 8, 8, 8, 8, 8, 8, 8, 8, 8, 8, 8, 8, 8, 8, 8, 8] : List Int)
theorem tab8_ok (x : Int) (h0 : 0 ≤ x) (h1 : x < 256) : ixOk tab8 x = true ∧ 0 ≤ ixL 0 tab8 x ∧ ixL 0 tab8 x ≤ 8 := by
  have key : ∀ m : Fin 256, ixOk tab8 (m.val : Int) = true ∧ 0 ≤ ixL 0 tab8 (m.val : Int) ∧ ixL 0 tab8 (m.val : Int) ≤ 8 := by decide +kernel
  have := key ⟨x.toNat, by omega⟩
  simp only at this
  rw [show (x.toNat : Int) = x by omega] at this
  exact this
theorem len_j7 (fu : Nat) k1 (x n : Int) (h0 : 0 ≤ x) (h1 : x < 65536) (hn : 0 ≤ n) (hn1 : n ≤ 100) : ∃ r, bitsLen64.j7 fu k1 x n = k1 r ∧ 0 ≤ r ∧ r ≤ n + 16 := by
  unfold bitsLen64.j7
  rw [show ([0, 1, 2, 2, 3, 3, 3, 3, 4, 4, 4, 4, 4, 4, 4, 4, 5, 5, 5, 5, 5, 5, 5, 5, 5, 5, 5, 5, 5, 5, 5, 5, 6, 6, 6, 6, 6, 6, 6, 6, 6, 6, 6, 6, 6, 6, 6, 6, 6, 6, 6, 6, 6, 6, 6, 6, 6, 6, 6, 6, 6, 6, 6, 6, 7, 7, 7, 7, 7, 7, 7, 7, 7, 7, 7, 7, 7, 7, 7, 7, 7, 7, 7, 7, 7, 7, 7, 7, 7, 7, 7, 7, 7, 7, 7, 7, 7, 7, 7, 7, 7, 7, 7, 7, 7, 7, 7, 7, 7, 7, 7, 7, 7, 7, 7, 7, 7, 7, 7, 7, 7, 7, 7, 7, 7, 7, 7, 7, 8, 8, 8, 8, 8, 8, 8, 8, 8, 8, 8, 8, 8, 8, 8, 8, 8, 8, 8, 8, 8, 8, 8, 8, 8, 8, 8, 8, 8, 8, 8, 8, 8, 8, 8, 8, 8, 8, 8, 8, 8, 8, 8, 8, 8, 8, 8, 8, 8, 8, 8, 8, 8, 8, 8, 8, 8, 8, 8, 8, 8, 8, 8, 8, 8, 8, 8, 8, 8, 8, 8, 8, 8, 8, 8, 8, 8, 8, 8, 8, 8, 8, 8, 8, 8, 8, 8, 8, 8, 8, 8, 8, 8, 8, 8, 8, 8, 8, 8, 8, 8, 8, 8, 8, 8, 8, 8, 8, 8, 8, 8, 8, 8, 8, 8, 8, 8, 8, 8, 8, 8, 8, 8, 8, 8, 8, 8, 8] : List Int) = tab8 from rfl]
  have fits : ∀ y : Int, 0 ≤ y → y ≤ 1000 → IntKind.i64.wrap y = y := fun y a b => wrap_i64 (by omega) (by omega)
  by_cases h : x ≥ 256
  · have e1 : sShr .u64 x 8 = x / 256 := by have := shr_eq x 8 (by omega); simpa using this
    have e2 : IntKind.u8.wrap (x / 256) = x / 256 := by rw [wrap_u8]; omega
    obtain ⟨q1, q2, q3⟩ := tab8_ok (x / 256) (by omega) (by omega)
    simp only [h, decide_true, cond_true, e1, e2, q1, chk]
    rw [fits (n + 8) (by omega) (by omega), fits (ixL 0 tab8 (x / 256)) q2 (by omega), fits _ (by omega) (by omega)]
    exact ⟨_, rfl, by omega, by omega⟩
  · obtain ⟨q1, q2, q3⟩ := tab8_ok x (by omega) (by omega)
    have e2 : IntKind.u8.wrap x = x := by rw [wrap_u8]; omega
    simp only [h, decide_false, cond_false, e2, q1, chk, cond_true]
    rw [fits (ixL 0 tab8 x) q2 (by omega), fits _ (by omega) (by omega)]
    exact ⟨_, rfl, by omega, by omega⟩
theorem len_j4 (fu : Nat) k1 (x n : Int) (h0 : 0 ≤ x) (h1 : x < 4294967296) (hn : 0 ≤ n) (hn1 : n ≤ 64) : ∃ r, bitsLen64.j4 fu k1 x n = k1 r ∧ 0 ≤ r ∧ r ≤ n + 32 := by
  unfold bitsLen64.j4
  by_cases h : x ≥ 65536
  · have e1 : sShr .u64 x 16 = x / 65536 := by have := shr_eq x 16 (by omega); simpa using this
    have e2 : IntKind.i64.wrap (n + 16) = n + 16 := wrap_i64 (by omega) (by omega)
    simp only [h, decide_true, cond_true, e1, e2]
    obtain ⟨r, h1, h2, h3⟩ := len_j7 fu (fun q => k1 q) (x / 65536) (n + 16) (by omega) (by omega) (by omega) (by omega)
    exact ⟨r, h1, h2, by omega⟩
  · simp only [h, decide_false, cond_false]
    obtain ⟨r, h1, h2, h3⟩ := len_j7 fu (fun q => k1 q) x n (by omega) (by omega) (by omega) (by omega)
    exact ⟨r, h1, h2, by omega⟩
theorem len64_le (fu : Nat) (n : Int) (h0 : 0 ≤ n) (h1 : n < 18446744073709551616) : ∃ r, bitsLen64 fu n = some (r, ()) ∧ 0 ≤ r ∧ r ≤ 64 := by
  unfold bitsLen64
  by_cases h : n ≥ 4294967296
  · have e1 : sShr .u64 n 32 = n / 4294967296 := by have := shr_eq n 32 (by omega); simpa using this
    simp only [h, decide_true, cond_true, e1]
    obtain ⟨r, h1, h2, h3⟩ := len_j4 fu (fun q => some (q, ())) (n / 4294967296) 32 (by omega) (by omega) (by omega) (by omega)
    exact ⟨r, h1, h2, by omega⟩
  · simp only [h, decide_false, cond_false]
    obtain ⟨r, h1, h2, h3⟩ := len_j4 fu (fun q => some (q, ())) n 0 (by omega) (by omega) (by omega) (by omega)
    exact ⟨r, h1, h2, by omega⟩
theorem size_le (fu : Nat) (n : Int) (h0 : 0 ≤ n) (h1 : n < 18446744073709551616) : ∃ r, packSize fu n = some (r, ()) ∧ 0 ≤ r ∧ r ≤ 10 := by
  unfold packSize
  obtain ⟨r, q1, q2, q3⟩ := len64_le fu n h0 h1
  have e1 : IntKind.i64.wrap (max2 r 1 + 6) = max r 1 + 6 := by rw [max2_eq, wrap_i64 (by omega) (by omega)]
  have e2 : Int.tdiv (max r 1 + 6) 7 = (max r 1 + 6) / 7 := Int.tdiv_eq_ediv_of_nonneg (by omega)
  have e3 : IntKind.i64.wrap ((max r 1 + 6) / 7) = (max r 1 + 6) / 7 := wrap_i64 (by omega) (by omega)
  simp only [q1, Option.bind_some, e1, e2, e3]
  exact ⟨_, rfl, by omega, by omega⟩
theorem own_eq (fu : Nat) (b : List Int) (room : Int) (hl : b.length ≤ 500000) (h0 : 0 ≤ room) (h1 : room ≤ 1000) : packOwn fu b room = some ((b, ()), ()) := by
  unfold packOwn
  have e1 : IntKind.i64.wrap ((b.length : Int) + room) = b.length + room := wrap_i64 (by omega) (by omega)
  have e2 : mkOk 0 ((b.length : Int) + room) 1 = true := by
    have hL : (1000000 : Int) ≤ (LIM : Int) := by decide
    unfold mkOk
    simp only [Bool.and_eq_true, decide_eq_true_eq]
    omega
  have e3 : apOk ([] : List Int) b 1 = true := apOk1 (by simp; omega)
  simp only [e1, e2, chk, cond_true, Int.toNat_zero, List.replicate_zero, e3, List.nil_append]
theorem pow_succ128 (k : Nat) : (128 : Int) ^ (k + 1) = 128 * 128 ^ k := by rw [Int.pow_succ, Int.mul_comm]
theorem putO_rounds (fu : Nat) (k2 : Int → List Int → Option (((List Int) × Unit) × (Unit))) : ∀ (k m : Nat) (n : Int) (out : List Int), k < m → 0 ≤ n → n < 128 ^ (k + 1) → out.length + k ≤ 500000 →
    ∃ last init, putN k n = init ++ [last] ∧ 0 ≤ last ∧ last < 128 ∧ packPut.l2 fu k2 m n out = k2 last (out ++ init) := by
  intro k
  induction k with
  | zero =>
    intro m n out hm h0 h1 hl
    obtain ⟨m, rfl⟩ : ∃ j, m = j + 1 := ⟨m - 1, by omega⟩
    have hn : ¬ n ≥ 128 := by have : (128 : Int) ^ (0 + 1) = 128 := by decide
                              omega
    refine ⟨n, [], by simp [putN], h0, by omega, ?_⟩
    unfold packPut.l2 packPut.b2
    simp [hn]
  | succ k ih =>
    intro m n out hm h0 h1 hl
    obtain ⟨m, rfl⟩ : ∃ j, m = j + 1 := ⟨m - 1, by omega⟩
    unfold packPut.l2 packPut.b2 putN
    by_cases hn : n ≥ 128
    · have e1 : sShr .u64 n 7 = n / 128 := by have := shr_eq n 7 (by omega); simpa using this
      have e2 : bOr .u8 (IntKind.u8.wrap n) 128 = n % 128 + 128 := by rw [wrap_u8, byte_or _ (by omega) (by omega)]; omega
      rw [pow_succ128] at h1
      obtain ⟨last, init, q1, q2, q3, q4⟩ := ih m (n / 128) (out ++ [n % 128 + 128]) (by omega) (by omega) (by omega) (by simp; omega)
      refine ⟨last, (n % 128 + 128) :: init, by rw [if_pos hn, q1]; rfl, q2, q3, ?_⟩
      have e3 : apOk out [n % 128 + 128] 1 = true := apOk1 (by simp; omega)
      simp only [hn, decide_true, cond_true, e1, e2, e3, chk]
      rw [q4, List.append_assoc]
      rfl
    · refine ⟨n, [], by rw [if_neg hn]; rfl, h0, by omega, ?_⟩
      simp [hn]
theorem putD_rounds (fu : Nat) (k2 : Int → List Int → Option ((List Int) × Unit)) : ∀ (k m : Nat) (n : Int) (out : List Int), k < m → 0 ≤ n → n < 128 ^ (k + 1) → out.length + k ≤ 500000 →
    ∃ last init, putN k n = init ++ [last] ∧ 0 ≤ last ∧ last < 128 ∧ packPutDat.l2 fu k2 m n out = k2 last (out ++ init) := by
  intro k
  induction k with
  | zero =>
    intro m n out hm h0 h1 hl
    obtain ⟨m, rfl⟩ : ∃ j, m = j + 1 := ⟨m - 1, by omega⟩
    have hn : ¬ n ≥ 128 := by have : (128 : Int) ^ (0 + 1) = 128 := by decide
                              omega
    refine ⟨n, [], by simp [putN], h0, by omega, ?_⟩
    unfold packPutDat.l2 packPutDat.b2
    simp [hn]
  | succ k ih =>
    intro m n out hm h0 h1 hl
    obtain ⟨m, rfl⟩ : ∃ j, m = j + 1 := ⟨m - 1, by omega⟩
    unfold packPutDat.l2 packPutDat.b2 putN
    by_cases hn : n ≥ 128
    · have e1 : sShr .u64 n 7 = n / 128 := by have := shr_eq n 7 (by omega); simpa using this
      have e2 : bOr .u8 (IntKind.u8.wrap n) 128 = n % 128 + 128 := by rw [wrap_u8, byte_or _ (by omega) (by omega)]; omega
      rw [pow_succ128] at h1
      obtain ⟨last, init, q1, q2, q3, q4⟩ := ih m (n / 128) (out ++ [n % 128 + 128]) (by omega) (by omega) (by omega) (by simp; omega)
      refine ⟨last, (n % 128 + 128) :: init, by rw [if_pos hn, q1]; rfl, q2, q3, ?_⟩
      have e3 : apOk out [n % 128 + 128] 1 = true := apOk1 (by simp; omega)
      simp only [hn, decide_true, cond_true, e1, e2, e3, chk]
      rw [q4, List.append_assoc]
      rfl
    · refine ⟨n, [], by rw [if_neg hn]; rfl, h0, by omega, ?_⟩
      simp [hn]
theorem put_eq (fu : Nat) (hfu : 12 ≤ fu) (b : List Int) (n : Int) (hl : b.length ≤ 400000) (h0 : 0 ≤ n) (h1 : n < 18446744073709551616) : packPut fu b n = some ((b ++ putN 9 n, ()), ()) ∧ packPutDat fu b n = some (b ++ putN 9 n, ()) := by
  obtain ⟨r, q1, q2, q3⟩ := size_le fu n h0 h1
  have hp : (128 : Int) ^ (9 + 1) = 1180591620717411303424 := by decide
  constructor
  · obtain ⟨last, init, p1, p2, p3, p4⟩ := putO_rounds fu (fun nq2 outq2 => 
      chk (apOk outq2 ([IntKind.u8.wrap nq2]) 1) <|
      let t3 := outq2 ++ ([IntKind.u8.wrap nq2])
      some ((t3, ()), (()))) 9 fu n b (by omega) h0 (by omega) (by omega)
    have hlen := putN_len 9 n
    rw [p1] at hlen
    simp only [List.length_append, List.length_cons, List.length_nil] at hlen
    have e1 : IntKind.u8.wrap last = last := by rw [wrap_u8]; omega
    have e2 : apOk (b ++ init) [last] 1 = true := apOk1 (by simp; omega)
    unfold packPut
    simp only [q1, Option.bind_some, own_eq fu b r (by omega) q2 (by omega)]
    refine p4.trans ?_
    simp only [e1, e2, chk, cond_true, p1, List.append_assoc]
  · obtain ⟨last, init, p1, p2, p3, p4⟩ := putD_rounds fu (fun nq2 outq2 => 
      chk (apOk outq2 ([IntKind.u8.wrap nq2]) 1) <|
      let t3 := outq2 ++ ([IntKind.u8.wrap nq2])
      some (t3, ())) 9 fu n b (by omega) h0 (by omega) (by omega)
    have hlen := putN_len 9 n
    rw [p1] at hlen
    simp only [List.length_append, List.length_cons, List.length_nil] at hlen
    have e1 : IntKind.u8.wrap last = last := by rw [wrap_u8]; omega
    have e2 : apOk (b ++ init) [last] 1 = true := apOk1 (by simp; omega)
    unfold packPutDat
    simp only [q1, Option.bind_some, own_eq fu b r (by omega) q2 (by omega)]
    refine p4.trans ?_
    simp only [e1, e2, chk, cond_true, p1, List.append_assoc]
theorem get_put : ∀ (k i : Nat) (l : List Int) (n v e : Int), By l → i + k = 9 → get1 l i n = (v, e, 0) →
    ∃ (m : Int) (j : Nat), v = n + m * 128 ^ i ∧ 0 ≤ m ∧ m < 2 * 128 ^ k ∧ e = i + j ∧ 0 < j ∧ j ≤ l.length ∧ l.take j = putN k m ∧ (i > 0 → 1 ≤ m) := by
  intro k
  induction k with
  | zero =>
    intro i l n v e hb hi h
    cases l with
    | nil => cases h
    | cons c r =>
      have hc := hb c List.mem_cons_self
      unfold get1 at h
      split at h
      · cases h
      · rename_i h9
        have hc1 : ¬ c > 1 := fun hx => h9 ⟨by omega, hx⟩
        rw [if_neg (by omega)] at h
        split at h
        · cases h
        · rename_i h0
          cases h
          refine ⟨c, 1, rfl, hc.1, by omega, by omega, by omega, by simp, by simp [putN], fun hi0 => ?_⟩
          rcases Int.lt_or_le 0 c with hx | hx
          · omega
          · exact absurd ⟨by omega, hi0⟩ h0
  | succ k ih =>
    intro i l n v e hb hi h
    cases l with
    | nil => cases h
    | cons c r =>
      have hc := hb c List.mem_cons_self
      unfold get1 at h
      rw [if_neg (by omega)] at h
      have hpk : (1 : Int) ≤ 128 ^ k := by
        have : 0 < 128 ^ k := Nat.pow_pos (by omega)
        have e : (128 : Int) ^ k = ((128 ^ k : Nat) : Int) := by norm_cast
        omega
      split at h
      · rename_i h128
        obtain ⟨m, j, q1, q2, q3, q4, q5, q6, q7, q8⟩ := ih (i + 1) r _ v e (by_tail hb) (by omega) h
        have hm1 := q8 (by omega)
        refine ⟨c - 128 + 128 * m, j + 1, ?_, by omega, by rw [Int.pow_succ]; omega, by omega, by omega, by simp; omega, ?_, fun _ => by omega⟩
        · rw [q1, Int.pow_succ, Int.add_mul, Int.mul_comm 128 m, Int.mul_assoc m 128, Int.mul_comm 128 (128 ^ i)]; omega
        · rw [List.take_succ_cons, q7]
          conv => rhs; unfold putN
          rw [if_pos (by omega), show (c - 128 + 128 * m) % 128 + 128 = c by omega, show (c - 128 + 128 * m) / 128 = m by omega]
      · rename_i h128
        split at h
        · cases h
        · rename_i h0
          cases h
          refine ⟨c, 1, rfl, hc.1, by rw [Int.pow_succ]; omega, by omega, by omega, by simp, ?_, fun hi0 => ?_⟩
          · conv => rhs; unfold putN
            rw [if_neg (by omega)]; simp
          · rcases Int.lt_or_le 0 c with hx | hx
            · omega
            · exact absurd ⟨by omega, hi0⟩ h0
theorem got_ok {b : List Int} (hb : By b) {at' v e : Int} (h : got b at' = (v, e, 0)) : 0 ≤ at' ∧ 0 ≤ v ∧ v < 18446744073709551616 ∧ ∃ j : Nat, e = at' + j ∧ 0 < j ∧ at' + j ≤ b.length ∧ cutL b at' e = putN 9 v := by
  unfold got at h
  split at h
  · cases h
  · rename_i hn
    generalize hq : get1 (b.drop at'.toNat) 0 0 = q at h
    obtain ⟨v', e', er⟩ := q
    unfold from1 at h
    simp only [Prod.mk.injEq] at h
    obtain ⟨rfl, h2, rfl⟩ := h
    rw [if_pos rfl] at h2
    obtain ⟨m, j, q1, q2, q3, q4, q5, q6, q7, q8⟩ := get_put 9 0 (b.drop at'.toNat) 0 v' e' (fun x hx => hb x (List.mem_of_mem_drop hx)) rfl hq
    have hv : v' = m := by rw [q1]; simp
    rw [List.length_drop] at q6
    have hp : (2 : Int) * 128 ^ 9 = 18446744073709551616 := by decide
    refine ⟨by omega, by omega, by omega, j, by omega, q5, by omega, ?_⟩
    rw [hv, ← q7]
    unfold cutL
    rw [show (e - at').toNat = j by omega]
theorem cut_len {b : List Int} {x y : Int} (h0 : 0 ≤ x) (h1 : x ≤ y) (h2 : y ≤ b.length) : (cutL b x y).length = (y - x).toNat := by
  unfold cutL
  rw [List.length_take, List.length_drop]
  omega
theorem cut_app {b : List Int} {x y z : Int} (h0 : 0 ≤ x) (h1 : x ≤ y) (h2 : y ≤ z) (h3 : z ≤ b.length) : cutL b x y ++ cutL b y z = cutL b x z := by
  unfold cutL
  have e : b.drop y.toNat = (b.drop x.toNat).drop (y - x).toNat := by rw [List.drop_drop]; congr 1; omega
  rw [e, show (z - x).toNat = (y - x).toNat + (z - y).toNat by omega, List.take_add]
theorem cutOk_of {b : List Int} {x y : Int} (h0 : 0 ≤ x) (h1 : x ≤ y) (h2 : y ≤ b.length) : cutOk b x y = true := by simp [cutOk, h0, h1, h2]
def text1 (b : List Int) (at' most : Int) : List Int × Int × Int :=
  if (got b at').2.2 ≠ 0 then ([], 0, (got b at').2.2) else if (got b at').1 > max most 0 then ([], 0, 4) else if (got b at').1 > b.length - (got b at').2.1 then ([], 0, 3)
  else (cutL b (got b at').2.1 ((got b at').2.1 + (got b at').1), (got b at').2.1 + (got b at').1, 0)
theorem getText_eq (fu : Nat) (b : List Int) (hb : By b) (hl : b.length ≤ 100000) (hfu : b.length < fu) (at' most : Int) (hm : -9223372036854775808 ≤ most ∧ most < 9223372036854775808) : packGetText fu b at' most = some ((text1 b at' most).1, (text1 b at' most).2.1, (text1 b at' most).2.2, ()) := by
  unfold packGetText text1
  rw [packGet_eq fu b hb hl hfu]
  generalize hq : got b at' = q
  obtain ⟨v, e, er⟩ := q
  simp only [Option.bind_some]
  by_cases h : er = 0
  · subst h
    obtain ⟨g1, g2, g3, j, g4, g5, g6, g7⟩ := got_ok hb hq
    have e1 : IntKind.u64.wrap (max2 most 0) = max most 0 := by rw [max2_eq]; exact wrap_u64 (by omega) (by omega)
    have e2 : IntKind.i64.wrap ((b.length : Int) - e) = b.length - e := wrap_i64 (by omega) (by omega)
    have e3 : IntKind.u64.wrap ((b.length : Int) - e) = b.length - e := wrap_u64 (by omega) (by omega)
    simp only [bne_self_eq_false, cond_false, e1, e2, e3, ne_eq, not_true_eq_false, if_false]
    by_cases h1 : v > max most 0
    · simp [h1]
    · by_cases h2 : v > b.length - e
      · simp only [h1, h2, decide_false, decide_true, cond_false, cond_true, if_false, if_true]
      · have e4 : IntKind.i64.wrap v = v := wrap_i64 (by omega) (by omega)
        have e5 : IntKind.i64.wrap (e + v) = e + v := wrap_i64 (by omega) (by omega)
        simp only [h1, h2, decide_false, cond_false, if_false, e4, e5, cutOk_of (show 0 ≤ e by omega) (show e ≤ e + v by omega) (show e + v ≤ b.length by omega), chk, cond_true]
  · have h' : (er != 0) = true := bne_iff_ne.2 h
    simp [h, h']
theorem text_ok {b : List Int} (hb : By b) {at' most e : Int} {s : List Int} (h : text1 b at' most = (s, e, 0)) : 0 ≤ at' ∧ at' ≤ e ∧ e ≤ b.length ∧ (s.length : Int) ≤ b.length ∧ cutL b at' e = putN 9 s.length ++ s := by
  unfold text1 at h
  generalize hq : got b at' = q at h
  obtain ⟨v, e', er⟩ := q
  simp only at h
  split at h
  · rename_i h0
    simp only [Prod.mk.injEq] at h
    exact absurd h.2.2 h0
  · rename_i h0
    have h0 : er = 0 := by omega
    subst h0
    split at h
    · cases h
    · split at h
      · cases h
      · rename_i h1 h2
        cases h
        obtain ⟨g1, g2, g3, j, g4, g5, g6, g7⟩ := got_ok hb hq
        have hlen : (cutL b e' (e' + v)).length = v.toNat := by rw [cut_len (by omega) (by omega) (by omega)]; omega
        refine ⟨g1, by omega, by omega, by omega, ?_⟩
        rw [hlen, show (v.toNat : Int) = v by omega, ← g7]
        exact (cut_app g1 (by omega) (by omega) (by omega)).symm
theorem putText_eq (fu : Nat) (hfu : 12 ≤ fu) (b s : List Int) (hl : b.length ≤ 400000) (hs : s.length ≤ 400000) : packPutTextDat fu b s = some (b ++ putN 9 s.length ++ s, ()) := by
  unfold packPutTextDat
  have e1 : IntKind.u64.wrap (s.length : Int) = s.length := wrap_u64 (by omega) (by omega)
  have := putN_len 9 s.length
  have e2 : apOk (b ++ putN 9 s.length) s 1 = true := apOk1 (by rw [List.length_append]; omega)
  simp only [e1, (put_eq fu hfu b s.length hl (by omega) (by omega)).1, Option.bind_some, e2, chk, cond_true]
theorem putN_by : ∀ (k : Nat) (n : Int), 0 ≤ n → n < 2 * 128 ^ k → By (putN k n) := by
  intro k
  induction k with
  | zero => intro n h0 h1 x hx; simp [putN] at hx; simp at h1; omega
  | succ k ih =>
    intro n h0 h1 x hx
    unfold putN at hx
    split at hx
    · rcases List.mem_cons.1 hx with rfl | hx
      · omega
      · exact ih (n / 128) (by omega) (by rw [Int.pow_succ] at h1; omega) x hx
    · simp at hx; omega
theorem putN_by9 (n : Int) (h0 : 0 ≤ n) (h1 : n < 18446744073709551616) : By (putN 9 n) := by
  have hp : (2 : Int) * 128 ^ 9 = 18446744073709551616 := by decide
  exact putN_by 9 n h0 (by omega)
theorem by_app {a b : List Int} (ha : By a) (hb : By b) : By (a ++ b) := fun x hx => by
  rcases List.mem_append.1 hx with h | h
  · exact ha x h
  · exact hb x h
theorem byOf {l : List Int} (h : (Kd.slice (.int .u8)).ok l) : By l := fun x hx => by
  have := h.2 x hx
  simp [Kd.ok, inR, IntKind.min, IntKind.max, IntKind.signed, IntKind.bits] at this
  omega
theorem got_v {b : List Int} (hb : By b) (at' : Int) : 0 ≤ (got b at').1 ∧ (got b at').1 < 18446744073709551616 := by
  generalize hq : got b at' = q
  obtain ⟨v, e, er⟩ := q
  by_cases h0 : er = 0
  · subst h0
    obtain ⟨g1, g2, g3, _⟩ := got_ok hb hq
    exact ⟨g2, g3⟩
  · unfold got at hq
    split at hq
    · cases hq; simp
    · have hz := get1_err (b.drop at'.toNat) 0 0
      unfold from1 at hq
      simp only [Prod.mk.injEq] at hq
      obtain ⟨rfl, _, h3⟩ := hq
      have := (hz (by rw [h3]; exact h0)).1
      show 0 ≤ (get1 (b.drop at'.toNat) 0 0).1 ∧ _
      rw [this]; omega
theorem ne_bne {x y : Int} (h : ¬ x = y) : (x != y) = true := bne_iff_ne.2 h
theorem ne_beq {x y : Int} (h : ¬ x = y) : (x == y) = false := beq_false_of_ne h
theorem wrap_u32 {x : Int} (h0 : 0 ≤ x) (h1 : x < 4294967296) : IntKind.u32.wrap x = x := by
  simp only [IntKind.wrap, IntKind.signed, IntKind.bits]
  simp
  omega
abbrev B32 := BitVec 32
def wv (a : B32) : Int := (a.toNat : Int)
theorem wv_lt (a : B32) : 0 ≤ wv a ∧ wv a < 4294967296 := by have := a.isLt; unfold wv; omega
theorem ofInt_wv (a : B32) : BitVec.ofInt 32 (wv a) = a := by
  unfold wv
  rw [BitVec.ofInt_natCast, BitVec.ofNat_toNat, BitVec.setWidth_eq]
theorem wv_ofInt {x : Int} (h0 : 0 ≤ x) (h1 : x < 4294967296) : wv (BitVec.ofInt 32 x) = x := by
  obtain ⟨n, rfl⟩ := Int.eq_ofNat_of_zero_le h0
  show ((BitVec.ofInt 32 (n : Int)).toNat : Int) = n
  rw [BitVec.ofInt_natCast, BitVec.toNat_ofNat, Nat.mod_eq_of_lt (by omega)]
theorem xor_wv (a b : B32) : bXor .u32 (wv a) (wv b) = wv (a ^^^ b) := by
  show IntKind.u32.wrap (((BitVec.ofInt 32 (wv a) ^^^ BitVec.ofInt 32 (wv b)).toNat : Nat) : Int) = _
  rw [ofInt_wv, ofInt_wv]
  exact wrap_u32 (wv_lt _).1 (wv_lt _).2
theorem and_wv (a b : B32) : bAnd .u32 (wv a) (wv b) = wv (a &&& b) := by
  show IntKind.u32.wrap (((BitVec.ofInt 32 (wv a) &&& BitVec.ofInt 32 (wv b)).toNat : Nat) : Int) = _
  rw [ofInt_wv, ofInt_wv]
  exact wrap_u32 (wv_lt _).1 (wv_lt _).2
theorem not_wv (a : B32) : bNot .u32 (wv a) = wv (a ^^^ 4294967295#32) := by
  have e : bNot .u32 (wv a) = bXor .u32 4294967295 (wv a) := rfl
  rw [e, show (4294967295 : Int) = wv 4294967295#32 from rfl, xor_wv, BitVec.xor_comm]
theorem shr_wv (a : B32) (k : Nat) (hk : k < 32) : sShr .u32 (wv a) (k : Int) = wv (a >>> k) := by
  unfold sShr
  have e : min (k : Int).toNat IntKind.u32.bits = k := by simp only [IntKind.bits]; omega
  rw [e]
  unfold wv
  rw [BitVec.toNat_ushiftRight, Nat.shiftRight_eq_div_pow, Int.fdiv_eq_ediv_of_nonneg _ (by exact_mod_cast Nat.zero_le _), Int.natCast_ediv, Int.natCast_pow]
  rfl
def pol : B32 := 3988292384#32
def st1 (r : B32) : B32 := (r >>> 1) ^^^ (if r.getLsbD 0 = true then pol else 0#32)
theorem st1_xor (a b : B32) : st1 (a ^^^ b) = st1 a ^^^ st1 b := by
  unfold st1
  rw [BitVec.ushiftRight_xor_distrib, BitVec.getLsbD_xor]
  have e : (if (a.getLsbD 0 ^^ b.getLsbD 0) = true then pol else 0#32) = (if a.getLsbD 0 = true then pol else 0#32) ^^^ (if b.getLsbD 0 = true then pol else 0#32) := by
    cases a.getLsbD 0 <;> cases b.getLsbD 0 <;> simp
  rw [e]
  ac_rfl
def st4 (r : B32) : B32 := st1 (st1 (st1 (st1 r)))
theorem st4_xor (a b : B32) : st4 (a ^^^ b) = st4 a ^^^ st4 b := by unfold st4; simp only [st1_xor]
def tabB (m : B32) : B32 := BitVec.ofInt 32 (ixL (0 : Int) tabCrcHalves (wv m))
theorem st1_even {a : B32} (h : a.getLsbD 0 = false) : st1 a = a >>> 1 := by unfold st1; rw [h]; simp
theorem st4_high (r : B32) : st4 (r &&& 4294967280#32) = r >>> 4 := by
  have b : ∀ i, i < 4 → (r &&& 4294967280#32).getLsbD i = false := fun i hi => by
    rw [BitVec.getLsbD_and]
    have : (4294967280#32).getLsbD i = false := by
      match i, hi with
      | 0, _ => rfl
      | 1, _ => rfl
      | 2, _ => rfl
      | 3, _ => rfl
    rw [this, Bool.and_false]
  have go : ∀ (k : Nat), k < 4 → st1 ((r &&& 4294967280#32) >>> k) = (r &&& 4294967280#32) >>> (k + 1) := fun k hk => by
    rw [st1_even (by rw [BitVec.getLsbD_ushiftRight, Nat.add_zero]; exact b k hk), BitVec.shiftRight_add]
  have g0 := go 0 (by omega)
  rw [BitVec.ushiftRight_zero] at g0
  unfold st4
  rw [g0, go 1 (by omega), go 2 (by omega), go 3 (by omega)]
  apply BitVec.eq_of_getLsbD_eq
  intro i hi
  rw [BitVec.getLsbD_ushiftRight, BitVec.getLsbD_ushiftRight, BitVec.getLsbD_and]
  have : ∀ i : Fin 32, i.val < 28 → (4294967280#32).getLsbD (4 + i.val) = true := by decide
  by_cases h28 : i < 28
  · rw [this ⟨i, hi⟩ h28, Bool.and_true]
  · rw [BitVec.getLsbD_of_ge r (4 + i) (by omega), Bool.false_and]
theorem st4_low (m : B32) (h : m.toNat < 16) : st4 m = tabB m := by
  have key : ∀ n : Fin 16, st4 (BitVec.ofNat 32 n.val) = tabB (BitVec.ofNat 32 n.val) := by decide +kernel
  have := key ⟨m.toNat, h⟩
  simp only [BitVec.ofNat_toNat, BitVec.setWidth_eq] at this
  exact this
theorem low_lt (r : B32) : (r &&& 15#32).toNat < 16 := by
  rw [BitVec.toNat_and]
  exact Nat.lt_of_le_of_lt Nat.and_le_right (by decide)
theorem st4_eq (r : B32) : st4 r = (r >>> 4) ^^^ tabB (r &&& 15#32) := by
  have e : r = (r &&& 4294967280#32) ^^^ (r &&& 15#32) := by
    apply BitVec.eq_of_getLsbD_eq
    intro i hi
    rw [BitVec.getLsbD_xor, BitVec.getLsbD_and, BitVec.getLsbD_and]
    have : ∀ i : Fin 32, (15#32).getLsbD i.val = !(4294967280#32).getLsbD i.val := by decide
    rw [this ⟨i, hi⟩]
    cases r.getLsbD i <;> cases (4294967280#32).getLsbD i <;> rfl
  conv => lhs; rw [e]
  rw [st4_xor, st4_high, st4_low _ (low_lt r)]
def st8 (r : B32) : B32 := st4 (st4 r)
def rowB (r : B32) (l : List Int) : B32 := l.foldl (fun r c => st8 (r ^^^ BitVec.ofInt 32 c)) r
theorem tab_wv (r : B32) : ixArr 16 (bAnd .u32 (wv r) (15 : Int)) = true ∧ bXor .u32 (sShr .u32 (wv r) (4 : Int)) (ixL (0 : Int) tabCrcHalves (bAnd .u32 (wv r) (15 : Int))) = wv (st4 r) := by
  have e1 : bAnd .u32 (wv r) (15 : Int) = wv (r &&& 15#32) := and_wv r 15#32
  have hl := low_lt r
  have e2 : sShr .u32 (wv r) (4 : Int) = wv (r >>> 4) := shr_wv r 4 (by omega)
  rw [e1, e2]
  refine ⟨by unfold ixArr wv; simp only [Bool.and_eq_true, decide_eq_true_eq]; omega, ?_⟩
  have e3 : ixL (0 : Int) tabCrcHalves (wv (r &&& 15#32)) = wv (tabB (r &&& 15#32)) := by
    have key : ∀ n : Fin 16, ixL (0 : Int) tabCrcHalves (wv (BitVec.ofNat 32 n.val)) = wv (tabB (BitVec.ofNat 32 n.val)) := by decide +kernel
    have := key ⟨(r &&& 15#32).toNat, hl⟩
    simp only [BitVec.ofNat_toNat, BitVec.setWidth_eq] at this
    exact this
  rw [e3, xor_wv, st4_eq]
theorem carry_rounds (fu : Nat) (k2 : Int → Option (Int × Unit)) (b : List Int) (hb : By b) (hl : b.length ≤ 1000000) : ∀ (m i : Nat) (r : B32), i ≤ b.length → b.length < i + m →
    crcCarry.l2 fu k2 m (wv r) b b.length i = k2 (wv (rowB r (b.drop i))) := by
  intro m
  induction m with
  | zero => intro i r h1 h2; omega
  | succ m ih =>
    intro i r h1 h2
    unfold crcCarry.l2 crcCarry.b2
    by_cases h : i < b.length
    · have hi : (i : Int) < b.length := by omega
      have hx : ixOk b i = true := by simp [ixOk, h]
      have e1 : IntKind.i64.wrap ((i : Int) + 1) = (i + 1 : Nat) := wrap_i64 (by omega) (by omega)
      have hc := hb _ (List.getElem_mem h)
      rw [List.drop_eq_getElem_cons h]
      simp only [hi, decide_true, cond_true, chk, hx, ixL_get h]
      generalize b[i] = c at hc
      have e2 : bXor .u32 (wv r) (IntKind.u32.wrap c) = wv (r ^^^ BitVec.ofInt 32 c) := by
        rw [wrap_u32 (by omega) (by omega), ← xor_wv, wv_ofInt (by omega) (by omega)]
      obtain ⟨q1, q2⟩ := tab_wv (r ^^^ BitVec.ofInt 32 c)
      obtain ⟨q3, q4⟩ := tab_wv (st4 (r ^^^ BitVec.ofInt 32 c))
      simp only [e1, e2, q1, q2, q3, q4, cond_true]
      exact ih (i + 1) (st8 (r ^^^ BitVec.ofInt 32 c)) (by omega) (by omega)
    · have hi : ¬ (i : Int) < b.length := by omega
      rw [List.drop_of_length_le (by omega)]
      simp only [hi, decide_false, cond_false]
      rfl
theorem carry_eq (fu : Nat) (b : List Int) (hb : By b) (hl : b.length ≤ 1000000) (hf : b.length < fu) (r : B32) : crcCarry fu (wv r) b = some (wv (rowB r b), ()) := by
  unfold crcCarry
  have := carry_rounds fu (fun q => some (q, ())) b hb hl fu 0 r (by omega) (by omega)
  rw [List.drop_zero] at this
  exact this
def moreB (s : B32) (b : List Int) : B32 := rowB (s ^^^ 4294967295#32) b ^^^ 4294967295#32
theorem more_eq (fu : Nat) (b : List Int) (hb : By b) (hl : b.length ≤ 1000000) (hf : b.length < fu) (s : B32) : crcMore fu (wv s) b = some (wv (moreB s b), ()) := by
  unfold crcMore
  rw [not_wv, carry_eq fu b hb hl hf]
  simp only [Option.bind_some, not_wv]
  rfl
theorem sum_eq (fu : Nat) (b : List Int) (hb : By b) (hl : b.length ≤ 1000000) (hf : b.length < fu) : crcSum fu b = some (wv (moreB 0#32 b), ()) := by
  unfold crcSum
  have := more_eq fu b hb hl hf 0#32
  rw [show wv 0#32 = 0 from rfl] at this
  rw [this]
  rfl
theorem st1_wv (r : B32) : (Int.tmod (wv r) 2 == 1) = r.getLsbD 0 ∧ IntKind.u32.wrap (Int.tdiv (wv r) 2) = wv (r >>> 1) := by
  have hr := wv_lt r
  constructor
  · rw [Int.tmod_eq_emod_of_nonneg hr.1]
    have : r.getLsbD 0 = decide (r.toNat % 2 = 1) := by
      show r.toNat.testBit 0 = _
      rw [Nat.testBit_zero]
    rw [this]
    unfold wv
    by_cases h : r.toNat % 2 = 1
    · have : ((r.toNat : Int) % 2) = 1 := by omega
      rw [this]; simp [h]
    · have : ((r.toNat : Int) % 2) = 0 := by omega
      rw [this]; simp [h]
  · rw [Int.tdiv_eq_ediv_of_nonneg hr.1, wrap_u32 (by omega) (by omega)]
    unfold wv
    rw [BitVec.toNat_ushiftRight, Nat.shiftRight_eq_div_pow]
    omega
def stN : Nat → B32 → B32
  | 0, r => r
  | j + 1, r => stN j (st1 r)
theorem ref_bits (fu : Nat) (k4 : Int → (List Int) → Int → Int → Option (Int × Unit)) (b : List Int) (v vx : Int) : ∀ (j m k : Nat) (r : B32), k + j = 8 → j < m → ref01Row.l6 fu k4 m (wv r) b k v vx = k4 (wv (stN j r)) b v vx := by
  intro j
  induction j with
  | zero =>
    intro m k r hk hm
    obtain ⟨m, rfl⟩ : ∃ q, m = q + 1 := ⟨m - 1, by omega⟩
    unfold ref01Row.l6 ref01Row.b6
    have h : ¬ (k : Int) < 8 := by omega
    simp only [h, decide_false, cond_false]
    rfl
  | succ j ih =>
    intro m k r hk hm
    obtain ⟨m, rfl⟩ : ∃ q, m = q + 1 := ⟨m - 1, by omega⟩
    unfold ref01Row.l6 ref01Row.b6
    have h : (k : Int) < 8 := by omega
    have e1 : IntKind.i64.wrap ((k : Int) + 1) = (k + 1 : Nat) := wrap_i64 (by omega) (by omega)
    obtain ⟨q1, q2⟩ := st1_wv r
    have e2 : bXor .u32 (wv (r >>> 1)) (3988292384 : Int) = wv ((r >>> 1) ^^^ pol) := xor_wv _ pol
    simp only [h, decide_true, cond_true, q1, q2, e1, e2]
    unfold stN
    cases hg : r.getLsbD 0 with
    | true =>
      have : st1 r = (r >>> 1) ^^^ pol := by unfold st1; rw [hg]; rfl
      rw [this]
      exact ih m (k + 1) _ (by omega) (by omega)
    | false =>
      rw [st1_even hg]
      exact ih m (k + 1) _ (by omega) (by omega)
theorem row_rounds (fu : Nat) (hfu : 8 < fu) (k2 : Int → Option (Int × Unit)) (b : List Int) (hb : By b) (hl : b.length ≤ 1000000) : ∀ (m i : Nat) (r : B32), i ≤ b.length → b.length < i + m →
    ref01Row.l2 fu k2 m (wv r) b b.length i = k2 (wv (rowB r (b.drop i))) := by
  intro m
  induction m with
  | zero => intro i r h1 h2; omega
  | succ m ih =>
    intro i r h1 h2
    unfold ref01Row.l2 ref01Row.b2
    by_cases h : i < b.length
    · have hi : (i : Int) < b.length := by omega
      have hx : ixOk b i = true := by simp [ixOk, h]
      have e1 : IntKind.i64.wrap ((i : Int) + 1) = (i + 1 : Nat) := wrap_i64 (by omega) (by omega)
      have hc := hb _ (List.getElem_mem h)
      rw [List.drop_eq_getElem_cons h]
      simp only [hi, decide_true, cond_true, chk, hx, ixL_get h]
      generalize b[i] = c at hc
      have e2 : bXor .u32 (wv r) (IntKind.u32.wrap c) = wv (r ^^^ BitVec.ofInt 32 c) := by
        rw [wrap_u32 (by omega) (by omega), ← xor_wv, wv_ofInt (by omega) (by omega)]
      rw [e2]
      have := ref_bits fu (fun rowq4 bq4 vq4 vq4x2 => ref01Row.l2 fu k2 m rowq4 bq4 vq4 (IntKind.i64.wrap (vq4x2 + (1 : Int)))) b b.length i 8 fu 0 (r ^^^ BitVec.ofInt 32 c) (by omega) (by omega)
      refine this.trans ?_
      rw [e1]
      exact ih (i + 1) (st8 (r ^^^ BitVec.ofInt 32 c)) (by omega) (by omega)
    · have hi : ¬ (i : Int) < b.length := by omega
      rw [List.drop_of_length_le (by omega)]
      simp only [hi, decide_false, cond_false]
      rfl
theorem row_eq (fu : Nat) (hfu : 8 < fu) (b : List Int) (hb : By b) (hl : b.length ≤ 1000000) (hf : b.length < fu) (r : B32) : ref01Row fu (wv r) b = some (wv (rowB r b), ()) := by
  unfold ref01Row
  have := row_rounds fu hfu (fun q => some (q, ())) b hb hl fu 0 r (by omega) (by omega)
  rw [List.drop_zero] at this
  exact this
theorem refSum_eq (fu : Nat) (hfu : 8 < fu) (b : List Int) (hb : By b) (hl : b.length ≤ 1000000) (hf : b.length < fu) : ref01Sum fu b = some (wv (moreB 0#32 b), ()) := by
  unfold ref01Sum
  have := row_eq fu hfu b hb hl hf 4294967295#32
  rw [show wv 4294967295#32 = 4294967295 from rfl] at this
  rw [this]
  have e := xor_wv (rowB 4294967295#32 b) 4294967295#32
  rw [show wv 4294967295#32 = 4294967295 from rfl] at e
  simp only [Option.bind_some, e]
  unfold moreB
  rw [BitVec.zero_xor]
theorem or_add32 (n a k : Nat) (h : n < 2 ^ k) (ht : n + a * 2 ^ k < 4294967296) : bOr .u32 ((a * 2 ^ k : Nat) : Int) (n : Int) = (a * 2 ^ k + n : Nat) := by
  show IntKind.u32.wrap (((BitVec.ofInt 32 ((a * 2 ^ k : Nat) : Int) ||| BitVec.ofInt 32 (n : Int)).toNat : Nat) : Int) = _
  rw [BitVec.ofInt_natCast, BitVec.ofInt_natCast]
  have h1 : n < 2 ^ 32 := by omega
  have h2 : a * 2 ^ k < 2 ^ 32 := by omega
  rw [BitVec.toNat_or, BitVec.toNat_ofNat, BitVec.toNat_ofNat, Nat.mod_eq_of_lt h1, Nat.mod_eq_of_lt h2, Nat.mul_comm a, ← Nat.two_pow_add_eq_or_of_lt h]
  rw [Nat.mul_comm a] at ht
  rw [wrap_u32 (by omega) (by omega)]
theorem shl32 (x : Int) (k : Nat) (hk : k < 32) (h0 : 0 ≤ x) (h : x * 2 ^ k < 4294967296) : sShl .u32 x (k : Int) = x * 2 ^ k := by
  unfold sShl
  have e : min (k : Int).toNat IntKind.u32.bits = k := by simp only [IntKind.bits]; omega
  rw [e]
  exact wrap_u32 (Int.mul_nonneg h0 (by exact_mod_cast Nat.zero_le _)) h
theorem shr32 (x : Int) (k : Nat) (hk : k < 32) : sShr .u32 x (k : Int) = x / 2 ^ k := by
  unfold sShr
  have e : min (k : Int).toNat IntKind.u32.bits = k := by simp only [IntKind.bits]; omega
  rw [e, Int.fdiv_eq_ediv_of_nonneg]
  exact_mod_cast Nat.zero_le _
def four (n : Int) : List Int := [n / 16777216 % 256, n / 65536 % 256, n / 256 % 256, n % 256]
theorem four_len (n : Int) : (four n).length = 4 := rfl
theorem four_by (n : Int) : By (four n) := fun x hx => by
  simp only [four, List.mem_cons, List.not_mem_nil, or_false] at hx
  omega
def val4 (l : List Int) : Int := ixL (0 : Int) l 0 * 16777216 + ixL (0 : Int) l 1 * 65536 + ixL (0 : Int) l 2 * 256 + ixL (0 : Int) l 3
theorem four_val (a b c d : Int) (ha : 0 ≤ a ∧ a ≤ 255) (hb : 0 ≤ b ∧ b ≤ 255) (hc : 0 ≤ c ∧ c ≤ 255) (hd : 0 ≤ d ∧ d ≤ 255) (r : List Int) : four (val4 (a :: b :: c :: d :: r)) = [a, b, c, d] := by
  show four (a * 16777216 + b * 65536 + c * 256 + d) = _
  unfold four
  simp only [List.cons.injEq, and_true]
  omega
theorem val_four (n : Int) (h0 : 0 ≤ n) (h1 : n < 4294967296) (r : List Int) : val4 (four n ++ r) = n := by
  show n / 16777216 % 256 * 16777216 + n / 65536 % 256 * 65536 + n / 256 % 256 * 256 + n % 256 = n
  omega
theorem split4 {l : List Int} (hl : 4 ≤ l.length) : ∃ a b c d r, l = a :: b :: c :: d :: r := by
  match l, hl with
  | a :: b :: c :: d :: r, _ => exact ⟨a, b, c, d, r, rfl⟩
theorem val4_in {l : List Int} (hb : By l) (hl : 4 ≤ l.length) : 0 ≤ val4 l ∧ val4 l < 4294967296 := by
  obtain ⟨a, b, c, d, r, rfl⟩ := split4 hl
  have ha := hb a (by simp)
  have hb' := hb b (by simp)
  have hc := hb c (by simp)
  have hd := hb d (by simp)
  show 0 ≤ a * 16777216 + b * 65536 + c * 256 + d ∧ a * 16777216 + b * 65536 + c * 256 + d < _
  omega
theorem get4_eq (fu : Nat) {l : List Int} (hb : By l) (hl : 4 ≤ l.length) : recGetF46 fu l = some (val4 l, ()) := by
  obtain ⟨a, b, c, d, r, rfl⟩ := split4 hl
  have ha := hb a (by simp)
  have hb' := hb b (by simp)
  have hc := hb c (by simp)
  have hd := hb d (by simp)
  have x0 : ixOk (a :: b :: c :: d :: r) 0 = true := by simp [ixOk]; omega
  have x1 : ixOk (a :: b :: c :: d :: r) 1 = true := by simp [ixOk]; omega
  have x2 : ixOk (a :: b :: c :: d :: r) 2 = true := by simp [ixOk]; omega
  have x3 : ixOk (a :: b :: c :: d :: r) 3 = true := by simp [ixOk]; omega
  have y0 : ixL (0 : Int) (a :: b :: c :: d :: r) 0 = a := rfl
  have y1 : ixL (0 : Int) (a :: b :: c :: d :: r) 1 = b := rfl
  have y2 : ixL (0 : Int) (a :: b :: c :: d :: r) 2 = c := rfl
  have y3 : ixL (0 : Int) (a :: b :: c :: d :: r) 3 = d := rfl
  have w : ∀ x : Int, 0 ≤ x → x ≤ 255 → IntKind.u32.wrap x = x := fun x h0 h1 => wrap_u32 h0 (by omega)
  unfold recGetF46 val4
  simp only [x0, x1, x2, x3, y0, y1, y2, y3, chk, cond_true, w a ha.1 ha.2, w b hb'.1 hb'.2, w c hc.1 hc.2, w d hd.1 hd.2]
  have s1 : sShl .u32 a 24 = a * 16777216 := by have := shl32 a 24 (by omega) ha.1 (by omega); simpa using this
  have s2 : sShl .u32 b 16 = b * 65536 := by have := shl32 b 16 (by omega) hb'.1 (by omega); simpa using this
  have s3 : sShl .u32 c 8 = c * 256 := by have := shl32 c 8 (by omega) hc.1 (by omega); simpa using this
  rw [s1, s2, s3]
  obtain ⟨A, rfl⟩ := Int.eq_ofNat_of_zero_le ha.1
  obtain ⟨B, rfl⟩ := Int.eq_ofNat_of_zero_le hb'.1
  obtain ⟨C, rfl⟩ := Int.eq_ofNat_of_zero_le hc.1
  obtain ⟨D, rfl⟩ := Int.eq_ofNat_of_zero_le hd.1
  have o1 : bOr .u32 ((A : Int) * 16777216) ((B : Int) * 65536) = (A : Int) * 16777216 + (B : Int) * 65536 := by
    have := or_add32 (B * 65536) A 24 (by omega) (by omega)
    simpa using this
  have o2 : bOr .u32 ((A : Int) * 16777216 + (B : Int) * 65536) ((C : Int) * 256) = (A : Int) * 16777216 + (B : Int) * 65536 + (C : Int) * 256 := by
    have := or_add32 (C * 256) (A * 256 + B) 16 (by omega) (by omega)
    rw [show (A * 256 + B) * 2 ^ 16 = A * 16777216 + B * 65536 by omega] at this
    simpa using this
  have o3 : bOr .u32 ((A : Int) * 16777216 + (B : Int) * 65536 + (C : Int) * 256) (D : Int) = (A : Int) * 16777216 + (B : Int) * 65536 + (C : Int) * 256 + (D : Int) := by
    have := or_add32 D (A * 65536 + B * 256 + C) 8 (by omega) (by omega)
    rw [show (A * 65536 + B * 256 + C) * 2 ^ 8 = A * 16777216 + B * 65536 + C * 256 by omega] at this
    simpa using this
  rw [o1, o2, o3]
theorem put4_eq (fu : Nat) (b : List Int) (n : Int) (hl : b.length ≤ 900000) (h0 : 0 ≤ n) (h1 : n < 4294967296) : recPutF41 fu b n = some ((b ++ four n, ()), ()) := by
  unfold recPutF41
  have s1 : sShr .u32 n 24 = n / 16777216 := by have := shr32 n 24 (by omega); simpa using this
  have s2 : sShr .u32 n 16 = n / 65536 := by have := shr32 n 16 (by omega); simpa using this
  have s3 : sShr .u32 n 8 = n / 256 := by have := shr32 n 8 (by omega); simpa using this
  simp only [s1, s2, s3, wrap_u8]
  rw [apOk1 (by simp; omega)]
  rfl
theorem ref4_eq (fu : Nat) (n : Int) (h0 : 0 ≤ n) (h1 : n < 4294967296) : ref08Four fu n = some (four n, ()) := by
  unfold ref08Four
  have t1 : ∀ k : Int, 0 < k → IntKind.u32.wrap (Int.tdiv n k) = n / k := fun k hk => by
    rw [Int.tdiv_eq_ediv_of_nonneg h0]
    have : n / k ≤ n := Int.ediv_le_self k h0
    have : 0 ≤ n / k := Int.ediv_nonneg h0 (by omega)
    exact wrap_u32 (by omega) (by omega)
  have t2 : ∀ x : Int, 0 ≤ x → Int.tmod x 256 = x % 256 := fun x hx => Int.tmod_eq_emod_of_nonneg hx
  simp only [t1 16777216 (by omega), t1 65536 (by omega), t1 256 (by omega), wrap_u8, t2 (n / 65536) (by omega), t2 (n / 256) (by omega), t2 n h0]
  unfold four
  have e : n % 256 % 256 = n % 256 := by omega
  have e2 : n / 65536 % 256 % 256 = n / 65536 % 256 := by omega
  have e3 : n / 256 % 256 % 256 = n / 256 % 256 := by omega
  rw [e, e2, e3]
def sumI (b : List Int) : Int := wv (moreB 0#32 b)
theorem sumI_in (b : List Int) : 0 ≤ sumI b ∧ sumI b < 4294967296 := wv_lt _
theorem more_more (a b : List Int) : moreB (moreB 0#32 a) b = moreB 0#32 (a ++ b) := by
  unfold moreB
  rw [BitVec.xor_assoc, BitVec.xor_self, BitVec.xor_zero]
  unfold rowB
  rw [List.foldl_append]
def frame (r : List Int) : List Int := four r.length ++ four (sumI (four r.length ++ r)) ++ r
theorem frame_len (r : List Int) : (frame r).length = 8 + r.length := by unfold frame; simp [four_len]; omega
theorem by_drop {l : List Int} (h : By l) (n : Nat) : By (l.drop n) := fun b hb => h b (List.mem_of_mem_drop hb)
theorem cut_end (b : List Int) (x : Int) : cutL b x b.length = b.drop x.toNat := by
  unfold cutL
  rw [List.take_of_length_le]
  rw [List.length_drop]; omega
theorem recPut_eq (fu : Nat) (hfu : 90000 ≤ fu) (b r : List Int) (hb : By b) (hr : By r) (hl : b.length ≤ 100000) (hrl : r.length ≤ 100000) : recPut fu b r = some (if r.length > 65536 then ([], 4, ()) else (b ++ frame r, 0, ())) := by
  unfold recPut
  by_cases h : r.length > 65536
  · have h' : (r.length : Int) > 65536 := by omega
    simp only [h', decide_true, cond_true, if_pos h]
  · have h' : ¬ (r.length : Int) > 65536 := by omega
    have e1 : IntKind.i64.wrap ((8 : Int) + (r.length : Int)) = 8 + r.length := wrap_i64 (by omega) (by omega)
    have e2 : IntKind.i64.wrap ((b.length : Int) + (8 + (r.length : Int))) = b.length + (8 + r.length) := wrap_i64 (by omega) (by omega)
    have e3 : mkRaw (b.length : Int) ((b.length : Int) + (8 + r.length)) 1 = true := by
      have hL : (1000000 : Int) ≤ (LIM : Int) := by decide
      unfold mkRaw
      simp only [Bool.and_eq_true, decide_eq_true_eq]
      omega
    have e4 : nOk b ((b.length : Int).toNat) = true := by unfold nOk; rw [Int.toNat_natCast]; exact Nat.beq_refl _
    have e5 : IntKind.u32.wrap (r.length : Int) = r.length := wrap_u32 (by omega) (by omega)
    unfold recSize
    simp only [h', decide_false, cond_false, if_neg h, Option.bind_some, e1, e2, e3, e4, e5, chk, cond_true, Bool.and_self]
    rw [put4_eq fu b r.length (by omega) (by omega) (by omega)]
    simp only [Option.bind_some]
    have hl2 : ((b ++ four r.length).length : Int) = b.length + 4 := by simp [four_len]
    rw [cutOk_of (by omega) (by omega) (by omega), cond_true, cut_end, Int.toNat_natCast, List.drop_left]
    rw [sum_eq fu (four r.length) (four_by _) (by simp [four_len]) (by rw [four_len]; omega)]
    simp only [Option.bind_some]
    rw [more_eq fu r hr (by omega) (by omega)]
    simp only [Option.bind_some]
    rw [more_more, put4_eq fu _ _ (by simp [four_len]; omega) (wv_lt _).1 (wv_lt _).2]
    simp only [Option.bind_some]
    rw [apOk1 (by simp [four_len]; omega)]
    simp only [cond_true]
    unfold frame sumI
    simp only [List.append_assoc]
theorem ref8Put_eq (fu : Nat) (hfu : 190000 ≤ fu) (b r : List Int) (hb : By b) (hr : By r) (hl : b.length ≤ 100000) (hrl : r.length ≤ 100000) : ref08Put fu b r = some (if r.length > 65536 then ([], 4, ()) else (b ++ frame r, 0, ())) := by
  unfold ref08Put
  by_cases h : r.length > 65536
  · have h' : (r.length : Int) > 65536 := by omega
    simp only [h', decide_true, cond_true, if_pos h]
  · have h' : ¬ (r.length : Int) > 65536 := by omega
    have e5 : IntKind.u32.wrap (r.length : Int) = r.length := wrap_u32 (by omega) (by omega)
    simp only [h', decide_false, cond_false, if_neg h, e5, ref4_eq fu (r.length : Int) (by omega) (by omega), Option.bind_some, List.nil_append, chk]
    rw [apOk1 (by simp [four_len]), apOk1 (by simp [four_len]; omega), apOk1 (by simp; omega), apOk1 (by simp [four_len]; omega)]
    simp only [cond_true]
    rw [refSum_eq fu (by omega) _ (by_app (four_by _) hr) (by simp [four_len]; omega) (by simp [four_len]; omega)]
    simp only [Option.bind_some]
    rw [ref4_eq fu _ (wv_lt _).1 (wv_lt _).2]
    simp only [Option.bind_some]
    rw [apOk1 (by simp [four_len]; omega), apOk1 (by simp [four_len]; omega)]
    simp only [cond_true]
    unfold frame sumI
    simp only [List.append_assoc]
def got8 (b : List Int) (at' : Int) : List Int × Int × Int :=
  if at' < 0 ∨ at' > (b.length : Int) - 4 then ([], 0, 3)
  else if val4 (b.drop at'.toNat) > 65536 then ([], 0, 4)
  else if 8 + val4 (b.drop at'.toNat) > (b.length : Int) - at' then ([], 0, 3)
  else if sumI (cutL b at' (at' + 4) ++ cutL b (at' + 8) (at' + 8 + val4 (b.drop at'.toNat))) ≠ val4 (b.drop (at' + 4).toNat) then ([], 0, 6)
  else (cutL b (at' + 8) (at' + 8 + val4 (b.drop at'.toNat)), at' + 8 + val4 (b.drop at'.toNat), 0)
theorem clone_eq (fu : Nat) (l : List Int) (hl : l.length ≤ 900000) : slicesCloneDat fu l = some (l, ()) := by
  unfold slicesCloneDat
  cases l with
  | nil =>
    show both _ _ = _
    have : (chk (apOk ([] : List Int) [] 1) (some (([] : List Int) ++ [], ())) : Option (List Int × Unit)) = some ([], ()) := by rw [apOk1 (by simp)]; rfl
    unfold both
    rw [if_pos this.symm]
  | cons x r =>
    show chk (apOk [] (x :: r) 1) _ = _
    rw [apOk1 (by simp at hl ⊢; omega)]
    rfl
theorem recGet_eq (fu : Nat) (b : List Int) (hb : By b) (hl : b.length ≤ 100000) (hfu : b.length < fu) (at' : Int) (h63 : -9223372036854775808 ≤ at' ∧ at' < 9223372036854775808) : recGet fu b at' = some ((got8 b at').1, (got8 b at').2.1, (got8 b at').2.2, ()) := by
  unfold recGet got8
  by_cases h0 : at' < 0
  · have : at' < 0 ∨ at' > (b.length : Int) - 4 := .inl h0
    rw [if_pos this]
    simp only [h0, decide_true, cond_true]
  · have e1 : IntKind.i64.wrap ((b.length : Int) - 4) = b.length - 4 := wrap_i64 (by omega) (by omega)
    by_cases h1 : at' > (b.length : Int) - 4
    · have : at' < 0 ∨ at' > (b.length : Int) - 4 := .inr h1
      rw [if_pos this]
      simp only [h0, h1, e1, decide_true, decide_false, cond_true, cond_false]
    · have h2 : ¬ (at' < 0 ∨ at' > (b.length : Int) - 4) := by omega
      have hd : By (b.drop at'.toNat) := by_drop hb _
      have hdl : 4 ≤ (b.drop at'.toNat).length := by rw [List.length_drop]; omega
      have hv := val4_in hd hdl
      rw [if_neg h2]
      simp only [h0, h1, e1, decide_false, cond_false, cut_end, get4_eq fu hd hdl, Option.bind_some]
      rw [cutOk_of (by omega) (by omega) (Int.le_refl _)]
      simp only [chk, cond_true]
      generalize hn : val4 (b.drop at'.toNat) = n at hv
      by_cases h3 : n > 65536
      · simp only [h3, decide_true, cond_true, if_true]
      · have w1 : IntKind.i64.wrap n = n := wrap_i64 (by omega) (by omega)
        have w2 : IntKind.i64.wrap ((8 : Int) + n) = 8 + n := wrap_i64 (by omega) (by omega)
        have w3 : IntKind.i64.wrap ((b.length : Int) - at') = b.length - at' := wrap_i64 (by omega) (by omega)
        simp only [h3, decide_false, cond_false, if_false, w1, w2, w3]
        by_cases h4 : 8 + n > (b.length : Int) - at'
        · simp only [h4, decide_true, cond_true, if_true]
        · have w4 : IntKind.i64.wrap (at' + 8) = at' + 8 := wrap_i64 (by omega) (by omega)
          have w5 : IntKind.i64.wrap (at' + 8 + n) = at' + 8 + n := wrap_i64 (by omega) (by omega)
          have w6 : IntKind.i64.wrap (at' + 4) = at' + 4 := wrap_i64 (by omega) (by omega)
          have c1 : cutOk b (at' + 8) (at' + 8 + n) = true := cutOk_of (by omega) (by omega) (by omega)
          have c2 : cutOk b at' (at' + 4) = true := cutOk_of (by omega) (by omega) (by omega)
          have c3 : cutOk b (at' + 4) b.length = true := cutOk_of (by omega) (by omega) (by omega)
          have l1 : (cutL b at' (at' + 4)).length ≤ b.length := by unfold cutL; rw [List.length_take, List.length_drop]; omega
          have l2 : (cutL b (at' + 8) (at' + 8 + n)).length ≤ b.length := by unfold cutL; rw [List.length_take, List.length_drop]; omega
          have hd2 : By (b.drop (at' + 4).toNat) := by_drop hb _
          have hdl2 : 4 ≤ (b.drop (at' + 4).toNat).length := by rw [List.length_drop]; omega
          simp only [h4, decide_false, cond_false, if_false, w4, w5, w6, c1, c2, c3, cond_true, sum_eq fu _ (by_cut hb _ _) (Nat.le_trans l1 (by omega)) (Nat.lt_of_le_of_lt l1 hfu), more_eq fu _ (by_cut hb _ _) (Nat.le_trans l2 (by omega)) (Nat.lt_of_le_of_lt l2 hfu), Option.bind_some, more_more, get4_eq fu hd2 hdl2, clone_eq fu _ (Nat.le_trans l2 (by omega))]
          show (cond (sumI (cutL b at' (at' + 4) ++ cutL b (at' + 8) (at' + 8 + n)) != val4 (b.drop (at' + 4).toNat)) _ _ : Option _) = _
          by_cases h5 : sumI (cutL b at' (at' + 4) ++ cutL b (at' + 8) (at' + 8 + n)) = val4 (b.drop (at' + 4).toNat)
          · have : (sumI (cutL b at' (at' + 4) ++ cutL b (at' + 8) (at' + 8 + n)) != val4 (b.drop (at' + 4).toNat)) = false := by rw [h5]; simp
            rw [this, if_neg (fun hx => hx h5)]
            rfl
          · have : (sumI (cutL b at' (at' + 4) ++ cutL b (at' + 8) (at' + 8 + n)) != val4 (b.drop (at' + 4).toNat)) = true := bne_iff_ne.2 h5
            rw [this, if_pos h5]
            rfl
theorem cut_mid8 (a s r : List Int) (x y : Int) (hx : x = a.length) (hy : y = a.length + s.length) : cutL (a ++ s ++ r) x y = s := by
  subst hx hy
  unfold cutL
  rw [show ((a.length : Int) + (s.length : Int) - (a.length : Int)).toNat = s.length by omega, Int.toNat_natCast, List.append_assoc, List.drop_left, List.take_left]
theorem got8_put (a r rest : List Int) (hr : r.length ≤ 65536) : got8 (a ++ frame r ++ rest) a.length = (r, (a.length : Int) + 8 + r.length, 0) := by
  have hd1 : (a ++ frame r ++ rest).drop ((a.length : Int)).toNat = four r.length ++ (four (sumI (four r.length ++ r)) ++ (r ++ rest)) := by
    rw [Int.toNat_natCast, List.append_assoc, List.drop_left]
    unfold frame
    simp only [List.append_assoc]
  have hd2 : (a ++ frame r ++ rest).drop ((a.length : Int) + 4).toNat = four (sumI (four r.length ++ r)) ++ (r ++ rest) := by
    rw [show ((a.length : Int) + 4).toNat = a.length + 4 by omega, ← List.drop_drop]
    rw [Int.toNat_natCast] at hd1
    rw [hd1]
    rw [show 4 = (four r.length).length from rfl, List.drop_left]
  have v1 : val4 ((a ++ frame r ++ rest).drop ((a.length : Int)).toNat) = r.length := by rw [hd1]; exact val_four _ (by omega) (by omega) _
  have hS := sumI_in (four r.length ++ r)
  have v2 : val4 ((a ++ frame r ++ rest).drop ((a.length : Int) + 4).toNat) = sumI (four r.length ++ r) := by rw [hd2]; exact val_four _ hS.1 hS.2 _
  have hl : ((a ++ frame r ++ rest).length : Int) = a.length + 8 + r.length + rest.length := by
    rw [List.length_append, List.length_append, frame_len]; omega
  have c1 : cutL (a ++ frame r ++ rest) (a.length : Int) ((a.length : Int) + 4) = four r.length := by
    have e : a ++ frame r ++ rest = a ++ four r.length ++ (four (sumI (four r.length ++ r)) ++ r ++ rest) := by unfold frame; simp only [List.append_assoc]
    rw [e]; exact cut_mid8 _ _ _ _ _ rfl rfl
  have c2 : cutL (a ++ frame r ++ rest) ((a.length : Int) + 8) ((a.length : Int) + 8 + r.length) = r := by
    have e : a ++ frame r ++ rest = (a ++ four r.length ++ four (sumI (four r.length ++ r))) ++ r ++ rest := by unfold frame; simp only [List.append_assoc]
    rw [e]; exact cut_mid8 _ _ _ _ _ (by simp [four_len] <;> omega) (by simp [four_len] <;> omega)
  unfold got8
  rw [v1, v2, c1, c2, hl, if_neg (by omega), if_neg (by omega), if_neg (by omega), if_neg (fun h => h rfl)]
abbrev Fr : Type := Int × Int × Int × Int × Int × List Int × Unit
structure Has (fu : Nat) (k l : Int) (h0 h1 h2 h3 h4 : Bool) : Prop where
  of : frameOf fu k = some (l, true, ())
  a0 : frameHas fu l 1 = some (h0, ())
  a1 : frameHas fu l 2 = some (h1, ())
  a2 : frameHas fu l 4 = some (h2, ())
  a3 : frameHas fu l 8 = some (h3, ())
  a4 : frameHas fu l 16 = some (h4, ())
  ref : ref20Fields fu k = some ([h0, h1, h2, h3, h4], true, ())
theorem has_kind (fu : Nat) (k : Int) (h0 : 1 ≤ k) (h1 : k ≤ 17) : ∃ l a b c d e, Has fu k l a b c d e := by
  obtain rfl | rfl | rfl | rfl | rfl | rfl | rfl | rfl | rfl | rfl | rfl | rfl | rfl | rfl | rfl | rfl | rfl : k = 1 ∨ k = 2 ∨ k = 3 ∨ k = 4 ∨ k = 5 ∨ k = 6 ∨ k = 7 ∨ k = 8 ∨ k = 9 ∨ k = 10 ∨ k = 11 ∨ k = 12 ∨ k = 13 ∨ k = 14 ∨ k = 15 ∨ k = 16 ∨ k = 17 := by omega
  all_goals exact ⟨_, _, _, _, _, _, rfl, rfl, rfl, rfl, rfl, rfl, rfl⟩
theorem no_kind (fu : Nat) (k : Int) (h : ¬ (1 ≤ k ∧ k ≤ 17)) : frameOf fu k = some (0, false, ()) ∧ ref20Fields fu k = some ([], false, ()) := by
  constructor
  · unfold frameOf
    by_cases h1 : k < 1
    · rw [decide_eq_true h1]; rfl
    · rw [decide_eq_false h1, decide_eq_true (show k > 17 by omega)]; rfl
  · have e : ∀ n : Int, 1 ≤ n → n ≤ 17 → (k == n) = false := fun n a b => ne_beq (by omega)
    unfold ref20Fields ref20Fields.j9010 ref20Fields.j17013 ref20Fields.j21016 ref20Fields.j28022 ref20Fields.j27
    simp only [e 1 (by omega) (by omega), e 2 (by omega) (by omega), e 3 (by omega) (by omega), e 4 (by omega) (by omega), e 5 (by omega) (by omega), e 6 (by omega) (by omega), e 7 (by omega) (by omega), e 8 (by omega) (by omega), e 9 (by omega) (by omega), e 10 (by omega) (by omega), e 11 (by omega) (by omega), e 12 (by omega) (by omega), e 13 (by omega) (by omega), e 14 (by omega) (by omega), e 15 (by omega) (by omega), e 16 (by omega) (by omega), e 17 (by omega) (by omega), cond_false]
def plainB (a b c d e : Bool) (f : Fr) : Bool := (a || decide (f.2.1 = 0)) && ((b || decide (f.2.2.1 = 0)) && ((c || decide (f.2.2.2.1 = 0)) && ((d || decide (f.2.2.2.2.1 = 0)) && (e || decide (f.2.2.2.2.2.1.length = 0)))))
theorem plain_eq {fu : Nat} {f : Fr} {l : Int} {a b c d e : Bool} (h : Has fu f.1 l a b c d e) : framePlain fu f = some (plainB a b c d e f, ()) := by
  have q : ∀ x : Int, (x == 0) = decide (x = 0) := fun x => rfl
  have q2 : decide ((f.2.2.2.2.2.1.length : Int) = 0) = decide (f.2.2.2.2.2.1.length = 0) := decide_eq_decide.2 (by omega)
  unfold framePlain plainB
  simp only [h.of, h.a0, h.a1, h.a2, h.a3, h.a4, Option.bind_some, cond_true, q, q2]
  cases a <;> cases b <;> cases c <;> cases d <;> cases e <;> simp only [cond_true, cond_false, Bool.true_or, Bool.false_or, Bool.true_and] <;> cases decide (f.2.1 = 0) <;> cases decide (f.2.2.1 = 0) <;> cases decide (f.2.2.2.1 = 0) <;> cases decide (f.2.2.2.2.1 = 0) <;> rfl
def opt (h : Bool) (n : Int) : List Int := cond h (putN 9 n) []
def putF (a b c d e : Bool) (f : Fr) : List Int := f.1 :: (opt a f.2.1 ++ (opt b f.2.2.1 ++ (opt c f.2.2.2.1 ++ (opt d f.2.2.2.2.1 ++ cond e (putN 9 f.2.2.2.2.2.1.length ++ f.2.2.2.2.2.1) []))))
def frOk (f : Fr) : Prop := (0 ≤ f.1 ∧ f.1 ≤ 255) ∧ (0 ≤ f.2.1 ∧ f.2.1 ≤ 4294967295) ∧ (0 ≤ f.2.2.1 ∧ f.2.2.1 ≤ 4294967295) ∧ (0 ≤ f.2.2.2.1 ∧ f.2.2.2.1 < 18446744073709551616) ∧ (0 ≤ f.2.2.2.2.1 ∧ f.2.2.2.2.1 < 18446744073709551616) ∧ By f.2.2.2.2.2.1 ∧ f.2.2.2.2.2.1.length ≤ 10000
theorem putD_eq (fu : Nat) (hfu : 12 ≤ fu) (b : List Int) (n : Int) (hl : b.length ≤ 400000) (h0 : 0 ≤ n) (h1 : n < 18446744073709551616) : packPutDat fu b n = some (b ++ putN 9 n, ()) := (put_eq fu hfu b n hl h0 h1).2
theorem opt_len (h : Bool) (n : Int) : (opt h n).length ≤ 10 := by
  have := putN_len 9 n
  unfold opt
  cases h
  · simp
  · exact this.1
theorem body_step (fu : Nat) (hfu : 12 ≤ fu) (k2 : Int → List Int → Fr → Option (List Int × Unit)) (m : Nat) (l : Int) (b : List Int) (v : List (Int × Int × Unit)) (i : Nat) (hi : i < 4) (b0 : Fr) (x n : Int) (h : Bool) (hx : ixL ((0 : Int), (0 : Int), ()) v i = (x, n, ())) (hok : ixOk v i = true) (hh : frameHas fu l x = some (h, ())) (h0 : 0 ≤ n) (h1 : n < 18446744073709551616) (hl : b.length ≤ 400000) :
    frameBody.l4 fu k2 (m + 1) l b v 4 i b0 = frameBody.l4 fu k2 m l (b ++ opt h n) v 4 ((i + 1 : Nat) : Int) b0 := by
  have e1 : IntKind.i64.wrap ((i : Int) + 1) = ((i + 1 : Nat) : Int) := wrap_i64 (by omega) (by omega)
  conv => lhs; unfold frameBody.l4 frameBody.b4
  rw [decide_eq_true (by omega), cond_true, hok, hx]
  simp only [hh, chk, cond_true, Option.bind_some, putD_eq fu hfu b n hl h0 h1, e1]
  cases h
  · simp only [cond_false, opt, List.append_nil]
  · simp only [cond_true, opt]
theorem body_end (fu : Nat) (k2 : Int → List Int → Fr → Option (List Int × Unit)) (m : Nat) (l : Int) (b : List Int) (v : List (Int × Int × Unit)) (b0 : Fr) : frameBody.l4 fu k2 (m + 1) l b v 4 4 b0 = k2 l b b0 := by
  unfold frameBody.l4 frameBody.b4
  rfl
theorem body_eq (m : Nat) (hm : 12 ≤ m) {f : Fr} (hf : frOk f) {l : Int} {a b c d e : Bool} (h : Has (m + 5) f.1 l a b c d e) : frameBody (m + 5) f = some (putF a b c d e f, ()) := by
  obtain ⟨f0, f1, f2, f3, f4, f5, f6⟩ := hf
  have o1 := opt_len a f.2.1
  have o2 := opt_len b f.2.2.1
  have o3 := opt_len c f.2.2.2.1
  have o4 := opt_len d f.2.2.2.2.1
  have e1 : IntKind.u64.wrap f.2.1 = f.2.1 := wrap_u64 (by omega) (by omega)
  have e2 : IntKind.u64.wrap f.2.2.1 = f.2.2.1 := wrap_u64 (by omega) (by omega)
  unfold frameBody
  rw [h.of]
  simp only [Option.bind_some, e1, e2]
  refine (body_step (m + 5) (by omega) _ (m + 4) l [f.1] _ 0 (by omega) f 1 f.2.1 a rfl rfl h.a0 (by omega) (by omega) (by simp)).trans ?_
  refine (body_step (m + 5) (by omega) _ (m + 3) l _ _ 1 (by omega) f 2 f.2.2.1 b rfl rfl h.a1 (by omega) (by omega) (by simp only [List.length_append, List.length_cons, List.length_nil]; omega)).trans ?_
  refine (body_step (m + 5) (by omega) _ (m + 2) l _ _ 2 (by omega) f 4 f.2.2.2.1 c rfl rfl h.a2 (by omega) (by omega) (by simp only [List.length_append, List.length_cons, List.length_nil]; omega)).trans ?_
  refine (body_step (m + 5) (by omega) _ (m + 1) l _ _ 3 (by omega) f 8 f.2.2.2.2.1 d rfl rfl h.a3 (by omega) (by omega) (by simp only [List.length_append, List.length_cons, List.length_nil]; omega)).trans ?_
  refine (body_end (m + 5) _ m l _ _ f).trans ?_
  simp only [h.a4, Option.bind_some]
  unfold putF
  cases e
  · simp only [cond_false, List.append_nil, List.append_assoc, List.cons_append, List.nil_append]
  · rw [putText_eq (m + 5) (by omega) _ _ (by simp only [List.length_append, List.length_cons, List.length_nil]; omega) (by omega)]
    simp only [cond_true, Option.bind_some, List.append_assoc, List.cons_append, List.nil_append]
def outF (a b c d e : Bool) (f : Fr) : List Int × Int := if plainB a b c d e f = true then (if (putF a b c d e f).length > 8192 then ([], 4) else (frame (putF a b c d e f), 0)) else ([], 1)
theorem putF_len (a b c d e : Bool) (f : Fr) : (putF a b c d e f).length ≤ 51 + f.2.2.2.2.2.1.length := by
  have o1 := opt_len a f.2.1
  have o2 := opt_len b f.2.2.1
  have o3 := opt_len c f.2.2.2.1
  have o4 := opt_len d f.2.2.2.2.1
  have o5 := putN_len 9 (f.2.2.2.2.2.1.length)
  unfold putF
  cases e
  · simp only [cond_false, List.length_append, List.length_cons, List.length_nil]; omega
  · simp only [cond_true, List.length_append, List.length_cons]; omega
theorem opt_by (h : Bool) (n : Int) (h0 : 0 ≤ n) (h1 : n < 18446744073709551616) : By (opt h n) := by
  unfold opt
  cases h
  · exact fun _ hx => nomatch hx
  · exact putN_by9 n h0 h1
theorem putF_by (a b c d e : Bool) {f : Fr} (hf : frOk f) : By (putF a b c d e f) := by
  obtain ⟨f0, f1, f2, f3, f4, f5, f6⟩ := hf
  unfold putF
  intro x hx
  rcases List.mem_cons.1 hx with rfl | hx
  · exact f0
  · refine by_app (opt_by a _ (by omega) (by omega)) (by_app (opt_by b _ (by omega) (by omega)) (by_app (opt_by c _ (by omega) (by omega)) (by_app (opt_by d _ (by omega) (by omega)) ?_))) x hx
    cases e
    · exact fun _ hx => nomatch hx
    · exact by_app (putN_by9 _ (by omega) (by omega)) f5
theorem framePut_eq (m : Nat) (hm : 100000 ≤ m) {f : Fr} (hf : frOk f) {l : Int} {a b c d e : Bool} (h : Has (m + 5) f.1 l a b c d e) : framePut (m + 5) f = some ((outF a b c d e f).1, (outF a b c d e f).2, ()) := by
  have hlen := putF_len a b c d e f
  have hby := putF_by a b c d e hf
  have f6 := hf.2.2.2.2.2.2
  unfold framePut outF
  rw [plain_eq h]
  simp only [Option.bind_some]
  by_cases hp : plainB a b c d e f = true
  · rw [body_eq m (by omega) hf h]
    simp only [hp, Bool.not_true, cond_false, Option.bind_some, if_true]
    by_cases hl : (putF a b c d e f).length > 8192
    · simp only [decide_eq_true (show ((putF a b c d e f).length : Int) > 8192 by omega), cond_true, if_pos hl]
    · rw [recPut_eq (m + 5) (by omega) [] _ (fun _ hx => nomatch hx) hby (by simp) (by omega)]
      simp only [decide_eq_false (show ¬ ((putF a b c d e f).length : Int) > 8192 by omega), cond_false, if_neg hl, Option.bind_some, if_neg (show ¬ (putF a b c d e f).length > 65536 by omega), List.nil_append]
  · have hp' : plainB a b c d e f = false := by simpa using hp
    simp [hp']
theorem same20 (fu : Nat) (f : Fr) : ref20Same fu f f = some (true, ()) := by
  unfold ref20Same
  simp only [beq_self_eq_true, cond_true]
theorem fixed20 : law20Fixed 200005 = some (true, ()) := by kernel_rfl
theorem ref_four (fu : Nat) (k2 : (List Int) → Int → (List Int) → Int → Option ((List Int) × Int × Int × Unit)) (b : List Int) (hb : By b) (A : Nat) (hA : A + 4 ≤ b.length) (hl : b.length ≤ 100000) (m : Nat) (hm : 5 ≤ m) (no : List Int) :
    ref08Get.l6 fu k2 m b A no 0 0 = k2 b A no (val4 (b.drop A)) := by
  have hdl : 4 ≤ (b.drop A).length := by rw [List.length_drop]; omega
  obtain ⟨m, rfl⟩ : ∃ q, m = q + 5 := ⟨m - 5, by omega⟩
  obtain ⟨x0, x1, x2, x3, r, hd⟩ := split4 hdl
  have gx : ∀ j : Nat, j < 4 → ixOk b ((A : Int) + j) = true ∧ ixL (0 : Int) b ((A : Int) + j) = ixL (0 : Int) (b.drop A) j := fun j hj => by
    refine ⟨by simp only [ixOk, Bool.and_eq_true, decide_eq_true_eq]; omega, ?_⟩
    unfold ixL
    have e1 : ((A : Int) + (j : Int)).toNat = A + j := by omega
    have e2 : ((j : Int)).toNat = j := by omega
    rw [e1, e2]
    simp only [List.getD, List.getElem?_drop]
  have bx : ∀ x ∈ b.drop A, 0 ≤ x ∧ x ≤ 255 := by_drop hb A
  have h0 := bx x0 (by rw [hd]; simp)
  have h1 := bx x1 (by rw [hd]; simp)
  have h2 := bx x2 (by rw [hd]; simp)
  have h3 := bx x3 (by rw [hd]; simp)
  have step : ∀ (n j : Nat) (q : Nat) (x : Int), j < 4 → ixL (0 : Int) (b.drop A) j = x → 0 ≤ x → x ≤ 255 → n < 16777216 → ref08Get.l6 fu k2 (q + 1) b A no (n : Int) (j : Int) = ref08Get.l6 fu k2 q b A no ((n : Int) * 256 + x) ((j + 1 : Nat) : Int) := fun n j q x hj hx h0 h1 hn => by
    conv => lhs; unfold ref08Get.l6 ref08Get.b6
    obtain ⟨g1, g2⟩ := gx j hj
    have e1 : IntKind.i64.wrap ((n : Int) * 256) = (n : Int) * 256 := wrap_i64 (by omega) (by omega)
    have e2 : IntKind.i64.wrap ((A : Int) + (j : Int)) = (A : Int) + j := wrap_i64 (by omega) (by omega)
    have e3 : IntKind.i64.wrap x = x := wrap_i64 (by omega) (by omega)
    have e4 : IntKind.i64.wrap ((n : Int) * 256 + x) = (n : Int) * 256 + x := wrap_i64 (by omega) (by omega)
    have e5 : IntKind.i64.wrap ((j : Int) + 1) = ((j + 1 : Nat) : Int) := wrap_i64 (by omega) (by omega)
    have hlt : (j : Int) < 4 := by omega
    simp only [hlt, decide_true, cond_true, e1, e2, g1, g2, hx, e3, e4, e5, chk]
  have y0 : ixL (0 : Int) (b.drop A) (0 : Nat) = x0 := by rw [hd]; rfl
  have y1 : ixL (0 : Int) (b.drop A) (1 : Nat) = x1 := by rw [hd]; rfl
  have y2 : ixL (0 : Int) (b.drop A) (2 : Nat) = x2 := by rw [hd]; rfl
  have y3 : ixL (0 : Int) (b.drop A) (3 : Nat) = x3 := by rw [hd]; rfl
  obtain ⟨N0, rfl⟩ := Int.eq_ofNat_of_zero_le h0.1
  obtain ⟨N1, rfl⟩ := Int.eq_ofNat_of_zero_le h1.1
  obtain ⟨N2, rfl⟩ := Int.eq_ofNat_of_zero_le h2.1
  have s0 := step 0 0 (m + 4) N0 (by omega) y0 h0.1 h0.2 (by omega)
  have s1 := step (0 * 256 + N0) 1 (m + 3) N1 (by omega) y1 h1.1 h1.2 (by omega)
  have s2 := step ((0 * 256 + N0) * 256 + N1) 2 (m + 2) N2 (by omega) y2 h2.1 h2.2 (by omega)
  have s3 := step (((0 * 256 + N0) * 256 + N1) * 256 + N2) 3 (m + 1) x3 (by omega) y3 h3.1 h3.2 (by omega)
  simp only [Int.natCast_add, Int.natCast_mul, Int.natCast_zero, Int.natCast_one] at s0 s1 s2 s3
  have c256 : ((256 : Nat) : Int) = 256 := rfl
  rw [c256] at s1 s2 s3
  refine s0.trans (s1.trans (s2.trans (s3.trans ?_)))
  have e : val4 (b.drop A) = (((0 * 256 + (N0 : Int)) * 256 + (N1 : Int)) * 256 + (N2 : Int)) * 256 + x3 := by
    rw [hd]
    show (N0 : Int) * 16777216 + (N1 : Int) * 65536 + (N2 : Int) * 256 + x3 = _
    omega
  rw [e]
  unfold ref08Get.l6 ref08Get.b6
  have h : ¬ (((3 + 1 : Nat) : Int)) < 4 := by decide
  simp only [show ¬ ((3 : Nat) : Int) + 1 < 4 by decide, decide_false, cond_false]
theorem cut_four {b : List Int} (hb : By b) {x : Int} (h0 : 0 ≤ x) (h1 : x + 4 ≤ b.length) : cutL b x (x + 4) = four (val4 (b.drop x.toNat)) := by
  have hdl : 4 ≤ (b.drop x.toNat).length := by rw [List.length_drop]; omega
  obtain ⟨x0, x1, x2, x3, r, hd⟩ := split4 hdl
  have bx : ∀ y ∈ b.drop x.toNat, 0 ≤ y ∧ y ≤ 255 := by_drop hb _
  unfold cutL
  rw [show (x + 4 - x).toNat = 4 by omega]
  rw [hd] at bx ⊢
  rw [four_val x0 x1 x2 x3 (bx _ (by simp)) (bx _ (by simp)) (bx _ (by simp)) (bx _ (by simp))]
  rfl
theorem four_inj {a b : Int} (ha : 0 ≤ a ∧ a < 4294967296) (hb : 0 ≤ b ∧ b < 4294967296) (h : four a = four b) : a = b := by
  have e1 := val_four a ha.1 ha.2 []
  have e2 := val_four b hb.1 hb.2 []
  rw [h] at e1
  exact e1.symm.trans e2
theorem ref8Get_eq (fu : Nat) (hfu : 190000 ≤ fu) (b : List Int) (hb : By b) (hl : b.length ≤ 100000) (at' : Int) (h63 : -9223372036854775808 ≤ at' ∧ at' < 9223372036854775808) : ref08Get fu b at' = some ((got8 b at').1, (got8 b at').2.1, (got8 b at').2.2, ()) := by
  unfold ref08Get got8
  by_cases h0 : at' < 0
  · have : at' < 0 ∨ at' > (b.length : Int) - 4 := .inl h0
    rw [if_pos this]
    simp only [h0, decide_true, cond_true]
  · by_cases h1 : at' > (b.length : Int) - 4
    · have : at' < 0 ∨ at' > (b.length : Int) - 4 := .inr h1
      rw [if_pos this]
      by_cases h1' : at' > (b.length : Int)
      · simp only [h0, h1', decide_true, decide_false, cond_true, cond_false]
      · have e1 : IntKind.i64.wrap ((b.length : Int) - at') = b.length - at' := wrap_i64 (by omega) (by omega)
        have h2 : (b.length : Int) - at' < 4 := by omega
        simp only [h0, h1', e1, h2, decide_true, decide_false, cond_true, cond_false]
    · have h2 : ¬ (at' < 0 ∨ at' > (b.length : Int) - 4) := by omega
      have h1' : ¬ at' > (b.length : Int) := by omega
      have e1 : IntKind.i64.wrap ((b.length : Int) - at') = b.length - at' := wrap_i64 (by omega) (by omega)
      have h2' : ¬ (b.length : Int) - at' < 4 := by omega
      rw [if_neg h2]
      simp only [h0, h1', e1, h2', decide_false, cond_false]
      obtain ⟨A, rfl⟩ := Int.eq_ofNat_of_zero_le (show 0 ≤ at' by omega)
      refine (ref_four fu _ b hb A (by omega) hl fu (by omega) []).trans ?_
      have hd : By (b.drop A) := by_drop hb _
      have hdl : 4 ≤ (b.drop A).length := by rw [List.length_drop]; omega
      have hv := val4_in hd hdl
      have hcut1 := cut_four hb (x := (A : Int)) (by omega) (by omega)
      have hcut2 : 8 + val4 (b.drop A) ≤ (b.length : Int) - A → cutL b ((A : Int) + 4) ((A : Int) + 4 + 4) = four (val4 (b.drop ((A : Int) + 4).toNat)) := fun h => cut_four hb (x := (A : Int) + 4) (by omega) (by omega)
      rw [show ((A : Int)).toNat = A by omega] at hcut1 ⊢
      have hv2 : 8 + val4 (b.drop A) ≤ (b.length : Int) - A → 0 ≤ val4 (b.drop ((A : Int) + 4).toNat) ∧ val4 (b.drop ((A : Int) + 4).toNat) < 4294967296 := fun h => val4_in (by_drop hb _) (by rw [List.length_drop]; omega)
      generalize hn : val4 (b.drop A) = n at hv hcut1 hcut2 hv2
      by_cases h3 : n > 65536
      · simp only [h3, decide_true, cond_true, if_true]
      · have w2 : IntKind.i64.wrap ((8 : Int) + n) = 8 + n := wrap_i64 (by omega) (by omega)
        simp only [h3, decide_false, cond_false, if_false, w2, e1]
        by_cases h4 : 8 + n > (b.length : Int) - A
        · simp only [h4, decide_true, cond_true, if_true]
        · have w4 : IntKind.i64.wrap ((A : Int) + 8) = (A : Int) + 8 := wrap_i64 (by omega) (by omega)
          have w5 : IntKind.i64.wrap ((A : Int) + 8 + n) = (A : Int) + 8 + n := wrap_i64 (by omega) (by omega)
          have c1 : cutOk b ((A : Int) + 8) ((A : Int) + 8 + n) = true := cutOk_of (by omega) (by omega) (by omega)
          have c2 : cutOk b (A : Int) ((A : Int) + 8 + n) = true := cutOk_of (by omega) (by omega) (by omega)
          have l2 : (cutL b ((A : Int) + 8) ((A : Int) + 8 + n)).length = n.toNat := by rw [cut_len (by omega) (by omega) (by omega)]; omega
          simp only [h4, decide_false, cond_false, if_false, w4, w5, c1, c2, cond_true, chk, List.nil_append]
          rw [apOk1 (by rw [l2]; simp; omega)]
          simp only [cond_true]
          rw [ref8Put_eq fu hfu [] _ (fun x hx => by cases hx) (by_cut hb _ _) (by simp) (by rw [l2]; omega), if_neg (by rw [l2]; omega)]
          simp only [Option.bind_some, List.nil_append]
          have hv2 := hv2 (by omega)
          have hcut2 := hcut2 (by omega)
          have whole : cutL b (A : Int) ((A : Int) + 8 + n) = four n ++ cutL b ((A : Int) + 4) ((A : Int) + 4 + 4) ++ cutL b ((A : Int) + 8) ((A : Int) + 8 + n) := by
            rw [← hcut1, List.append_assoc, show (A : Int) + 4 + 4 = (A : Int) + 8 by omega, cut_app (by omega) (by omega) (by omega) (by omega), cut_app (by omega) (by omega) (by omega) (by omega)]
          rw [hcut2] at whole
          have hfr : frame (cutL b ((A : Int) + 8) ((A : Int) + 8 + n)) = four n ++ four (sumI (four n ++ cutL b ((A : Int) + 8) ((A : Int) + 8 + n))) ++ cutL b ((A : Int) + 8) ((A : Int) + 8 + n) := by
            unfold frame
            rw [l2, show ((n.toNat : Nat) : Int) = n by omega]
          rw [hfr, whole, hcut1]
          generalize hS : sumI (four n ++ cutL b ((A : Int) + 8) ((A : Int) + 8 + n)) = S
          have hSin : 0 ≤ S ∧ S < 4294967296 := by rw [← hS]; exact sumI_in _
          by_cases h5 : S = val4 (b.drop ((A : Int) + 4).toNat)
          · rw [← h5, if_neg (fun hx => hx rfl)]
            simp only [bne_self_eq_false, cond_false]
          · have hne : (four n ++ four S ++ cutL b ((A : Int) + 8) ((A : Int) + 8 + n) != four n ++ four (val4 (b.drop ((A : Int) + 4).toNat)) ++ cutL b ((A : Int) + 8) ((A : Int) + 8 + n)) = true := by
              rw [bne_iff_ne]
              intro he
              have he := List.append_cancel_right he
              have he := List.append_cancel_left he
              exact h5 (four_inj hSin hv2 he)
            rw [if_pos h5]
            simp only [hne, cond_true]
theorem got8_end {b : List Int} (hb : By b) {at' : Int} (h : (got8 b at').2.2 = 0) : 0 ≤ at' ∧ at' + 8 ≤ (got8 b at').2.1 ∧ (got8 b at').2.1 ≤ b.length := by
  unfold got8 at h ⊢
  by_cases h0 : at' < 0 ∨ at' > (b.length : Int) - 4
  · rw [if_pos h0] at h; cases h
  · rw [if_neg h0] at h ⊢
    have hv := val4_in (l := b.drop at'.toNat) (by_drop hb _) (by rw [List.length_drop]; omega)
    by_cases h1 : val4 (b.drop at'.toNat) > 65536
    · rw [if_pos h1] at h; cases h
    · rw [if_neg h1] at h ⊢
      by_cases h2 : 8 + val4 (b.drop at'.toNat) > (b.length : Int) - at'
      · rw [if_pos h2] at h; cases h
      · rw [if_neg h2] at h ⊢
        split at h
        · cases h
        · rename_i h3
          rw [if_neg h3]
          simp only
          omega
theorem ref_rounds (fu : Nat) (k1 : Int → Int → Int → Option (Int × Int × Int × Unit)) (b : List Int) (hb : By b) (hl : b.length ≤ 100000) (A : Nat) (hA : A ≤ b.length) : ∀ (m i : Nat) (n : Int), A + i ≤ b.length → b.length < A + i + m → i ≤ 9 → 0 ≤ n → n < 128 ^ i →
    ref03Get.l6 fu k1 m b A n (128 ^ i) i = fin1 k1 (fun _ => k1 0 0 3) A (get1 (b.drop (A + i)) i n) := by
  intro m
  induction m with
  | zero => intro i n h1 h2; omega
  | succ m ih =>
    intro i n h1 h2 hi9 hn0 hn
    unfold ref03Get.l6 ref03Get.b6
    have e0 : IntKind.i64.wrap ((A : Int) + i) = (A + i : Nat) := by rw [wrap_i64 (by omega) (by omega)]; omega
    by_cases hil : A + i < b.length
    · have hd : decide (((A + i : Nat) : Int) ≥ b.length) = false := decide_eq_false (by omega)
      have hix : ixOk b ((A + i : Nat) : Int) = true := by simp [ixOk]; omega
      have e1 : IntKind.i64.wrap ((i : Int) + 1) = (i + 1 : Nat) := wrap_i64 (by omega) (by omega)
      rw [List.drop_eq_getElem_cons hil]
      have hc := hb _ (List.getElem_mem hil)
      simp only [e0, hd, cond_false, chk, hix, cond_true, ixL_get hil]
      generalize b[A + i] = c at hc
      have hp := pow128_9 hi9
      have hle : ∀ q : Int, 0 ≤ q → q ≤ 127 → (i = 9 → q ≤ 1) → q * 128 ^ i + n < 18446744073709551616 := fun q h0 h1 h9 => by
        rcases Nat.lt_or_ge i 9 with h | h
        · have h8 : (128 : Int) ^ i ≤ 72057594037927936 := by
            have h1 : 128 ^ i ≤ 128 ^ 8 := Nat.pow_le_pow_right (by omega) (by omega)
            have e : (128 : Int) ^ i = ((128 ^ i : Nat) : Int) := by norm_cast
            rw [e]
            have : (128 : Nat) ^ 8 = 72057594037927936 := by decide
            omega
          have : q * 128 ^ i ≤ 127 * 72057594037927936 := Int.mul_le_mul h1 h8 (by omega) (by omega)
          omega
        · have : i = 9 := by omega
          subst this
          have := h9 rfl
          have : q * 128 ^ 9 ≤ 1 * 9223372036854775808 := Int.mul_le_mul this (by decide) (by decide) (by omega)
          omega
      have j11 : (i = 9 → c ≤ 1) → ∀ (K0 : List Int → Int → Int → Int → Int → Option (Int × Int × Int × Unit)) (K1 : Int → Int → Int → Option (Int × Int × Int × Unit)), ref03Get.j11 fu K0 K1 b A n (128 ^ i) i c = (if c ≥ 128 then K0 b A (n + (c - 128) * 128 ^ i) (128 ^ (i + 1)) (i + 1 : Nat) else if c = 0 ∧ i > 0 then K1 0 0 2 else K1 (n + c * 128 ^ i) (A + ((i : Int) + 1)) 0) := by
        intro h9 K0 K1
        unfold ref03Get.j11
        have e2 : Int.tmod c 128 = c % 128 := Int.tmod_eq_emod_of_nonneg hc.1
        have e3 : IntKind.u64.wrap (c % 128) = c % 128 := wrap_u64 (by omega) (by omega)
        have hq := hle (c % 128) (by omega) (by omega) (fun h => by have := h9 h; omega)
        have hnn : 0 ≤ (c % 128) * 128 ^ i := Int.mul_nonneg (by omega) (by omega)
        have e4 : IntKind.u64.wrap (c % 128 * 128 ^ i) = c % 128 * 128 ^ i := wrap_u64 hnn (by omega)
        have e5 : IntKind.u64.wrap (n + c % 128 * 128 ^ i) = n + c % 128 * 128 ^ i := wrap_u64 (by omega) (by omega)
        have e7 : IntKind.i64.wrap ((A : Int) + ((i + 1 : Nat) : Int)) = A + ((i : Int) + 1) := by rw [wrap_i64 (by omega) (by omega)]; omega
        simp only [e2, e3, e4, e5, e1, e7]
        by_cases h128 : c ≥ 128
        · have hlt : ¬ c < 128 := by omega
          have hi8 : i ≤ 8 := by
            rcases Nat.lt_or_ge i 9 with h | h
            · omega
            · have := h9 (by omega); omega
          have e8 : IntKind.u64.wrap (128 ^ i * 128) = 128 ^ (i + 1) := by
            rw [Int.pow_succ]
            have h8 : (128 : Int) ^ i ≤ 72057594037927936 := by
              have h1 : 128 ^ i ≤ 128 ^ 8 := Nat.pow_le_pow_right (by omega) (by omega)
              have e : (128 : Int) ^ i = ((128 ^ i : Nat) : Int) := by norm_cast
              rw [e]
              have : (128 : Nat) ^ 8 = 72057594037927936 := by decide
              omega
            exact wrap_u64 (by omega) (by omega)
          have : c % 128 = c - 128 := by omega
          simp only [hlt, decide_false, cond_false, e8, this, if_pos h128]
        · have hlt : c < 128 := by omega
          have : c % 128 = c := by omega
          simp only [hlt, decide_true, cond_true, this, if_neg h128]
          by_cases h0 : c = 0
          · subst h0
            by_cases hi0 : i > 0
            · have hd1 : decide (((i + 1 : Nat) : Int) > 1) = true := decide_eq_true (by omega)
              simp only [beq_self_eq_true, cond_true, hd1, hi0, and_self, if_true]
            · have hd1 : decide (((i + 1 : Nat) : Int) > 1) = false := decide_eq_false (by omega)
              simp only [beq_self_eq_true, cond_true, hd1, cond_false, hi0, and_false, if_false]
          · have h0' : (c == 0) = false := beq_false_of_ne h0
            simp only [h0', cond_false, h0, false_and, if_false]
      unfold get1
      by_cases h9 : i = 9 ∧ c > 1
      · have h9' : ((i : Int) == 9) = true := by rw [h9.1]; rfl
        have h1' : decide (c > 1) = true := decide_eq_true h9.2
        simp [h9', h1', if_pos h9, fin1]
      · have hside : i = 9 → c ≤ 1 := fun h => by
          by_cases hx : c > 1
          · exact absurd ⟨h, hx⟩ h9
          · omega
        rw [if_neg h9]
        have both : ∀ X Y : Option (Int × Int × Int × Unit), (cond ((i : Int) == 9) (cond (decide (c > 1)) X Y) Y) = Y := fun X Y => by
          cases hx : ((i : Int) == 9) with
          | false => rfl
          | true =>
            have : c ≤ 1 := hside (by have := eq_of_beq hx; omega)
            have hd : decide (c > 1) = false := decide_eq_false (by omega)
            simp only [cond_true, hd, cond_false]
        rw [j11 hside, both]
        by_cases h128 : c ≥ 128
        · have hi8 : i ≤ 8 := by
            rcases Nat.lt_or_ge i 9 with h | h
            · omega
            · have := hside (by omega); omega
          rw [if_pos h128, if_pos h128]
          have hq : (c - 128) * 128 ^ i + n < 128 ^ (i + 1) := by
            rw [Int.pow_succ]
            have : (c - 128) * 128 ^ i ≤ 127 * 128 ^ i := Int.mul_le_mul_of_nonneg_right (by omega) (by omega)
            omega
          exact ih (i + 1) _ (by omega) (by omega) (by omega) (by have : 0 ≤ (c - 128) * 128 ^ i := Int.mul_nonneg (by omega) (by omega); omega) (by omega)
        · rw [if_neg h128, if_neg h128]
          by_cases h0 : c = 0 ∧ i > 0
          · rw [if_pos h0, if_pos h0]; simp [fin1]
          · rw [if_neg h0, if_neg h0]; simp [fin1]
    · have hd : decide (((A + i : Nat) : Int) ≥ b.length) = true := decide_eq_true (by omega)
      rw [List.drop_of_length_le (by omega)]
      simp only [e0, hd, cond_true]
      simp [get1, fin1]
theorem refGet_eq (fu : Nat) (b : List Int) (hb : By b) (hl : b.length ≤ 100000) (hfu : b.length < fu) (at' : Int) : ref03Get fu b at' = some ((got b at').1, (got b at').2.1, (got b at').2.2, ()) := by
  unfold ref03Get got
  by_cases h1 : at' < 0
  · simp [h1]
  · by_cases h2 : at' > b.length
    · simp [h1, h2]
    · obtain ⟨A, rfl⟩ := Int.eq_ofNat_of_zero_le (show 0 ≤ at' by omega)
      have := ref_rounds fu (fun a c d => some (a, c, d, ())) b hb hl A (by omega) fu 0 0 (by omega) (by omega) (by omega) (by omega) (by simp)
      simp only [h1, h2, or_self, if_false, decide_false, cond_false]
      refine this.trans ?_
      simp only [Nat.add_zero, Int.toNat_natCast]
      generalize hq : get1 (b.drop A) 0 0 = q
      unfold fin1 from1
      by_cases h0 : q.2.2 = 0
      · simp [h0]
      · have hz := get1_err (b.drop A) 0 0
        rw [hq] at hz
        by_cases h3 : q.2.2 = 3
        · simp [h3, hz h0]
        · simp [h0, h3, hz h0]
theorem refGetText_eq (fu : Nat) (b : List Int) (hb : By b) (hl : b.length ≤ 100000) (hfu : b.length < fu) (at' most : Int) (hm : -9223372036854775808 ≤ most ∧ most < 9223372036854775808) : ref03GetText fu b at' most = some ((text1 b at' most).1, (text1 b at' most).2.1, (text1 b at' most).2.2, ()) := by
  unfold ref03GetText text1
  rw [refGet_eq fu b hb hl hfu]
  generalize hq : got b at' = q
  obtain ⟨v, e, er⟩ := q
  simp only [Option.bind_some]
  by_cases h : er = 0
  · subst h
    obtain ⟨g1, g2, g3, j, g4, g5, g6, g7⟩ := got_ok hb hq
    have key : ∀ mm : Int, mm = max most 0 → ref03GetText.j6 fu (fun a c d => some (a, c, d, ())) b mm v e = some ((if v > max most 0 then (([] : List Int), (0 : Int), (4 : Int)) else if v > b.length - e then ([], 0, 3) else (cutL b e (e + v), e + v, 0)).1, (if v > max most 0 then (([] : List Int), (0 : Int), (4 : Int)) else if v > b.length - e then ([], 0, 3) else (cutL b e (e + v), e + v, 0)).2.1, (if v > max most 0 then (([] : List Int), (0 : Int), (4 : Int)) else if v > b.length - e then ([], 0, 3) else (cutL b e (e + v), e + v, 0)).2.2, ()) := fun mm hmm => by
      unfold ref03GetText.j6
      have e1 : IntKind.u64.wrap mm = max most 0 := by rw [hmm]; exact wrap_u64 (by omega) (by omega)
      have e2 : IntKind.u64.wrap (b.length : Int) = b.length := wrap_u64 (by omega) (by omega)
      have e3 : IntKind.i64.wrap ((b.length : Int) - e) = b.length - e := wrap_i64 (by omega) (by omega)
      simp only [e1, e2, e3]
      by_cases h1 : v > max most 0
      · simp [h1]
      · by_cases h2 : v > b.length
        · have h2' : v > b.length - e := by omega
          simp only [h1, h2, h2', decide_false, decide_true, cond_false, cond_true, if_false, if_true]
        · have e4 : IntKind.i64.wrap v = v := wrap_i64 (by omega) (by omega)
          have e5 : IntKind.i64.wrap (e + v) = e + v := wrap_i64 (by omega) (by omega)
          by_cases h3 : v > b.length - e
          · simp only [h1, h2, h3, e4, decide_false, decide_true, cond_false, cond_true, if_false, if_true]
          · simp only [h1, h2, h3, e4, e5, decide_false, cond_false, if_false, cutOk_of (show 0 ≤ e by omega) (show e ≤ e + v by omega) (show e + v ≤ b.length by omega), chk, cond_true]
    simp only [bne_self_eq_false, cond_false, ne_eq, not_true_eq_false, if_false]
    by_cases hlt : most < 0
    · simp only [hlt, decide_true, cond_true]
      exact key 0 (by omega)
    · simp only [hlt, decide_false, cond_false]
      exact key most (by omega)
  · have h' : (er != 0) = true := bne_iff_ne.2 h
    simp [h, h']
theorem text_short {b : List Int} (hb : By b) {at' e : Int} {s : List Int} (hq : text1 b at' 255 = (s, e, 0)) : s.length ≤ 255 ∧ By s := by
  unfold text1 at hq
  split at hq
  · rename_i h0
    simp only [Prod.mk.injEq] at hq
    exact absurd hq.2.2 h0
  · split at hq
    · cases hq
    · split at hq
      · cases hq
      · rename_i _ h1 h2
        simp only [Prod.mk.injEq, and_true] at hq
        obtain ⟨rfl, rfl⟩ := hq
        refine ⟨?_, by_cut hb _ _⟩
        unfold cutL
        rw [List.length_take]
        omega
theorem ixOkN {α : Type} {l : List α} {i : Nat} (h : i < l.length) : ixOk l (i : Int) = true := by unfold ixOk; simp; omega
/-! ### A written frame is its record -/
theorem got8_frame {b r : List Int} (hb : By b) {e : Int} (h : got8 b 0 = (r, e, 0)) (he : ¬ e < (b.length : Int)) : b = frame r ∧ By r ∧ r.length ≤ 65536 := by
  unfold got8 at h
  split at h
  · cases h
  · rename_i h0
    have hdl : 4 ≤ (b.drop (0 : Int).toNat).length := by simp; omega
    have hv := val4_in (l := b.drop (0 : Int).toNat) (by_drop hb _) hdl
    have hcut1 := cut_four hb (x := 0) (by omega) (by omega)
    have hcut2 : 8 + val4 (b.drop (0 : Int).toNat) ≤ (b.length : Int) - 0 → cutL b ((0 : Int) + 4) ((0 : Int) + 4 + 4) = four (val4 (b.drop ((0 : Int) + 4).toNat)) := fun h => cut_four hb (x := (0 : Int) + 4) (by omega) (by omega)
    generalize hn : val4 (b.drop (0 : Int).toNat) = n at h hv hcut1 hcut2
    split at h
    · cases h
    · rename_i h1
      split at h
      · cases h
      · rename_i h2
        split at h
        · cases h
        · rename_i h3
          simp only [Prod.mk.injEq, and_true] at h
          obtain ⟨hr, hE⟩ := h
          have h3 : sumI (cutL b 0 (0 + 4) ++ cutL b (0 + 8) (0 + 8 + n)) = val4 (b.drop ((0 : Int) + 4).toNat) := Classical.not_not.1 h3
          have hcut2 := hcut2 (by omega)
          have l2 : r.length = n.toNat := by rw [← hr, cut_len (by omega) (by omega) (by omega)]; omega
          refine ⟨?_, hr ▸ by_cut hb _ _, by omega⟩
          have whole : cutL b 0 (0 + 8 + n) = cutL b 0 (0 + 4) ++ cutL b ((0 : Int) + 4) ((0 : Int) + 4 + 4) ++ cutL b (0 + 8) (0 + 8 + n) := by
            rw [List.append_assoc, show (0 : Int) + 4 + 4 = 0 + 8 by omega, cut_app (by omega) (by omega) (by omega) (by omega), cut_app (by omega) (by omega) (by omega) (by omega)]
          have hall : cutL b 0 (0 + 8 + n) = b := by
            unfold cutL
            rw [show (0 : Int).toNat = 0 from rfl, List.drop_zero, List.take_of_length_le (by omega)]
          rw [hall, hcut2, ← h3, hcut1, hr] at whole
          unfold frame
          rw [l2, show ((n.toNat : Nat) : Int) = n by omega]
          exact whole
/-! ### What a body says -/
def noFr : Fr := ((0 : Int), (0 : Int), (0 : Int), (0 : Int), (0 : Int), ([] : List Int), ())
/-- A number, if it is there: it, where it ends, the error. -/
def num1 (h : Bool) (most : Int) (P : List Int) (at' : Int) : Int × Int × Int :=
  cond h (if (got P at').2.2 = 0 then (if (got P at').1 > most then ((got P at').1, (got P at').2.1, 5) else ((got P at').1, (got P at').2.1, 0)) else ((got P at').1, (got P at').2.1, (got P at').2.2)) (0, at', 0)
def txt1 (h : Bool) (P : List Int) (at' : Int) : List Int × Int × Int := cond h (text1 P at' 8192) ([], at', 0)
def fin5 (k n0 n1 n2 n3 : Int) (P : List Int) (r : List Int × Int × Int) : Fr × Int :=
  if r.2.2 ≠ 0 then (noFr, r.2.2) else if r.2.1 < (P.length : Int) then (noFr, 2) else ((k, n0, n1, n2, n3, r.1, ()), 0)
def fin4 (k n0 n1 n2 : Int) (e : Bool) (P : List Int) (r : Int × Int × Int) : Fr × Int :=
  if r.2.2 ≠ 0 then (noFr, r.2.2) else fin5 k n0 n1 n2 r.1 P (txt1 e P r.2.1)
def fin3 (k n0 n1 : Int) (d e : Bool) (P : List Int) (r : Int × Int × Int) : Fr × Int :=
  if r.2.2 ≠ 0 then (noFr, r.2.2) else fin4 k n0 n1 r.1 e P (num1 d 18446744073709551615 P r.2.1)
def fin2g (k n0 : Int) (c d e : Bool) (P : List Int) (r : Int × Int × Int) : Fr × Int :=
  if r.2.2 ≠ 0 then (noFr, r.2.2) else fin3 k n0 r.1 d e P (num1 c 18446744073709551615 P r.2.1)
def fin1g (k : Int) (b c d e : Bool) (P : List Int) (r : Int × Int × Int) : Fr × Int :=
  if r.2.2 ≠ 0 then (noFr, r.2.2) else fin2g k r.1 c d e P (num1 b 4294967295 P r.2.1)
def dec (k : Int) (a b c d e : Bool) (P : List Int) : Fr × Int := fin1g k b c d e P (num1 a 4294967295 P 1)
theorem num1_in (h : Bool) (most : Int) {P : List Int} (hb : By P) (at' : Int) (hz : (num1 h most P at').2.2 = 0) (hm : 0 ≤ most) : 0 ≤ (num1 h most P at').1 ∧ (num1 h most P at').1 ≤ most ∧ (num1 h most P at').1 < 18446744073709551616 := by
  have hv := got_v hb at'
  unfold num1 at hz ⊢
  cases h with
  | false => exact ⟨Int.le_refl _, hm, by show (0 : Int) < _; omega⟩
  | true =>
    simp only [cond_true] at hz ⊢
    split at hz
    · rename_i h0
      rw [if_pos h0]
      split at hz
      · cases hz
      · rename_i h1
        rw [if_neg h1]
        exact ⟨hv.1, by show (got P at').1 ≤ most; omega, hv.2⟩
    · rename_i h0
      exact absurd hz h0
theorem num_eq (fu : Nat) {P : List Int} {l field most at' : Int} {h : Bool} (hb : By P) (hl : P.length ≤ 100000) (hfu : P.length < fu) (hh : frameHas fu l field = some (h, ())) :
    frameReaderNumber fu (P, at', l, (0 : Int), ()) field most = some (((num1 h most P at').1, ()), ((P, (num1 h most P at').2.1, l, (num1 h most P at').2.2, ()), ())) := by
  have b0 : ((0 : Int) != 0) = false := rfl
  unfold frameReaderNumber num1
  simp only [b0, cond_false, hh, Option.bind_some]
  cases h with
  | false => rfl
  | true =>
    simp only [Bool.not_true, cond_false, cond_true, packGet_eq fu P hb hl hfu, Option.bind_some, frameReaderNumber.j6]
    by_cases h0 : (got P at').2.2 = 0
    · have : ((got P at').2.2 == 0) = true := by rw [h0]; rfl
      rw [if_pos h0, this, cond_true]
      by_cases h1 : (got P at').1 > most
      · rw [decide_eq_true h1, if_pos h1]; rfl
      · rw [decide_eq_false h1, if_neg h1, h0]; rfl
    · rw [if_neg h0, ne_beq h0]; rfl
theorem num_skip (fu : Nat) {P : List Int} {l field most at' er : Int} (he : er ≠ 0) : frameReaderNumber fu (P, at', l, er, ()) field most = some (((0 : Int), ()), ((P, at', l, er, ()), ())) := by
  unfold frameReaderNumber
  simp only [ne_bne he, cond_true]
theorem text_skip (fu : Nat) {P : List Int} {l at' er : Int} (he : er ≠ 0) : frameReaderText fu (P, at', l, er, ()) = some (([], ()), ((P, at', l, er, ()), ())) := by
  unfold frameReaderText
  simp only [ne_bne he, cond_true]
theorem txt_eq (fu : Nat) {P : List Int} {l at' : Int} {h : Bool} (hb : By P) (hl : P.length ≤ 100000) (hfu : P.length < fu) (hh : frameHas fu l 16 = some (h, ())) :
    frameReaderText fu (P, at', l, (0 : Int), ()) = some (((txt1 h P at').1, ()), ((P, (txt1 h P at').2.1, l, (txt1 h P at').2.2, ()), ())) := by
  have b0 : ((0 : Int) != 0) = false := rfl
  unfold frameReaderText txt1
  simp only [b0, cond_false, hh, Option.bind_some]
  cases h with
  | false => rfl
  | true =>
    simp only [Bool.not_true, cond_false, cond_true]
    rw [getText_eq fu P hb hl hfu _ _ (by omega)]
    rfl
theorem body_dec (fu : Nat) {k : Int} {r : List Int} {l : Int} {a b c d e : Bool} (hP : By (k :: r)) (hl : (k :: r).length ≤ 8192) (hfu : 10000 < fu) (h : Has fu k l a b c d e) : frameBodyF31 fu (k :: r) = some ((dec k a b c d e (k :: r)).1, (dec k a b c d e (k :: r)).2, ()) := by
  have b1 : ((0 : Int) == 0) = true := rfl
  have hne : (((k :: r).length : Int) == 0) = false := ne_beq (by simp; omega)
  have i0 : ixOk (k :: r) (0 : Int) = true := by unfold ixOk; simp
  have i1 : ixL (0 : Int) (k :: r) (0 : Int) = k := rfl
  generalize k :: r = P at *
  unfold frameBodyF31 dec
  simp only [hne, cond_false, decide_eq_false (show ¬ (P.length : Int) > 8192 by omega), i0, i1, chk, cond_true, h.of, Option.bind_some, Bool.not_true]
  rw [num_eq fu hP (by omega) (by omega) h.a0]
  simp only [Option.bind_some]
  have p1 := num1_in a 4294967295 hP 1
  generalize num1 a 4294967295 P 1 = r1 at p1
  unfold fin1g
  by_cases e1 : r1.2.2 = 0
  · have p1 := p1 e1 (by omega)
    rw [e1, num_eq fu hP (by omega) (by omega) h.a1, if_neg (fun q => q rfl)]
    simp only [Option.bind_some]
    have p2 := num1_in b 4294967295 hP r1.2.1
    generalize num1 b 4294967295 P r1.2.1 = r2 at p2
    unfold fin2g
    by_cases e2 : r2.2.2 = 0
    · have p2 := p2 e2 (by omega)
      rw [e2, num_eq fu hP (by omega) (by omega) h.a2, if_neg (fun q => q rfl)]
      simp only [Option.bind_some]
      generalize num1 c 18446744073709551615 P r2.2.1 = r3
      unfold fin3
      by_cases e3 : r3.2.2 = 0
      · rw [e3, num_eq fu hP (by omega) (by omega) h.a3, if_neg (fun q => q rfl)]
        simp only [Option.bind_some]
        generalize num1 d 18446744073709551615 P r3.2.1 = r4
        unfold fin4
        by_cases e4 : r4.2.2 = 0
        · rw [e4, txt_eq fu hP (by omega) (by omega) h.a4, if_neg (fun q => q rfl)]
          simp only [Option.bind_some]
          generalize txt1 e P r4.2.1 = r5
          unfold fin5
          have w1 : IntKind.u32.wrap r1.1 = r1.1 := wrap_u32 (by omega) (by omega)
          have w2 : IntKind.u32.wrap r2.1 = r2.1 := wrap_u32 (by omega) (by omega)
          by_cases e5 : r5.2.2 = 0
          · rw [e5, b1, if_neg (fun q => q rfl)]
            by_cases e6 : r5.2.1 < (P.length : Int)
            · rw [decide_eq_true e6, if_pos e6]; rfl
            · rw [decide_eq_false e6, if_neg e6, w1, w2]; rfl
          · rw [ne_beq e5, if_pos e5]
            simp only [cond_false, frameBodyF31.j17, ne_bne e5, cond_true]; rfl
        · rw [text_skip fu e4, if_pos e4]
          simp only [Option.bind_some, ne_beq e4, cond_false, frameBodyF31.j17, ne_bne e4, cond_true]; rfl
      · rw [num_skip fu e3, if_pos e3]
        simp only [Option.bind_some]
        rw [text_skip fu e3]
        simp only [Option.bind_some, ne_beq e3, cond_false, frameBodyF31.j17, ne_bne e3, cond_true]; rfl
    · rw [num_skip fu e2, if_pos e2]
      simp only [Option.bind_some]
      rw [num_skip fu e2]
      simp only [Option.bind_some]
      rw [text_skip fu e2]
      simp only [Option.bind_some, ne_beq e2, cond_false, frameBodyF31.j17, ne_bne e2, cond_true]; rfl
  · rw [num_skip fu e1, if_pos e1]
    simp only [Option.bind_some]
    rw [num_skip fu e1]
    simp only [Option.bind_some]
    rw [num_skip fu e1]
    simp only [Option.bind_some]
    rw [text_skip fu e1]
    simp only [Option.bind_some, ne_beq e1, cond_false, frameBodyF31.j17, ne_bne e1, cond_true]; rfl
theorem text_len8 {P : List Int} (hb : By P) (at' : Int) : (text1 P at' 8192).1.length ≤ P.length := by
  unfold text1
  split
  · simp
  · split
    · simp
    · split
      · simp
      · unfold cutL
        simp only [List.length_take, List.length_drop]
        omega
theorem rb_step (fu : Nat) k1 k2 (m : Nat) {P : List Int} (hb : By P) (hl : P.length ≤ 100000) (hfu : P.length < fu) (hs : List Bool) (i : Nat) (hi : i < 4) (at' most : Int) (h : Bool) (c0 c1 c2 c3 c4 : Int) (c5 : List Int) (d0 d1 d2 d3 d4 : Int) (d5 : List Int) (w : List Int) (hw : w.length = 4) (hz : w.set i 0 = w) (hx : ixL false hs i = h) (hok : ixOk hs i = true) (hm : i < 2 → most = 4294967295) (hm' : 2 ≤ i → most = 18446744073709551615) :
    ref20Body.l12 fu k1 k2 (m + 1) P hs at' 4 i c0 c1 c2 c3 c4 c5 d0 d1 d2 d3 d4 d5 w = if (num1 h most P at').2.2 ≠ 0 then k1 (num1 h most P at').2.2 d0 d1 d2 d3 d4 d5 else ref20Body.l12 fu k1 k2 m P hs (num1 h most P at').2.1 4 ((i + 1 : Nat) : Int) c0 c1 c2 c3 c4 c5 d0 d1 d2 d3 d4 d5 (w.set i (num1 h most P at').1) := by
  have e1 : IntKind.i64.wrap ((i : Int) + 1) = ((i + 1 : Nat) : Int) := wrap_i64 (by omega) (by omega)
  have e2 : ixArr 4 (i : Int) = true := by unfold ixArr; simp; omega
  have e3 : nOk w 4 = true := by unfold nOk; rw [hw]; rfl
  have hv := got_v hb at'
  conv => lhs; unfold ref20Body.l12 ref20Body.b12
  rw [decide_eq_true (show ((i : Int) < 4) by omega), cond_true, hok, hx]
  unfold num1
  cases h with
  | false =>
    simp only [chk, cond_true, Bool.not_false, e1, cond_false, hz]
    rw [if_neg (fun q => q rfl)]
  | true =>
    simp only [chk, cond_true, Bool.not_true, cond_false, refGet_eq fu P hb hl hfu, Option.bind_some, e1, e2, e3, stL, Int.toNat_natCast]
    by_cases h0 : (got P at').2.2 = 0
    · have q : ((got P at').2.2 != 0) = false := by rw [h0]; rfl
      rw [q, cond_false, if_pos h0]
      by_cases h2 : i < 2
      · rw [decide_eq_true (show (i : Int) < 2 by omega), cond_true, hm h2]
        by_cases h1 : (got P at').1 > 4294967295
        · rw [decide_eq_true h1, if_pos h1]
          rw [if_pos (show (5 : Int) ≠ 0 by decide)]; rfl
        · rw [decide_eq_false h1, if_neg h1]
          rw [if_neg (fun q => q rfl)]; rfl
      · rw [decide_eq_false (show ¬ (i : Int) < 2 by omega), cond_false, hm' (by omega)]
        have h1 : ¬ (got P at').1 > 18446744073709551615 := by omega
        rw [if_neg h1]
        rw [if_neg (fun q => q rfl)]
    · rw [ne_bne h0, cond_true, if_neg h0]
      rw [if_pos h0]
theorem rb_end (fu : Nat) k1 k2 (m : Nat) (P : List Int) (hs : List Bool) (at' : Int) (c0 c1 c2 c3 c4 : Int) (c5 : List Int) (d0 d1 d2 d3 d4 : Int) (d5 : List Int) (w : List Int) : ref20Body.l12 fu k1 k2 (m + 1) P hs at' 4 4 c0 c1 c2 c3 c4 c5 d0 d1 d2 d3 d4 d5 w = k2 P hs at' c0 c1 c2 c3 c4 c5 d0 d1 d2 d3 d4 d5 w := by
  unfold ref20Body.l12 ref20Body.b12
  rfl
theorem refBody_dec (m : Nat) {k : Int} {r : List Int} {l : Int} {a b c d e : Bool} (hP : By (k :: r)) (hl : (k :: r).length ≤ 8192) (hm : 10000 < m) (h : Has (m + 5) k l a b c d e) : ref20Body (m + 5) (k :: r) = some ((dec k a b c d e (k :: r)).1, (dec k a b c d e (k :: r)).2, ()) := by
  have hne : (((k :: r).length : Int) == 0) = false := ne_beq (by simp; omega)
  have i0 : ixOk (k :: r) (0 : Int) = true := by unfold ixOk; simp
  have i1 : ixL (0 : Int) (k :: r) (0 : Int) = k := rfl
  generalize k :: r = P at *
  unfold ref20Body dec
  simp only [hne, cond_false, decide_eq_false (show ¬ (P.length : Int) > 8192 by omega), i0, i1, chk, cond_true, h.ref, Option.bind_some, Bool.not_true]
  refine (rb_step (m + 5) _ _ (m + 4) hP (by omega) (by omega) [a, b, c, d, e] 0 (by omega) 1 4294967295 a 0 0 0 0 0 [] 0 0 0 0 0 [] [0, 0, 0, 0] rfl rfl rfl rfl (fun _ => rfl) (by omega)).trans ?_
  have p1 := num1_in a 4294967295 hP 1
  generalize num1 a 4294967295 P 1 = r1 at p1
  unfold fin1g
  by_cases e1 : r1.2.2 = 0
  · have p1 := p1 e1 (by omega)
    rw [if_neg (fun q => q e1), if_neg (fun q => q e1)]
    refine (rb_step (m + 5) _ _ (m + 3) hP (by omega) (by omega) [a, b, c, d, e] 1 (by omega) r1.2.1 4294967295 b 0 0 0 0 0 [] 0 0 0 0 0 [] [r1.1, 0, 0, 0] rfl rfl rfl rfl (fun _ => rfl) (by omega)).trans ?_
    have p2 := num1_in b 4294967295 hP r1.2.1
    generalize num1 b 4294967295 P r1.2.1 = r2 at p2
    unfold fin2g
    by_cases e2 : r2.2.2 = 0
    · have p2 := p2 e2 (by omega)
      rw [if_neg (fun q => q e2), if_neg (fun q => q e2)]
      refine (rb_step (m + 5) _ _ (m + 2) hP (by omega) (by omega) [a, b, c, d, e] 2 (by omega) r2.2.1 18446744073709551615 c 0 0 0 0 0 [] 0 0 0 0 0 [] [r1.1, r2.1, 0, 0] rfl rfl rfl rfl (by omega) (fun _ => rfl)).trans ?_
      generalize num1 c 18446744073709551615 P r2.2.1 = r3
      unfold fin3
      by_cases e3 : r3.2.2 = 0
      · rw [if_neg (fun q => q e3), if_neg (fun q => q e3)]
        refine (rb_step (m + 5) _ _ (m + 1) hP (by omega) (by omega) [a, b, c, d, e] 3 (by omega) r3.2.1 18446744073709551615 d 0 0 0 0 0 [] 0 0 0 0 0 [] [r1.1, r2.1, r3.1, 0] rfl rfl rfl rfl (by omega) (fun _ => rfl)).trans ?_
        generalize num1 d 18446744073709551615 P r3.2.1 = r4
        unfold fin4
        by_cases e4 : r4.2.2 = 0
        · rw [if_neg (fun q => q e4), if_neg (fun q => q e4)]
          refine (rb_end (m + 5) _ _ m P [a, b, c, d, e] r4.2.1 0 0 0 0 0 [] 0 0 0 0 0 [] [r1.1, r2.1, r3.1, r4.1]).trans ?_
          have w1 : IntKind.u32.wrap r1.1 = r1.1 := wrap_u32 (by omega) (by omega)
          have w2 : IntKind.u32.wrap r2.1 = r2.1 := wrap_u32 (by omega) (by omega)
          have a0 : ixArr 4 (0 : Int) = true := rfl
          have a1 : ixArr 4 (1 : Int) = true := rfl
          have a2 : ixArr 4 (2 : Int) = true := rfl
          have a3 : ixArr 4 (3 : Int) = true := rfl
          have n0 : nOk [r1.1, r2.1, r3.1, r4.1] 4 = true := rfl
          have x0 : ixL (0 : Int) [r1.1, r2.1, r3.1, r4.1] (0 : Int) = r1.1 := rfl
          have x1 : ixL (0 : Int) [r1.1, r2.1, r3.1, r4.1] (1 : Int) = r2.1 := rfl
          have x2 : ixL (0 : Int) [r1.1, r2.1, r3.1, r4.1] (2 : Int) = r3.1 := rfl
          have x3 : ixL (0 : Int) [r1.1, r2.1, r3.1, r4.1] (3 : Int) = r4.1 := rfl
          have y0 : ixOk [a, b, c, d, e] (4 : Int) = true := rfl
          have y1 : ixL false [a, b, c, d, e] (4 : Int) = e := rfl
          simp only [i0, i1, a0, a1, a2, a3, n0, x0, x1, x2, x3, y0, y1, w1, w2, cond_true]
          unfold txt1 fin5
          cases e with
          | false =>
            simp only [cond_false, ref20Body.j31]
            rw [if_neg (fun q => q rfl)]
            by_cases e6 : r4.2.1 < (P.length : Int)
            · rw [decide_eq_true e6, if_pos e6]; rfl
            · rw [decide_eq_false e6, if_neg e6]; rfl
          | true =>
            simp only [cond_true]
            rw [refGetText_eq (m + 5) P hP (by omega) (by omega) _ _ (by omega)]
            have hts := text_len8 hP r4.2.1
            generalize text1 P r4.2.1 8192 = r5 at hts
            simp only [Option.bind_some]
            by_cases e5 : r5.2.2 = 0
            · have q : (r5.2.2 != 0) = false := by rw [e5]; rfl
              rw [q, cond_false, apOk1 (by simp; omega), cond_true, if_neg (fun q => q e5)]
              unfold ref20Body.j31
              by_cases e6 : r5.2.1 < (P.length : Int)
              · rw [decide_eq_true e6, if_pos e6]; rfl
              · rw [decide_eq_false e6, if_neg e6]; simp
            · rw [ne_bne e5, cond_true, if_pos e5]; rfl
        · rw [if_pos e4, if_pos e4]; rfl
      · rw [if_pos e3, if_pos e3]; rfl
    · rw [if_pos e2, if_pos e2]; rfl
  · rw [if_pos e1, if_pos e1]; rfl
theorem num_ok {h : Bool} {most : Int} {P : List Int} (hb : By P) {at' : Int} (h0 : 0 ≤ at') (h1 : at' ≤ P.length) (hz : (num1 h most P at').2.2 = 0) :
    at' ≤ (num1 h most P at').2.1 ∧ (num1 h most P at').2.1 ≤ P.length ∧ cutL P at' (num1 h most P at').2.1 = opt h (num1 h most P at').1 ∧ (h || decide ((num1 h most P at').1 = 0)) = true := by
  unfold num1 at hz ⊢
  cases h with
  | false =>
    refine ⟨Int.le_refl _, h1, ?_, rfl⟩
    show cutL P at' at' = []
    unfold cutL
    rw [Int.sub_self]
    rfl
  | true =>
    simp only [cond_true] at hz ⊢
    split at hz
    · rename_i hq
      rw [if_pos hq]
      split at hz
      · cases hz
      · rename_i h2
        rw [if_neg h2]
        obtain ⟨g1, g2, g3, j, g4, g5, g6, g7⟩ := got_ok hb (show got P at' = ((got P at').1, (got P at').2.1, 0) by rw [← hq])
        exact ⟨by show at' ≤ (got P at').2.1; omega, by show (got P at').2.1 ≤ _; omega, g7, rfl⟩
    · rename_i hq
      exact absurd hz hq
theorem txt_ok {h : Bool} {P : List Int} (hb : By P) {at' : Int} (h0 : 0 ≤ at') (h1 : at' ≤ P.length) (hz : (txt1 h P at').2.2 = 0) :
    at' ≤ (txt1 h P at').2.1 ∧ (txt1 h P at').2.1 ≤ P.length ∧ cutL P at' (txt1 h P at').2.1 = cond h (putN 9 (txt1 h P at').1.length ++ (txt1 h P at').1) [] ∧ (h || decide ((txt1 h P at').1.length = 0)) = true ∧ By (txt1 h P at').1 ∧ (txt1 h P at').1.length ≤ P.length := by
  unfold txt1 at hz ⊢
  cases h with
  | false =>
    refine ⟨Int.le_refl _, h1, ?_, rfl, (fun x hx => by cases hx), by simp⟩
    show cutL P at' at' = []
    unfold cutL
    rw [Int.sub_self]
    rfl
  | true =>
    simp only [cond_true] at hz ⊢
    obtain ⟨g1, g2, g3, g4, g5⟩ := text_ok hb (show text1 P at' 8192 = ((text1 P at' 8192).1, (text1 P at' 8192).2.1, 0) by rw [← hz])
    refine ⟨g2, g3, g5, rfl, ?_, text_len8 hb at'⟩
    intro x hx
    have hin : x ∈ cutL P at' (text1 P at' 8192).2.1 := by rw [g5]; exact List.mem_append_right _ hx
    exact by_cut hb _ _ x hin
theorem dec_ok {k : Int} {r : List Int} {a b c d e : Bool} (hP : By (k :: r)) (hl : (k :: r).length ≤ 8192) {f : Fr} (h : dec k a b c d e (k :: r) = (f, 0)) : f.1 = k ∧ frOk f ∧ plainB a b c d e f = true ∧ putF a b c d e f = k :: r := by
  have hk : 0 ≤ k ∧ k ≤ 255 := hP k (List.mem_cons_self ..)
  have hc0 : cutL (k :: r) 0 1 = [k] := rfl
  have hpos : (1 : Int) ≤ ((k :: r).length : Int) := by simp; omega
  generalize k :: r = P at *
  unfold dec at h
  have o1 := num_ok (h := a) (most := 4294967295) hP (at' := 1) (by omega) hpos
  have p1 := num1_in a 4294967295 hP 1
  generalize num1 a 4294967295 P 1 = r1 at h o1 p1
  unfold fin1g at h
  split at h
  · rename_i q; exact absurd (congrArg Prod.snd h) q
  rename_i e1
  have e1 := Classical.not_not.1 e1
  have o1 := o1 e1
  have p1 := p1 e1 (by omega)
  have o2 := num_ok (h := b) (most := 4294967295) hP (at' := r1.2.1) (by omega) (by omega)
  have p2 := num1_in b 4294967295 hP r1.2.1
  generalize num1 b 4294967295 P r1.2.1 = r2 at h o2 p2
  unfold fin2g at h
  split at h
  · rename_i q; exact absurd (congrArg Prod.snd h) q
  rename_i e2
  have e2 := Classical.not_not.1 e2
  have o2 := o2 e2
  have p2 := p2 e2 (by omega)
  have o3 := num_ok (h := c) (most := 18446744073709551615) hP (at' := r2.2.1) (by omega) (by omega)
  have p3 := num1_in c 18446744073709551615 hP r2.2.1
  generalize num1 c 18446744073709551615 P r2.2.1 = r3 at h o3 p3
  unfold fin3 at h
  split at h
  · rename_i q; exact absurd (congrArg Prod.snd h) q
  rename_i e3
  have e3 := Classical.not_not.1 e3
  have o3 := o3 e3
  have p3 := p3 e3 (by omega)
  have o4 := num_ok (h := d) (most := 18446744073709551615) hP (at' := r3.2.1) (by omega) (by omega)
  have p4 := num1_in d 18446744073709551615 hP r3.2.1
  generalize num1 d 18446744073709551615 P r3.2.1 = r4 at h o4 p4
  unfold fin4 at h
  split at h
  · rename_i q; exact absurd (congrArg Prod.snd h) q
  rename_i e4
  have e4 := Classical.not_not.1 e4
  have o4 := o4 e4
  have p4 := p4 e4 (by omega)
  have o5 := txt_ok (h := e) hP (at' := r4.2.1) (by omega) (by omega)
  generalize txt1 e P r4.2.1 = r5 at h o5
  unfold fin5 at h
  split at h
  · rename_i q; exact absurd (congrArg Prod.snd h) q
  rename_i e5
  have e5 := Classical.not_not.1 e5
  have o5 := o5 e5
  split at h
  · cases h
  rename_i e6
  simp only [Prod.mk.injEq, and_true] at h
  obtain rfl := h
  obtain ⟨a1, a2, a3, a4⟩ := o1
  obtain ⟨b1, b2, b3, b4⟩ := o2
  obtain ⟨c1, c2, c3, c4⟩ := o3
  obtain ⟨d1, d2, d3, d4⟩ := o4
  obtain ⟨x1, x2, x3, x4, x5, x6⟩ := o5
  refine ⟨rfl, ⟨hk, ⟨p1.1, p1.2.1⟩, ⟨p2.1, p2.2.1⟩, ⟨p3.1, p3.2.2⟩, ⟨p4.1, p4.2.2⟩, x5, by show r5.1.length ≤ 10000; omega⟩, ?_, ?_⟩
  · unfold plainB
    simp only [a4, b4, c4, d4, x4, Bool.and_self]
  · unfold putF
    show k :: (opt a r1.1 ++ (opt b r2.1 ++ (opt c r3.1 ++ (opt d r4.1 ++ cond e (putN 9 r5.1.length ++ r5.1) [])))) = P
    rw [← a3, ← b3, ← c3, ← d3, ← x3, cut_app (by omega) (by omega) (by omega) (by omega), cut_app (by omega) (by omega) (by omega) (by omega), cut_app (by omega) (by omega) (by omega) (by omega), cut_app (by omega) (by omega) (by omega) (by omega)]
    have := cut_app (b := P) (x := 0) (y := 1) (z := r5.2.1) (by omega) (by omega) (by omega) (by omega)
    rw [hc0] at this
    refine Eq.trans this ?_
    unfold cutL
    rw [show (0 : Int).toNat = 0 from rfl, List.drop_zero, List.take_of_length_le (by omega)]
/-- THE LAW. -/
theorem lawFrameGets (b : List Int) (h : okAll law20FrameGets.con.ps (b, ())) : law20FrameGets 200005 b = some (true, ()) := by
  have hb : By b := byOf h.1
  unfold law20FrameGets
  by_cases hl : (b.length : Int) > 5000
  · simp only [decide_eq_true hl, cond_true, fixed20, Option.bind_some]
  simp only [decide_eq_false hl, cond_false]
  have b0 : ((0 : Int) != 0) = false := rfl
  have b1 : ((0 : Int) == 0) = true := rfl
  have done : ∀ (x : Fr) (er : Int), er ≠ 0 → frameGet 200005 b = some (x, er, ()) → ref20Get 200005 b = some (x, er, ()) →
      ((frameGet 200005 b).bind fun r3 => (ref20Get 200005 b).bind fun r4 => (law20Fixed 200005).bind fun r5 => cond (!r5.1) (some (false, ())) ((ref20Same 200005 r3.1 r4.1).bind fun r6 => cond (!r6.1) (some (false, ())) (cond (r3.2.1 != r4.2.1) (some (false, ())) (cond (r3.2.1 != (0 : Int)) (some (true, ())) ((framePut 200005 r3.1).bind fun r7 => cond (r7.2.1 == (0 : Int)) ((frameMay 200005 r3.1).bind fun r8 => cond r8.1 (some (r7.1 == b, ())) (some (false, ()))) (some (false, ()))))))) = some (true, ()) := fun x er he h1 h2 => by
    rw [h1, h2, fixed20]
    simp only [Option.bind_some, same20, bne_self_eq_false, Bool.not_true, cond_false, ne_bne he, cond_true]
  have hg1 : frameGet 200005 b = cond ((got8 b 0).2.2 != 0) (some (noFr, (got8 b 0).2.2, ())) (cond (decide ((got8 b 0).2.1 < (b.length : Int))) (some (noFr, 2, ())) ((frameBodyF31 200005 (got8 b 0).1).bind fun r3 => some (r3.1, r3.2.1, ()))) := by
    unfold frameGet
    rw [recGet_eq 200005 b hb (by omega) (by omega) 0 (by omega)]
    rfl
  have hg2 : ref20Get 200005 b = cond ((got8 b 0).2.2 != 0) (some (noFr, (got8 b 0).2.2, ())) (cond (decide ((got8 b 0).2.1 < (b.length : Int))) (some (noFr, 2, ())) ((ref20Body 200005 (got8 b 0).1).bind fun r3 => some (r3.1, r3.2.1, ()))) := by
    unfold ref20Get
    rw [ref8Get_eq 200005 (by omega) b hb (by omega) 0 (by omega)]
    rfl
  generalize hq : got8 b 0 = q at hg1 hg2
  obtain ⟨r, en, er⟩ := q
  by_cases h0 : er = 0
  · subst h0
    simp only [b0, cond_false] at hg1 hg2
    by_cases h1 : en < (b.length : Int)
    · rw [decide_eq_true h1, cond_true] at hg1 hg2
      exact done _ 2 (by decide) hg1 hg2
    · rw [decide_eq_false h1, cond_false] at hg1 hg2
      obtain ⟨f1, f2, f3⟩ := got8_frame hb hq h1
      cases r with
      | nil => exact done noFr 3 (by decide) (hg1.trans rfl) (hg2.trans rfl)
      | cons k r =>
        by_cases h2 : (k :: r).length > 8192
        · refine done noFr 4 (by decide) (hg1.trans ?_) (hg2.trans ?_)
          · unfold frameBodyF31
            simp only [show (((k :: r).length : Int) == 0) = false from ne_beq (by simp; omega), decide_eq_true (show ((k :: r).length : Int) > 8192 by omega), cond_false, cond_true]; rfl
          · unfold ref20Body
            simp only [show (((k :: r).length : Int) == 0) = false from ne_beq (by simp; omega), decide_eq_true (show ((k :: r).length : Int) > 8192 by omega), cond_false, cond_true]; rfl
        · by_cases h3 : 1 ≤ k ∧ k ≤ 17
          · obtain ⟨l, a, b', c, d, e, hh⟩ := has_kind 200005 k h3.1 h3.2
            have g1 := body_dec 200005 f2 (by omega) (by omega) hh
            have g2 := refBody_dec 200000 f2 (by omega) (by omega) hh
            rw [g1] at hg1
            rw [g2] at hg2
            simp only [Option.bind_some] at hg1 hg2
            have hd := fun f => @dec_ok k r a b' c d e f2 (by omega) f
            generalize dec k a b' c d e (k :: r) = x at hg1 hg2 hd
            obtain ⟨f, er⟩ := x
            by_cases h4 : er = 0
            · subst h4
              obtain ⟨q1, q2, q3, q4⟩ := hd f rfl
              subst q1
              have hp : framePut 200005 f = some (b, 0, ()) := (framePut_eq 200000 (by omega) q2 hh).trans (by
                unfold outF
                rw [if_pos q3, q4, if_neg h2, ← f1])
              rw [hg1, hg2, fixed20]
              unfold frameMay
              simp only [hp, Option.bind_some, same20, bne_self_eq_false, Bool.not_true, cond_false, beq_self_eq_true, cond_true]
            · exact done _ er h4 hg1 hg2
          · obtain ⟨n1, n2⟩ := no_kind 200005 k h3
            have i0 : ixOk (k :: r) (0 : Int) = true := by unfold ixOk; simp
            have i1 : ixL (0 : Int) (k :: r) (0 : Int) = k := rfl
            refine done noFr 11 (by decide) (hg1.trans ?_) (hg2.trans ?_)
            · unfold frameBodyF31
              simp only [show (((k :: r).length : Int) == 0) = false from ne_beq (by simp; omega), decide_eq_false (show ¬ ((k :: r).length : Int) > 8192 by omega), cond_false, i0, i1, n1, chk, cond_true, Option.bind_some, Bool.not_false]; rfl
            · unfold ref20Body
              simp only [show (((k :: r).length : Int) == 0) = false from ne_beq (by simp; omega), decide_eq_false (show ¬ ((k :: r).length : Int) > 8192 by omega), cond_false, i0, i1, n2, chk, cond_true, Option.bind_some, Bool.not_false]; rfl
  · rw [ne_bne h0, cond_true] at hg1 hg2
    exact done _ er h0 hg1 hg2

end Go.Shal.Pr
