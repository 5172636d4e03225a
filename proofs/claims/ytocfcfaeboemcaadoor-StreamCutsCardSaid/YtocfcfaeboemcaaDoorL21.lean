/- The plain laws of streams. By an AI agent. -/
import Derived.Test.YtocfcfaeboemcaaDoorGen21
set_option linter.unusedVariables false
namespace Go.Shal.Pr
open Go Go.Shal Go.Proofs
-- streams
theorem wrap_u64 {x : Int} (h0 : 0 ≤ x) (h1 : x < 18446744073709551616) : IntKind.u64.wrap x = x := by
  simp only [IntKind.wrap, IntKind.signed, IntKind.bits]
  simp
  omega
theorem wrap_i64 {x : Int} (h0 : -9223372036854775808 ≤ x) (h1 : x < 9223372036854775808) : IntKind.i64.wrap x = x := by
  simp only [IntKind.wrap, IntKind.signed, IntKind.bits]
  simp
  omega
theorem wrap_u8 (x : Int) : IntKind.u8.wrap x = x % 256 := by
  simp only [IntKind.wrap, IntKind.signed, IntKind.bits]
  simp
theorem max2_eq (x y : Int) : max2 x y = max x y := by unfold max2; split <;> omega
def By (l : List Int) : Prop := ∀ b ∈ l, (0 : Int) ≤ b ∧ b ≤ 255
theorem by_tail {c : Int} {l : List Int} (h : By (c :: l)) : By l := fun b hb => h b (List.mem_cons_of_mem _ hb)
theorem by_cut {l : List Int} (h : By l) (a e : Int) : By (cutL l a e) := fun b hb => h b (List.mem_of_mem_drop (List.mem_of_mem_take hb))
theorem or_add (n a : Nat) (k : Nat) (h : n < 2 ^ k) (ht : n + a * 2 ^ k < 18446744073709551616) : bOr .u64 (n : Int) ((a * 2 ^ k : Nat) : Int) = (n + a * 2 ^ k : Nat) := by
  show IntKind.u64.wrap (((BitVec.ofInt 64 (n : Int) ||| BitVec.ofInt 64 ((a * 2 ^ k : Nat) : Int)).toNat : Nat) : Int) = _
  rw [BitVec.ofInt_natCast, BitVec.ofInt_natCast]
  have h1 : n < 2 ^ 64 := by omega
  have h2 : a * 2 ^ k < 2 ^ 64 := by omega
  rw [BitVec.toNat_or, BitVec.toNat_ofNat, BitVec.toNat_ofNat, Nat.mod_eq_of_lt h1, Nat.mod_eq_of_lt h2, Nat.or_comm, Nat.mul_comm a, ← Nat.two_pow_add_eq_or_of_lt h]
  rw [Nat.mul_comm a] at ht
  rw [wrap_u64 (by omega) (by omega)]
  omega
theorem shl_eq (x : Int) (k : Nat) (hk : k < 64) (h0 : 0 ≤ x) (h : x * 2 ^ k < 18446744073709551616) : sShl .u64 x (k : Int) = x * 2 ^ k := by
  unfold sShl
  have e : min (k : Int).toNat IntKind.u64.bits = k := by simp only [IntKind.bits]; omega
  rw [e]
  exact wrap_u64 (Int.mul_nonneg h0 (by exact_mod_cast Nat.zero_le _)) h
theorem byte_and (c : Int) (h0 : 0 ≤ c) (h : c ≤ 255) : bAnd .u8 c 127 = c % 128 := by
  have key : ∀ m : Fin 256, bAnd .u8 (m.val : Int) 127 = (m.val : Int) % 128 := by decide +kernel
  have := key ⟨c.toNat, by omega⟩
  simp only at this
  rw [show (c.toNat : Int) = c by omega] at this
  exact this
def get1 : List Int → Nat → Int → Int × Int × Int
  | [], _, _ => (0, 0, 3)
  | c :: r, i, n => if i = 9 ∧ c > 1 then (0, 0, 4) else if c ≥ 128 then get1 r (i + 1) (n + (c - 128) * 128 ^ i) else if c = 0 ∧ i > 0 then (0, 0, 2) else (n + c * 128 ^ i, (i : Int) + 1, 0)
def from1 (at' : Int) (q : Int × Int × Int) : Int × Int × Int := (q.1, if q.2.2 = 0 then at' + q.2.1 else 0, q.2.2)
def got (b : List Int) (at' : Int) : Int × Int × Int := if at' < 0 ∨ at' > b.length then (0, 0, 3) else from1 at' (get1 (b.drop at'.toNat) 0 0)
theorem pow128 (i : Nat) : (128 : Int) ^ i = ((2 ^ (7 * i) : Nat) : Int) := by
  rw [Nat.pow_mul]; norm_cast
theorem pow128_9 {i : Nat} (h : i ≤ 9) : (1 : Int) ≤ 128 ^ i ∧ (128 : Int) ^ i ≤ 9223372036854775808 := by
  have h1 : 128 ^ i ≤ 128 ^ 9 := Nat.pow_le_pow_right (by omega) h
  have h0 : 0 < 128 ^ i := Nat.pow_pos (by omega)
  have e : (128 : Int) ^ i = ((128 ^ i : Nat) : Int) := by norm_cast
  rw [e]
  have : (128 : Nat) ^ 9 = 9223372036854775808 := by decide
  omega
theorem ixL_get {l : List Int} {i : Nat} (h : i < l.length) : ixL (0 : Int) l i = l[i] := by
  unfold ixL
  simp [List.getElem?_eq_getElem h]
def fin1 (k1 : Int → Int → Int → Option (Int × Int × Int × Unit)) (k2 : Unit → Option (Int × Int × Int × Unit)) (at' : Int) (q : Int × Int × Int) : Option (Int × Int × Int × Unit) :=
  if q.2.2 = 0 then k1 q.1 (at' + q.2.1) 0 else if q.2.2 = 3 then k2 () else k1 0 0 q.2.2
theorem get_rounds (fu : Nat) k1 k2 (at' : Int) (b : List Int) (hb : By b) (ha : 0 ≤ at' ∧ at' ≤ 100000) (hl : b.length ≤ 100000) : ∀ (m i : Nat) (n : Int), i ≤ b.length → b.length < i + m → 0 ≤ n → n < 128 ^ i →
    i ≤ 9 → packGet.l5 fu k1 k2 m at' n b b.length i = fin1 k1 k2 at' (get1 (b.drop i) i n) := by
  intro m
  induction m with
  | zero => intro i n h1 h2; omega
  | succ m ih =>
    intro i n h1 h2 hn0 hn hi9
    unfold packGet.l5 packGet.b5
    by_cases hil : i < b.length
    · have hil' : (i : Int) < b.length := by omega
      have hix : ixOk b i = true := by simp [ixOk, hil]
      have e1 : IntKind.i64.wrap ((i : Int) + 1) = (i + 1 : Nat) := wrap_i64 (by omega) (by omega)
      rw [List.drop_eq_getElem_cons hil]
      have hc := hb _ (List.getElem_mem hil)
      simp only [hil', decide_true, cond_true, chk, hix, ixL_get hil]
      generalize b[i] = c at hc
      have hp := pow128_9 hi9
      have hle : ∀ q : Int, 0 ≤ q → q ≤ 127 → (i = 9 → q ≤ 1) → q * 128 ^ i + n < 18446744073709551616 := fun q h0 h1 h9 => by
        rcases Nat.lt_or_ge i 9 with h | h
        · have h8 : (128 : Int) ^ i ≤ 72057594037927936 := by
            have h1 : 128 ^ i ≤ 128 ^ 8 := Nat.pow_le_pow_right (by omega) (by omega)
            have e : (128 : Int) ^ i = ((128 ^ i : Nat) : Int) := by norm_cast
            rw [e]
            have : (128 : Nat) ^ 8 = 72057594037927936 := by decide
            omega
          have : q * 128 ^ i ≤ 127 * 72057594037927936 := Int.mul_le_mul h1 h8 (by omega) (by omega)
          omega
        · have : i = 9 := by omega
          subst this
          have := h9 rfl
          have : q * 128 ^ 9 ≤ 1 * 9223372036854775808 := Int.mul_le_mul this (by decide) (by decide) (by omega)
          omega
      have j9 : ∀ (c : Int), 0 ≤ c → c ≤ 255 → (i = 9 → c ≤ 1) → ∀ K0 K1, packGet.j9 fu K0 K1 at' n i c b b.length i = (if c ≥ 128 then K0 at' (n + (c - 128) * 128 ^ i) b b.length i else if c = 0 ∧ i > 0 then K1 0 0 2 else K1 (n + c * 128 ^ i) (at' + ((i : Int) + 1)) 0) := by
        intro c hc0 hc1 h9 K0 K1
        unfold packGet.j9 packGet.j50013
        have e2 : IntKind.u64.wrap (bAnd .u8 c 127) = c % 128 := by rw [byte_and c hc0 hc1]; exact wrap_u64 (by omega) (by omega)
        have e3 : IntKind.i64.wrap ((7 : Int) * i) = (7 * i : Nat) := by rw [wrap_i64 (by omega) (by omega)]; omega
        have hq := hle (c % 128) (by omega) (by omega) (fun h => by have := h9 h; omega)
        have hnn : 0 ≤ (c % 128) * 128 ^ i := Int.mul_nonneg (by omega) (by omega)
        have e4 : sShl .u64 (c % 128) ((7 * i : Nat) : Int) = (c % 128) * 128 ^ i := by
          have hpp : (2 : Int) ^ (7 * i) = 128 ^ i := by rw [pow128]; norm_cast
          rw [shl_eq _ (7 * i) (by omega) (by omega) (by rw [hpp]; omega), hpp]
        have e5 : bOr .u64 n ((c % 128) * 128 ^ i) = n + (c % 128) * 128 ^ i := by
          obtain ⟨N, rfl⟩ := Int.eq_ofNat_of_zero_le hn0
          obtain ⟨a, ha⟩ := Int.eq_ofNat_of_zero_le (show 0 ≤ c % 128 by omega)
          rw [ha, pow128] at hq ⊢
          rw [pow128] at hn
          have hq' : N + a * 2 ^ (7 * i) < 18446744073709551616 := by
            have : ((N + a * 2 ^ (7 * i) : Nat) : Int) < 18446744073709551616 := by rw [Int.natCast_add, Int.natCast_mul]; omega
            omega
          have := or_add N a (7 * i) (by omega) hq'
          rw [Int.natCast_add, Int.natCast_mul] at this
          exact this
        have hneg : (decide (((7 * i : Nat) : Int) < 0)) = false := decide_eq_false (by omega)
        have e6 : IntKind.i64.wrap (at' + i) = at' + i := wrap_i64 (by omega) (by omega)
        have e7 : IntKind.i64.wrap (at' + i + 1) = at' + ((i : Int) + 1) := by rw [wrap_i64 (by omega) (by omega)]; omega
        simp only [e2, e3, e4, e5, hneg, chk, Bool.not_false, cond_true, e6, e7]
        by_cases h128 : c ≥ 128
        · have : c % 128 = c - 128 := by omega
          simp only [h128, decide_true, cond_true, this, if_true]
        · have : c % 128 = c := by omega
          simp only [h128, decide_false, cond_false, this, if_false]
          by_cases h0 : c = 0
          · subst h0
            by_cases hi0 : i > 0
            · simp [hi0]
            · simp [hi0]
          · have h0' : (c == 0) = false := beq_false_of_ne h0
            simp [h0, h0']
      unfold get1
      by_cases h9 : i = 9 ∧ c > 1
      · have h9' : ((i : Int) == 9) = true := by rw [h9.1]; rfl
        have h1' : decide (c > 1) = true := decide_eq_true h9.2
        simp [h9', h1', if_pos h9, fin1]
      · have hside : i = 9 → c ≤ 1 := fun h => by
          by_cases hx : c > 1
          · exact absurd ⟨h, hx⟩ h9
          · omega
        rw [if_neg h9]
        have both : ∀ X Y : Option (Int × Int × Int × Unit), (cond ((i : Int) == 9) (cond (decide (c > 1)) X Y) Y) = Y := fun X Y => by
          cases hx : ((i : Int) == 9) with
          | false => rfl
          | true =>
            have : c ≤ 1 := hside (by have := eq_of_beq hx; omega)
            have hd : decide (c > 1) = false := decide_eq_false (by omega)
            simp only [cond_true, hd, cond_false]
        rw [j9 c hc.1 hc.2 hside, both]
        by_cases h128 : c ≥ 128
        · have hi8 : i ≤ 8 := by
            rcases Nat.lt_or_ge i 9 with h | h
            · omega
            · have := hside (by omega); omega
          rw [if_pos h128, if_pos h128]
          simp only [e1]
          have hq : (c - 128) * 128 ^ i + n < 128 ^ (i + 1) := by
            rw [Int.pow_succ]
            have : (c - 128) * 128 ^ i ≤ 127 * 128 ^ i := Int.mul_le_mul_of_nonneg_right (by omega) (by omega)
            omega
          exact ih (i + 1) _ (by omega) (by omega) (by have : 0 ≤ (c - 128) * 128 ^ i := Int.mul_nonneg (by omega) (by omega); omega) (by omega) (by omega)
        · rw [if_neg h128, if_neg h128]
          by_cases h0 : c = 0 ∧ i > 0
          · rw [if_pos h0, if_pos h0]; simp [fin1]
          · rw [if_neg h0, if_neg h0]; simp [fin1]
    · have hx : ¬ (i : Int) < b.length := by omega
      rw [List.drop_of_length_le (by omega)]
      simp [hx, get1, fin1]
theorem get1_err : ∀ (l : List Int) (i : Nat) (n : Int), (get1 l i n).2.2 ≠ 0 → (get1 l i n).1 = 0 ∧ (get1 l i n).2.1 = 0 := by
  intro l
  induction l with
  | nil => intro i n _; exact ⟨rfl, rfl⟩
  | cons c r ih =>
    intro i n
    unfold get1
    split
    · intro _; exact ⟨rfl, rfl⟩
    · split
      · exact ih _ _
      · split
        · intro _; exact ⟨rfl, rfl⟩
        · intro h; exact absurd rfl h
theorem packGet_eq (fu : Nat) (b : List Int) (hb : By b) (hl : b.length ≤ 100000) (hfu : b.length < fu) (at' : Int) : packGet fu b at' = some ((got b at').1, (got b at').2.1, (got b at').2.2, ()) := by
  unfold packGet got
  by_cases h1 : at' < 0
  · simp [h1]
  · by_cases h2 : at' > b.length
    · simp [h1, h2]
    · have hcut : cutOk b at' b.length = true := by simp [cutOk]; omega
      have e : cutL b at' b.length = b.drop at'.toNat := by
        unfold cutL
        rw [List.take_of_length_le]
        rw [List.length_drop]; omega
      have hd : By (b.drop at'.toNat) := fun x hx => hb x (List.mem_of_mem_drop hx)
      have hdl : (b.drop at'.toNat).length ≤ b.length := by rw [List.length_drop]; omega
      have hn : ¬ (at' < 0 ∨ at' > b.length) := by omega
      simp only [h1, h2, or_self, if_false, decide_false, cond_false, hcut, chk, cond_true, e]
      have := get_rounds fu (fun a c d => some (a, c, d, ())) (fun _ => some (0, 0, 3, ())) at' (b.drop at'.toNat) hd (by omega) (by omega) fu 0 0 (by omega) (by omega) (by omega) (by simp) (by omega)
      refine this.trans ?_
      rw [List.drop_zero]
      generalize hq : get1 (b.drop at'.toNat) 0 0 = q
      unfold fin1 from1
      by_cases h0 : q.2.2 = 0
      · simp [h0]
      · by_cases h3 : q.2.2 = 3
        · have hz := get1_err (b.drop at'.toNat) 0 0
          rw [hq] at hz
          simp [h3, hz h0]
        · have hz := get1_err (b.drop at'.toNat) 0 0
          rw [hq] at hz
          simp [h0, h3, hz h0]
def putN : Nat → Int → List Int
  | 0, n => [n]
  | k + 1, n => if n ≥ 128 then (n % 128 + 128) :: putN k (n / 128) else [n]
theorem putN_len : ∀ (k : Nat) (n : Int), (putN k n).length ≤ k + 1 ∧ 0 < (putN k n).length
  | 0, n => by simp [putN]
  | k + 1, n => by
    unfold putN
    split
    · have := putN_len k (n / 128)
      simp only [List.length_cons]
      omega
    · simp
theorem apOk1 {xs ys : List Int} (h : xs.length + ys.length ≤ 1000000) : apOk xs ys 1 = true := by
  unfold apOk
  exact decide_eq_true (Nat.le_trans (Nat.mul_le_mul_right 1 h) (by decide))
theorem pow_succ128 (k : Nat) : (128 : Int) ^ (k + 1) = 128 * 128 ^ k := by rw [Int.pow_succ, Int.mul_comm]
theorem get_put : ∀ (k i : Nat) (l : List Int) (n v e : Int), By l → i + k = 9 → get1 l i n = (v, e, 0) →
    ∃ (m : Int) (j : Nat), v = n + m * 128 ^ i ∧ 0 ≤ m ∧ m < 2 * 128 ^ k ∧ e = i + j ∧ 0 < j ∧ j ≤ l.length ∧ l.take j = putN k m ∧ (i > 0 → 1 ≤ m) := by
  intro k
  induction k with
  | zero =>
    intro i l n v e hb hi h
    cases l with
    | nil => cases h
    | cons c r =>
      have hc := hb c List.mem_cons_self
      unfold get1 at h
      split at h
      · cases h
      · rename_i h9
        have hc1 : ¬ c > 1 := fun hx => h9 ⟨by omega, hx⟩
        rw [if_neg (by omega)] at h
        split at h
        · cases h
        · rename_i h0
          cases h
          refine ⟨c, 1, rfl, hc.1, by omega, by omega, by omega, by simp, by simp [putN], fun hi0 => ?_⟩
          rcases Int.lt_or_le 0 c with hx | hx
          · omega
          · exact absurd ⟨by omega, hi0⟩ h0
  | succ k ih =>
    intro i l n v e hb hi h
    cases l with
    | nil => cases h
    | cons c r =>
      have hc := hb c List.mem_cons_self
      unfold get1 at h
      rw [if_neg (by omega)] at h
      have hpk : (1 : Int) ≤ 128 ^ k := by
        have : 0 < 128 ^ k := Nat.pow_pos (by omega)
        have e : (128 : Int) ^ k = ((128 ^ k : Nat) : Int) := by norm_cast
        omega
      split at h
      · rename_i h128
        obtain ⟨m, j, q1, q2, q3, q4, q5, q6, q7, q8⟩ := ih (i + 1) r _ v e (by_tail hb) (by omega) h
        have hm1 := q8 (by omega)
        refine ⟨c - 128 + 128 * m, j + 1, ?_, by omega, by rw [Int.pow_succ]; omega, by omega, by omega, by simp; omega, ?_, fun _ => by omega⟩
        · rw [q1, Int.pow_succ, Int.add_mul, Int.mul_comm 128 m, Int.mul_assoc m 128, Int.mul_comm 128 (128 ^ i)]; omega
        · rw [List.take_succ_cons, q7]
          conv => rhs; unfold putN
          rw [if_pos (by omega), show (c - 128 + 128 * m) % 128 + 128 = c by omega, show (c - 128 + 128 * m) / 128 = m by omega]
      · rename_i h128
        split at h
        · cases h
        · rename_i h0
          cases h
          refine ⟨c, 1, rfl, hc.1, by rw [Int.pow_succ]; omega, by omega, by omega, by simp, ?_, fun hi0 => ?_⟩
          · conv => rhs; unfold putN
            rw [if_neg (by omega)]; simp
          · rcases Int.lt_or_le 0 c with hx | hx
            · omega
            · exact absurd ⟨by omega, hi0⟩ h0
theorem put_get : ∀ (k i : Nat) (m n : Int) (rest : List Int), i + k = 9 → 0 ≤ m → m < 2 * 128 ^ k → (i > 0 → 1 ≤ m) → get1 (putN k m ++ rest) i n = (n + m * 128 ^ i, (i : Int) + ((putN k m).length : Int), 0) := by
  intro k
  induction k with
  | zero =>
    intro i m n rest hi h0 h1 hp
    have hm1 : m ≤ 1 := by simp at h1; omega
    unfold putN get1
    simp only [List.cons_append, List.nil_append]
    rw [if_neg (by omega), if_neg (by omega), if_neg (fun h => by have := hp h.2; omega)]
    simp
  | succ k ih =>
    intro i m n rest hi h0 h1 hp
    unfold putN
    split
    · rename_i hge
      simp only [List.cons_append]
      unfold get1
      rw [if_neg (by omega), if_pos (by omega)]
      rw [ih (i + 1) (m / 128) _ rest (by omega) (by omega) (by rw [Int.pow_succ] at h1; omega) (fun _ => by omega)]
      simp only [List.length_cons]
      refine Prod.ext ?_ (Prod.ext ?_ rfl)
      · show n + (m % 128 + 128 - 128) * 128 ^ i + m / 128 * 128 ^ (i + 1) = n + m * 128 ^ i
        rw [Int.pow_succ, Int.mul_comm (128 ^ i) 128, ← Int.mul_assoc, Int.add_assoc, ← Int.add_mul]
        congr 2
        omega
      · show ((i + 1 : Nat) : Int) + ((putN k (m / 128)).length : Int) = (i : Int) + (((putN k (m / 128)).length + 1 : Nat) : Int)
        omega
    · rename_i hlt
      simp only [List.cons_append, List.nil_append]
      unfold get1
      rw [if_neg (by omega), if_neg (by omega), if_neg (fun h => by have := hp h.2; omega)]
      simp
theorem got_ok {b : List Int} (hb : By b) {at' v e : Int} (h : got b at' = (v, e, 0)) : 0 ≤ at' ∧ 0 ≤ v ∧ v < 18446744073709551616 ∧ ∃ j : Nat, e = at' + j ∧ 0 < j ∧ at' + j ≤ b.length ∧ cutL b at' e = putN 9 v := by
  unfold got at h
  split at h
  · cases h
  · rename_i hn
    generalize hq : get1 (b.drop at'.toNat) 0 0 = q at h
    obtain ⟨v', e', er⟩ := q
    unfold from1 at h
    simp only [Prod.mk.injEq] at h
    obtain ⟨rfl, h2, rfl⟩ := h
    rw [if_pos rfl] at h2
    obtain ⟨m, j, q1, q2, q3, q4, q5, q6, q7, q8⟩ := get_put 9 0 (b.drop at'.toNat) 0 v' e' (fun x hx => hb x (List.mem_of_mem_drop hx)) rfl hq
    have hv : v' = m := by rw [q1]; simp
    rw [List.length_drop] at q6
    have hp : (2 : Int) * 128 ^ 9 = 18446744073709551616 := by decide
    refine ⟨by omega, by omega, by omega, j, by omega, q5, by omega, ?_⟩
    rw [hv, ← q7]
    unfold cutL
    rw [show (e - at').toNat = j by omega]
theorem got_put (a rest : List Int) (n : Int) (h0 : 0 ≤ n) (h1 : n < 18446744073709551616) : got (a ++ putN 9 n ++ rest) a.length = (n, (a.length : Int) + ((putN 9 n).length : Int), 0) := by
  unfold got
  rw [if_neg (by simp; omega)]
  have hp : (2 : Int) * 128 ^ 9 = 18446744073709551616 := by decide
  have e : (a ++ putN 9 n ++ rest).drop (a.length : Int).toNat = putN 9 n ++ rest := by simp
  rw [e, put_get 9 0 n 0 rest rfl h0 (by omega) (fun h => by omega)]
  unfold from1
  simp
theorem cutOk_of {b : List Int} {x y : Int} (h0 : 0 ≤ x) (h1 : x ≤ y) (h2 : y ≤ b.length) : cutOk b x y = true := by simp [cutOk, h0, h1, h2]
def text1 (b : List Int) (at' most : Int) : List Int × Int × Int :=
  if (got b at').2.2 ≠ 0 then ([], 0, (got b at').2.2) else if (got b at').1 > max most 0 then ([], 0, 4) else if (got b at').1 > b.length - (got b at').2.1 then ([], 0, 3)
  else (cutL b (got b at').2.1 ((got b at').2.1 + (got b at').1), (got b at').2.1 + (got b at').1, 0)
theorem getText_eq (fu : Nat) (b : List Int) (hb : By b) (hl : b.length ≤ 100000) (hfu : b.length < fu) (at' most : Int) (hm : -9223372036854775808 ≤ most ∧ most < 9223372036854775808) : packGetText fu b at' most = some ((text1 b at' most).1, (text1 b at' most).2.1, (text1 b at' most).2.2, ()) := by
  unfold packGetText text1
  rw [packGet_eq fu b hb hl hfu]
  generalize hq : got b at' = q
  obtain ⟨v, e, er⟩ := q
  simp only [Option.bind_some]
  by_cases h : er = 0
  · subst h
    obtain ⟨g1, g2, g3, j, g4, g5, g6, g7⟩ := got_ok hb hq
    have e1 : IntKind.u64.wrap (max2 most 0) = max most 0 := by rw [max2_eq]; exact wrap_u64 (by omega) (by omega)
    have e2 : IntKind.i64.wrap ((b.length : Int) - e) = b.length - e := wrap_i64 (by omega) (by omega)
    have e3 : IntKind.u64.wrap ((b.length : Int) - e) = b.length - e := wrap_u64 (by omega) (by omega)
    simp only [bne_self_eq_false, cond_false, e1, e2, e3, ne_eq, not_true_eq_false, if_false]
    by_cases h1 : v > max most 0
    · simp [h1]
    · by_cases h2 : v > b.length - e
      · simp only [h1, h2, decide_false, decide_true, cond_false, cond_true, if_false, if_true]
      · have e4 : IntKind.i64.wrap v = v := wrap_i64 (by omega) (by omega)
        have e5 : IntKind.i64.wrap (e + v) = e + v := wrap_i64 (by omega) (by omega)
        simp only [h1, h2, decide_false, cond_false, if_false, e4, e5, cutOk_of (show 0 ≤ e by omega) (show e ≤ e + v by omega) (show e + v ≤ b.length by omega), chk, cond_true]
  · have h' : (er != 0) = true := bne_iff_ne.2 h
    simp [h, h']
theorem putN_by : ∀ (k : Nat) (n : Int), 0 ≤ n → n < 2 * 128 ^ k → By (putN k n) := by
  intro k
  induction k with
  | zero => intro n h0 h1 x hx; simp [putN] at hx; simp at h1; omega
  | succ k ih =>
    intro n h0 h1 x hx
    unfold putN at hx
    split at hx
    · rcases List.mem_cons.1 hx with rfl | hx
      · omega
      · exact ih (n / 128) (by omega) (by rw [Int.pow_succ] at h1; omega) x hx
    · simp at hx; omega
theorem putN_by9 (n : Int) (h0 : 0 ≤ n) (h1 : n < 18446744073709551616) : By (putN 9 n) := by
  have hp : (2 : Int) * 128 ^ 9 = 18446744073709551616 := by decide
  exact putN_by 9 n h0 (by omega)
theorem by_app {a b : List Int} (ha : By a) (hb : By b) : By (a ++ b) := fun x hx => by
  rcases List.mem_append.1 hx with h | h
  · exact ha x h
  · exact hb x h
theorem cut_mid (a s r : List Int) : cutL (a ++ s ++ r) a.length (a.length + s.length) = s := by
  unfold cutL
  rw [List.append_assoc, show (a.length : Int).toNat = a.length by omega, List.drop_left, show ((a.length : Int) + s.length - a.length).toNat = s.length by omega, List.take_left]
theorem u64Of {x : Int} (h : inR .u64 x) : 0 ≤ x ∧ x < 18446744073709551616 := by
  simp [inR, IntKind.min, IntKind.max, IntKind.signed, IntKind.bits] at h
  omega
theorem byOf {l : List Int} (h : (Kd.slice (.int .u8)).ok l) : By l := fun x hx => by
  have := h.2 x hx
  simp [Kd.ok, inR, IntKind.min, IntKind.max, IntKind.signed, IntKind.bits] at this
  omega
theorem ne_bne {x y : Int} (h : ¬ x = y) : (x != y) = true := bne_iff_ne.2 h
theorem ne_beq {x y : Int} (h : ¬ x = y) : (x == y) = false := beq_false_of_ne h
theorem refPut_rounds (fu : Nat) (k2 : Int → List Int → Option (((List Int) × Unit) × (Unit))) : ∀ (k m : Nat) (n : Int) (out : List Int), k < m → 0 ≤ n → n < 128 ^ (k + 1) → n < 18446744073709551616 → out.length + k ≤ 500000 →
    ∃ last init, putN k n = init ++ [last] ∧ 0 ≤ last ∧ last < 128 ∧ ref03Put.l3 fu k2 m n out = k2 last (out ++ init) := by
  intro k
  induction k with
  | zero =>
    intro m n out hm h0 h1 _ hl
    obtain ⟨m, rfl⟩ : ∃ j, m = j + 1 := ⟨m - 1, by omega⟩
    have hn : ¬ n ≥ 128 := by have : (128 : Int) ^ (0 + 1) = 128 := by decide
                              omega
    refine ⟨n, [], by simp [putN], h0, by omega, ?_⟩
    unfold ref03Put.l3 ref03Put.b3
    simp [hn]
  | succ k ih =>
    intro m n out hm h0 h1 h64 hl
    obtain ⟨m, rfl⟩ : ∃ j, m = j + 1 := ⟨m - 1, by omega⟩
    unfold ref03Put.l3 ref03Put.b3 putN
    by_cases hn : n ≥ 128
    · have t1 : Int.tmod n 128 = n % 128 := Int.tmod_eq_emod_of_nonneg h0
      have t2 : Int.tdiv n 128 = n / 128 := Int.tdiv_eq_ediv_of_nonneg h0
      have e1 : IntKind.u64.wrap (n / 128) = n / 128 := wrap_u64 (by omega) (by omega)
      have e2 : IntKind.u8.wrap (IntKind.u64.wrap (n % 128 + 128)) = n % 128 + 128 := by rw [wrap_u64 (by omega) (by omega), wrap_u8]; omega
      rw [pow_succ128] at h1
      obtain ⟨last, init, q1, q2, q3, q4⟩ := ih m (n / 128) (out ++ [n % 128 + 128]) (by omega) (by omega) (by omega) (by omega) (by simp; omega)
      refine ⟨last, (n % 128 + 128) :: init, by rw [if_pos hn, q1]; rfl, q2, q3, ?_⟩
      have e3 : apOk out [n % 128 + 128] 1 = true := apOk1 (by simp; omega)
      simp only [hn, decide_true, cond_true, t1, t2, e1, e2, e3, chk]
      rw [q4, List.append_assoc]
      rfl
    · refine ⟨n, [], by rw [if_neg hn]; rfl, h0, by omega, ?_⟩
      simp [hn]
theorem refPut_eq (fu : Nat) (hfu : 12 ≤ fu) (b : List Int) (n : Int) (hl : b.length ≤ 400000) (h0 : 0 ≤ n) (h1 : n < 18446744073709551616) : ref03Put fu b n = some ((b ++ putN 9 n, ()), ()) := by
  have hp : (128 : Int) ^ (9 + 1) = 1180591620717411303424 := by decide
  obtain ⟨last, init, p1, p2, p3, p4⟩ := refPut_rounds fu (fun nq2 outq2 => 
      chk (apOk outq2 ([IntKind.u8.wrap nq2]) 1) <|
      let t3 := outq2 ++ ([IntKind.u8.wrap nq2])
      some ((t3, ()), (()))) 9 fu n b (by omega) h0 (by omega) h1 (by omega)
  have hlen := putN_len 9 n
  rw [p1] at hlen
  simp only [List.length_append, List.length_cons, List.length_nil] at hlen
  have e1 : IntKind.u8.wrap last = last := by rw [wrap_u8]; omega
  have e2 : apOk (b ++ init) [last] 1 = true := apOk1 (by simp; omega)
  have e3 : apOk ([] : List Int) b 1 = true := apOk1 (by simp; omega)
  unfold ref03Put
  simp only [e3, chk, cond_true, List.nil_append]
  refine p4.trans ?_
  simp only [e1, e2, chk, cond_true, p1, List.append_assoc]
theorem refPutD_rounds (fu : Nat) (k2 : Int → List Int → Option ((List Int) × Unit)) : ∀ (k m : Nat) (n : Int) (out : List Int), k < m → 0 ≤ n → n < 128 ^ (k + 1) → n < 18446744073709551616 → out.length + k ≤ 500000 →
    ∃ last init, putN k n = init ++ [last] ∧ 0 ≤ last ∧ last < 128 ∧ ref03PutDat.l3 fu k2 m n out = k2 last (out ++ init) := by
  intro k
  induction k with
  | zero =>
    intro m n out hm h0 h1 _ hl
    obtain ⟨m, rfl⟩ : ∃ j, m = j + 1 := ⟨m - 1, by omega⟩
    have hn : ¬ n ≥ 128 := by have : (128 : Int) ^ (0 + 1) = 128 := by decide
                              omega
    refine ⟨n, [], by simp [putN], h0, by omega, ?_⟩
    unfold ref03PutDat.l3 ref03PutDat.b3
    simp [hn]
  | succ k ih =>
    intro m n out hm h0 h1 h64 hl
    obtain ⟨m, rfl⟩ : ∃ j, m = j + 1 := ⟨m - 1, by omega⟩
    unfold ref03PutDat.l3 ref03PutDat.b3 putN
    by_cases hn : n ≥ 128
    · have t1 : Int.tmod n 128 = n % 128 := Int.tmod_eq_emod_of_nonneg h0
      have t2 : Int.tdiv n 128 = n / 128 := Int.tdiv_eq_ediv_of_nonneg h0
      have e1 : IntKind.u64.wrap (n / 128) = n / 128 := wrap_u64 (by omega) (by omega)
      have e2 : IntKind.u8.wrap (IntKind.u64.wrap (n % 128 + 128)) = n % 128 + 128 := by rw [wrap_u64 (by omega) (by omega), wrap_u8]; omega
      rw [pow_succ128] at h1
      obtain ⟨last, init, q1, q2, q3, q4⟩ := ih m (n / 128) (out ++ [n % 128 + 128]) (by omega) (by omega) (by omega) (by omega) (by simp; omega)
      refine ⟨last, (n % 128 + 128) :: init, by rw [if_pos hn, q1]; rfl, q2, q3, ?_⟩
      have e3 : apOk out [n % 128 + 128] 1 = true := apOk1 (by simp; omega)
      simp only [hn, decide_true, cond_true, t1, t2, e1, e2, e3, chk]
      rw [q4, List.append_assoc]
      rfl
    · refine ⟨n, [], by rw [if_neg hn]; rfl, h0, by omega, ?_⟩
      simp [hn]
theorem refPutD_eq (fu : Nat) (hfu : 12 ≤ fu) (b : List Int) (n : Int) (hl : b.length ≤ 400000) (h0 : 0 ≤ n) (h1 : n < 18446744073709551616) : ref03PutDat fu b n = some (b ++ putN 9 n, ()) := by
  have hp : (128 : Int) ^ (9 + 1) = 1180591620717411303424 := by decide
  obtain ⟨last, init, p1, p2, p3, p4⟩ := refPutD_rounds fu (fun nq2 outq2 => 
      chk (apOk outq2 ([IntKind.u8.wrap nq2]) 1) <|
      let t3 := outq2 ++ ([IntKind.u8.wrap nq2])
      some (t3, ())) 9 fu n b (by omega) h0 (by omega) h1 (by omega)
  have hlen := putN_len 9 n
  rw [p1] at hlen
  simp only [List.length_append, List.length_cons, List.length_nil] at hlen
  have e1 : IntKind.u8.wrap last = last := by rw [wrap_u8]; omega
  have e2 : apOk (b ++ init) [last] 1 = true := apOk1 (by simp; omega)
  have e3 : apOk ([] : List Int) b 1 = true := apOk1 (by simp; omega)
  unfold ref03PutDat
  simp only [e3, chk, cond_true, List.nil_append]
  refine p4.trans ?_
  simp only [e1, e2, chk, cond_true, p1, List.append_assoc]
theorem refPutText_eq (fu : Nat) (hfu : 12 ≤ fu) (b s : List Int) (hl : b.length ≤ 400000) (hs : s.length ≤ 400000) : ref03PutText fu b s = some (b ++ putN 9 s.length ++ s, ()) := by
  unfold ref03PutText
  have e1 : IntKind.u64.wrap (s.length : Int) = s.length := wrap_u64 (by omega) (by omega)
  have := putN_len 9 s.length
  have e2 : apOk (b ++ putN 9 s.length) s 1 = true := apOk1 (by rw [List.length_append]; omega)
  simp only [e1, refPut_eq fu hfu b s.length hl (by omega) (by omega), Option.bind_some, e2, chk, cond_true]
theorem wrap_u32 {x : Int} (h0 : 0 ≤ x) (h1 : x < 4294967296) : IntKind.u32.wrap x = x := by
  simp only [IntKind.wrap, IntKind.signed, IntKind.bits]
  simp
  omega
abbrev B32 := BitVec 32
def wv (a : B32) : Int := (a.toNat : Int)
theorem wv_lt (a : B32) : 0 ≤ wv a ∧ wv a < 4294967296 := by have := a.isLt; unfold wv; omega
theorem ofInt_wv (a : B32) : BitVec.ofInt 32 (wv a) = a := by
  unfold wv
  rw [BitVec.ofInt_natCast, BitVec.ofNat_toNat, BitVec.setWidth_eq]
theorem wv_ofInt {x : Int} (h0 : 0 ≤ x) (h1 : x < 4294967296) : wv (BitVec.ofInt 32 x) = x := by
  obtain ⟨n, rfl⟩ := Int.eq_ofNat_of_zero_le h0
  show ((BitVec.ofInt 32 (n : Int)).toNat : Int) = n
  rw [BitVec.ofInt_natCast, BitVec.toNat_ofNat, Nat.mod_eq_of_lt (by omega)]
theorem xor_wv (a b : B32) : bXor .u32 (wv a) (wv b) = wv (a ^^^ b) := by
  show IntKind.u32.wrap (((BitVec.ofInt 32 (wv a) ^^^ BitVec.ofInt 32 (wv b)).toNat : Nat) : Int) = _
  rw [ofInt_wv, ofInt_wv]
  exact wrap_u32 (wv_lt _).1 (wv_lt _).2
theorem and_wv (a b : B32) : bAnd .u32 (wv a) (wv b) = wv (a &&& b) := by
  show IntKind.u32.wrap (((BitVec.ofInt 32 (wv a) &&& BitVec.ofInt 32 (wv b)).toNat : Nat) : Int) = _
  rw [ofInt_wv, ofInt_wv]
  exact wrap_u32 (wv_lt _).1 (wv_lt _).2
theorem not_wv (a : B32) : bNot .u32 (wv a) = wv (a ^^^ 4294967295#32) := by
  have e : bNot .u32 (wv a) = bXor .u32 4294967295 (wv a) := rfl
  rw [e, show (4294967295 : Int) = wv 4294967295#32 from rfl, xor_wv, BitVec.xor_comm]
theorem shr_wv (a : B32) (k : Nat) (hk : k < 32) : sShr .u32 (wv a) (k : Int) = wv (a >>> k) := by
  unfold sShr
  have e : min (k : Int).toNat IntKind.u32.bits = k := by simp only [IntKind.bits]; omega
  rw [e]
  unfold wv
  rw [BitVec.toNat_ushiftRight, Nat.shiftRight_eq_div_pow, Int.fdiv_eq_ediv_of_nonneg _ (by exact_mod_cast Nat.zero_le _), Int.natCast_ediv, Int.natCast_pow]
  rfl
def pol : B32 := 3988292384#32
def st1 (r : B32) : B32 := (r >>> 1) ^^^ (if r.getLsbD 0 = true then pol else 0#32)
theorem st1_xor (a b : B32) : st1 (a ^^^ b) = st1 a ^^^ st1 b := by
  unfold st1
  rw [BitVec.ushiftRight_xor_distrib, BitVec.getLsbD_xor]
  have e : (if (a.getLsbD 0 ^^ b.getLsbD 0) = true then pol else 0#32) = (if a.getLsbD 0 = true then pol else 0#32) ^^^ (if b.getLsbD 0 = true then pol else 0#32) := by
    cases a.getLsbD 0 <;> cases b.getLsbD 0 <;> simp
  rw [e]
  ac_rfl
def st4 (r : B32) : B32 := st1 (st1 (st1 (st1 r)))
theorem st4_xor (a b : B32) : st4 (a ^^^ b) = st4 a ^^^ st4 b := by unfold st4; simp only [st1_xor]
def tabB (m : B32) : B32 := BitVec.ofInt 32 (ixL (0 : Int) tabCrcHalves (wv m))
theorem st1_even {a : B32} (h : a.getLsbD 0 = false) : st1 a = a >>> 1 := by unfold st1; rw [h]; simp
theorem st4_high (r : B32) : st4 (r &&& 4294967280#32) = r >>> 4 := by
  have b : ∀ i, i < 4 → (r &&& 4294967280#32).getLsbD i = false := fun i hi => by
    rw [BitVec.getLsbD_and]
    have : (4294967280#32).getLsbD i = false := by
      match i, hi with
      | 0, _ => rfl
      | 1, _ => rfl
      | 2, _ => rfl
      | 3, _ => rfl
    rw [this, Bool.and_false]
  have go : ∀ (k : Nat), k < 4 → st1 ((r &&& 4294967280#32) >>> k) = (r &&& 4294967280#32) >>> (k + 1) := fun k hk => by
    rw [st1_even (by rw [BitVec.getLsbD_ushiftRight, Nat.add_zero]; exact b k hk), BitVec.shiftRight_add]
  have g0 := go 0 (by omega)
  rw [BitVec.ushiftRight_zero] at g0
  unfold st4
  rw [g0, go 1 (by omega), go 2 (by omega), go 3 (by omega)]
  apply BitVec.eq_of_getLsbD_eq
  intro i hi
  rw [BitVec.getLsbD_ushiftRight, BitVec.getLsbD_ushiftRight, BitVec.getLsbD_and]
  have : ∀ i : Fin 32, i.val < 28 → (4294967280#32).getLsbD (4 + i.val) = true := by decide
  by_cases h28 : i < 28
  · rw [this ⟨i, hi⟩ h28, Bool.and_true]
  · rw [BitVec.getLsbD_of_ge r (4 + i) (by omega), Bool.false_and]
theorem st4_low (m : B32) (h : m.toNat < 16) : st4 m = tabB m := by
  have key : ∀ n : Fin 16, st4 (BitVec.ofNat 32 n.val) = tabB (BitVec.ofNat 32 n.val) := by decide +kernel
  have := key ⟨m.toNat, h⟩
  simp only [BitVec.ofNat_toNat, BitVec.setWidth_eq] at this
  exact this
theorem low_lt (r : B32) : (r &&& 15#32).toNat < 16 := by
  rw [BitVec.toNat_and]
  exact Nat.lt_of_le_of_lt Nat.and_le_right (by decide)
theorem st4_eq (r : B32) : st4 r = (r >>> 4) ^^^ tabB (r &&& 15#32) := by
  have e : r = (r &&& 4294967280#32) ^^^ (r &&& 15#32) := by
    apply BitVec.eq_of_getLsbD_eq
    intro i hi
    rw [BitVec.getLsbD_xor, BitVec.getLsbD_and, BitVec.getLsbD_and]
    have : ∀ i : Fin 32, (15#32).getLsbD i.val = !(4294967280#32).getLsbD i.val := by decide
    rw [this ⟨i, hi⟩]
    cases r.getLsbD i <;> cases (4294967280#32).getLsbD i <;> rfl
  conv => lhs; rw [e]
  rw [st4_xor, st4_high, st4_low _ (low_lt r)]
def st8 (r : B32) : B32 := st4 (st4 r)
def rowB (r : B32) (l : List Int) : B32 := l.foldl (fun r c => st8 (r ^^^ BitVec.ofInt 32 c)) r
theorem tab_wv (r : B32) : ixArr 16 (bAnd .u32 (wv r) (15 : Int)) = true ∧ bXor .u32 (sShr .u32 (wv r) (4 : Int)) (ixL (0 : Int) tabCrcHalves (bAnd .u32 (wv r) (15 : Int))) = wv (st4 r) := by
  have e1 : bAnd .u32 (wv r) (15 : Int) = wv (r &&& 15#32) := and_wv r 15#32
  have hl := low_lt r
  have e2 : sShr .u32 (wv r) (4 : Int) = wv (r >>> 4) := shr_wv r 4 (by omega)
  rw [e1, e2]
  refine ⟨by unfold ixArr wv; simp only [Bool.and_eq_true, decide_eq_true_eq]; omega, ?_⟩
  have e3 : ixL (0 : Int) tabCrcHalves (wv (r &&& 15#32)) = wv (tabB (r &&& 15#32)) := by
    have key : ∀ n : Fin 16, ixL (0 : Int) tabCrcHalves (wv (BitVec.ofNat 32 n.val)) = wv (tabB (BitVec.ofNat 32 n.val)) := by decide +kernel
    have := key ⟨(r &&& 15#32).toNat, hl⟩
    simp only [BitVec.ofNat_toNat, BitVec.setWidth_eq] at this
    exact this
  rw [e3, xor_wv, st4_eq]
theorem carry_rounds (fu : Nat) (k2 : Int → Option (Int × Unit)) (b : List Int) (hb : By b) (hl : b.length ≤ 1000000) : ∀ (m i : Nat) (r : B32), i ≤ b.length → b.length < i + m →
    crcCarry.l2 fu k2 m (wv r) b b.length i = k2 (wv (rowB r (b.drop i))) := by
  intro m
  induction m with
  | zero => intro i r h1 h2; omega
  | succ m ih =>
    intro i r h1 h2
    unfold crcCarry.l2 crcCarry.b2
    by_cases h : i < b.length
    · have hi : (i : Int) < b.length := by omega
      have hx : ixOk b i = true := by simp [ixOk, h]
      have e1 : IntKind.i64.wrap ((i : Int) + 1) = (i + 1 : Nat) := wrap_i64 (by omega) (by omega)
      have hc := hb _ (List.getElem_mem h)
      rw [List.drop_eq_getElem_cons h]
      simp only [hi, decide_true, cond_true, chk, hx, ixL_get h]
      generalize b[i] = c at hc
      have e2 : bXor .u32 (wv r) (IntKind.u32.wrap c) = wv (r ^^^ BitVec.ofInt 32 c) := by
        rw [wrap_u32 (by omega) (by omega), ← xor_wv, wv_ofInt (by omega) (by omega)]
      obtain ⟨q1, q2⟩ := tab_wv (r ^^^ BitVec.ofInt 32 c)
      obtain ⟨q3, q4⟩ := tab_wv (st4 (r ^^^ BitVec.ofInt 32 c))
      simp only [e1, e2, q1, q2, q3, q4, cond_true]
      exact ih (i + 1) (st8 (r ^^^ BitVec.ofInt 32 c)) (by omega) (by omega)
    · have hi : ¬ (i : Int) < b.length := by omega
      rw [List.drop_of_length_le (by omega)]
      simp only [hi, decide_false, cond_false]
      rfl
theorem carry_eq (fu : Nat) (b : List Int) (hb : By b) (hl : b.length ≤ 1000000) (hf : b.length < fu) (r : B32) : crcCarry fu (wv r) b = some (wv (rowB r b), ()) := by
  unfold crcCarry
  have := carry_rounds fu (fun q => some (q, ())) b hb hl fu 0 r (by omega) (by omega)
  rw [List.drop_zero] at this
  exact this
def moreB (s : B32) (b : List Int) : B32 := rowB (s ^^^ 4294967295#32) b ^^^ 4294967295#32
theorem more_eq (fu : Nat) (b : List Int) (hb : By b) (hl : b.length ≤ 1000000) (hf : b.length < fu) (s : B32) : crcMore fu (wv s) b = some (wv (moreB s b), ()) := by
  unfold crcMore
  rw [not_wv, carry_eq fu b hb hl hf]
  simp only [Option.bind_some, not_wv]
  rfl
theorem sum_eq (fu : Nat) (b : List Int) (hb : By b) (hl : b.length ≤ 1000000) (hf : b.length < fu) : crcSum fu b = some (wv (moreB 0#32 b), ()) := by
  unfold crcSum
  have := more_eq fu b hb hl hf 0#32
  rw [show wv 0#32 = 0 from rfl] at this
  rw [this]
  rfl
theorem st1_wv (r : B32) : (Int.tmod (wv r) 2 == 1) = r.getLsbD 0 ∧ IntKind.u32.wrap (Int.tdiv (wv r) 2) = wv (r >>> 1) := by
  have hr := wv_lt r
  constructor
  · rw [Int.tmod_eq_emod_of_nonneg hr.1]
    have : r.getLsbD 0 = decide (r.toNat % 2 = 1) := by
      show r.toNat.testBit 0 = _
      rw [Nat.testBit_zero]
    rw [this]
    unfold wv
    by_cases h : r.toNat % 2 = 1
    · have : ((r.toNat : Int) % 2) = 1 := by omega
      rw [this]; simp [h]
    · have : ((r.toNat : Int) % 2) = 0 := by omega
      rw [this]; simp [h]
  · rw [Int.tdiv_eq_ediv_of_nonneg hr.1, wrap_u32 (by omega) (by omega)]
    unfold wv
    rw [BitVec.toNat_ushiftRight, Nat.shiftRight_eq_div_pow]
    omega
def stN : Nat → B32 → B32
  | 0, r => r
  | j + 1, r => stN j (st1 r)
theorem ref_bits (fu : Nat) (k4 : Int → (List Int) → Int → Int → Option (Int × Unit)) (b : List Int) (v vx : Int) : ∀ (j m k : Nat) (r : B32), k + j = 8 → j < m → ref01Row.l6 fu k4 m (wv r) b k v vx = k4 (wv (stN j r)) b v vx := by
  intro j
  induction j with
  | zero =>
    intro m k r hk hm
    obtain ⟨m, rfl⟩ : ∃ q, m = q + 1 := ⟨m - 1, by omega⟩
    unfold ref01Row.l6 ref01Row.b6
    have h : ¬ (k : Int) < 8 := by omega
    simp only [h, decide_false, cond_false]
    rfl
  | succ j ih =>
    intro m k r hk hm
    obtain ⟨m, rfl⟩ : ∃ q, m = q + 1 := ⟨m - 1, by omega⟩
    unfold ref01Row.l6 ref01Row.b6
    have h : (k : Int) < 8 := by omega
    have e1 : IntKind.i64.wrap ((k : Int) + 1) = (k + 1 : Nat) := wrap_i64 (by omega) (by omega)
    obtain ⟨q1, q2⟩ := st1_wv r
    have e2 : bXor .u32 (wv (r >>> 1)) (3988292384 : Int) = wv ((r >>> 1) ^^^ pol) := xor_wv _ pol
    simp only [h, decide_true, cond_true, q1, q2, e1, e2]
    unfold stN
    cases hg : r.getLsbD 0 with
    | true =>
      have : st1 r = (r >>> 1) ^^^ pol := by unfold st1; rw [hg]; rfl
      rw [this]
      exact ih m (k + 1) _ (by omega) (by omega)
    | false =>
      rw [st1_even hg]
      exact ih m (k + 1) _ (by omega) (by omega)
theorem row_rounds (fu : Nat) (hfu : 8 < fu) (k2 : Int → Option (Int × Unit)) (b : List Int) (hb : By b) (hl : b.length ≤ 1000000) : ∀ (m i : Nat) (r : B32), i ≤ b.length → b.length < i + m →
    ref01Row.l2 fu k2 m (wv r) b b.length i = k2 (wv (rowB r (b.drop i))) := by
  intro m
  induction m with
  | zero => intro i r h1 h2; omega
  | succ m ih =>
    intro i r h1 h2
    unfold ref01Row.l2 ref01Row.b2
    by_cases h : i < b.length
    · have hi : (i : Int) < b.length := by omega
      have hx : ixOk b i = true := by simp [ixOk, h]
      have e1 : IntKind.i64.wrap ((i : Int) + 1) = (i + 1 : Nat) := wrap_i64 (by omega) (by omega)
      have hc := hb _ (List.getElem_mem h)
      rw [List.drop_eq_getElem_cons h]
      simp only [hi, decide_true, cond_true, chk, hx, ixL_get h]
      generalize b[i] = c at hc
      have e2 : bXor .u32 (wv r) (IntKind.u32.wrap c) = wv (r ^^^ BitVec.ofInt 32 c) := by
        rw [wrap_u32 (by omega) (by omega), ← xor_wv, wv_ofInt (by omega) (by omega)]
      rw [e2]
      have := ref_bits fu (fun rowq4 bq4 vq4 vq4x2 => ref01Row.l2 fu k2 m rowq4 bq4 vq4 (IntKind.i64.wrap (vq4x2 + (1 : Int)))) b b.length i 8 fu 0 (r ^^^ BitVec.ofInt 32 c) (by omega) (by omega)
      refine this.trans ?_
      rw [e1]
      exact ih (i + 1) (st8 (r ^^^ BitVec.ofInt 32 c)) (by omega) (by omega)
    · have hi : ¬ (i : Int) < b.length := by omega
      rw [List.drop_of_length_le (by omega)]
      simp only [hi, decide_false, cond_false]
      rfl
theorem row_eq (fu : Nat) (hfu : 8 < fu) (b : List Int) (hb : By b) (hl : b.length ≤ 1000000) (hf : b.length < fu) (r : B32) : ref01Row fu (wv r) b = some (wv (rowB r b), ()) := by
  unfold ref01Row
  have := row_rounds fu hfu (fun q => some (q, ())) b hb hl fu 0 r (by omega) (by omega)
  rw [List.drop_zero] at this
  exact this
theorem refSum_eq (fu : Nat) (hfu : 8 < fu) (b : List Int) (hb : By b) (hl : b.length ≤ 1000000) (hf : b.length < fu) : ref01Sum fu b = some (wv (moreB 0#32 b), ()) := by
  unfold ref01Sum
  have := row_eq fu hfu b hb hl hf 4294967295#32
  rw [show wv 4294967295#32 = 4294967295 from rfl] at this
  rw [this]
  have e := xor_wv (rowB 4294967295#32 b) 4294967295#32
  rw [show wv 4294967295#32 = 4294967295 from rfl] at e
  simp only [Option.bind_some, e]
  unfold moreB
  rw [BitVec.zero_xor]
theorem or_add32 (n a k : Nat) (h : n < 2 ^ k) (ht : n + a * 2 ^ k < 4294967296) : bOr .u32 ((a * 2 ^ k : Nat) : Int) (n : Int) = (a * 2 ^ k + n : Nat) := by
  show IntKind.u32.wrap (((BitVec.ofInt 32 ((a * 2 ^ k : Nat) : Int) ||| BitVec.ofInt 32 (n : Int)).toNat : Nat) : Int) = _
  rw [BitVec.ofInt_natCast, BitVec.ofInt_natCast]
  have h1 : n < 2 ^ 32 := by omega
  have h2 : a * 2 ^ k < 2 ^ 32 := by omega
  rw [BitVec.toNat_or, BitVec.toNat_ofNat, BitVec.toNat_ofNat, Nat.mod_eq_of_lt h1, Nat.mod_eq_of_lt h2, Nat.mul_comm a, ← Nat.two_pow_add_eq_or_of_lt h]
  rw [Nat.mul_comm a] at ht
  rw [wrap_u32 (by omega) (by omega)]
theorem shl32 (x : Int) (k : Nat) (hk : k < 32) (h0 : 0 ≤ x) (h : x * 2 ^ k < 4294967296) : sShl .u32 x (k : Int) = x * 2 ^ k := by
  unfold sShl
  have e : min (k : Int).toNat IntKind.u32.bits = k := by simp only [IntKind.bits]; omega
  rw [e]
  exact wrap_u32 (Int.mul_nonneg h0 (by exact_mod_cast Nat.zero_le _)) h
def four (n : Int) : List Int := [n / 16777216 % 256, n / 65536 % 256, n / 256 % 256, n % 256]
theorem four_len (n : Int) : (four n).length = 4 := rfl
theorem four_by (n : Int) : By (four n) := fun x hx => by
  simp only [four, List.mem_cons, List.not_mem_nil, or_false] at hx
  omega
def val4 (l : List Int) : Int := ixL (0 : Int) l 0 * 16777216 + ixL (0 : Int) l 1 * 65536 + ixL (0 : Int) l 2 * 256 + ixL (0 : Int) l 3
theorem val_four (n : Int) (h0 : 0 ≤ n) (h1 : n < 4294967296) (r : List Int) : val4 (four n ++ r) = n := by
  show n / 16777216 % 256 * 16777216 + n / 65536 % 256 * 65536 + n / 256 % 256 * 256 + n % 256 = n
  omega
theorem split4 {l : List Int} (hl : 4 ≤ l.length) : ∃ a b c d r, l = a :: b :: c :: d :: r := by
  match l, hl with
  | a :: b :: c :: d :: r, _ => exact ⟨a, b, c, d, r, rfl⟩
theorem val4_in {l : List Int} (hb : By l) (hl : 4 ≤ l.length) : 0 ≤ val4 l ∧ val4 l < 4294967296 := by
  obtain ⟨a, b, c, d, r, rfl⟩ := split4 hl
  have ha := hb a (by simp)
  have hb' := hb b (by simp)
  have hc := hb c (by simp)
  have hd := hb d (by simp)
  show 0 ≤ a * 16777216 + b * 65536 + c * 256 + d ∧ a * 16777216 + b * 65536 + c * 256 + d < _
  omega
theorem get4_eq (fu : Nat) {l : List Int} (hb : By l) (hl : 4 ≤ l.length) : recGetF46 fu l = some (val4 l, ()) := by
  obtain ⟨a, b, c, d, r, rfl⟩ := split4 hl
  have ha := hb a (by simp)
  have hb' := hb b (by simp)
  have hc := hb c (by simp)
  have hd := hb d (by simp)
  have x0 : ixOk (a :: b :: c :: d :: r) 0 = true := by simp [ixOk]; omega
  have x1 : ixOk (a :: b :: c :: d :: r) 1 = true := by simp [ixOk]; omega
  have x2 : ixOk (a :: b :: c :: d :: r) 2 = true := by simp [ixOk]; omega
  have x3 : ixOk (a :: b :: c :: d :: r) 3 = true := by simp [ixOk]; omega
  have y0 : ixL (0 : Int) (a :: b :: c :: d :: r) 0 = a := rfl
  have y1 : ixL (0 : Int) (a :: b :: c :: d :: r) 1 = b := rfl
  have y2 : ixL (0 : Int) (a :: b :: c :: d :: r) 2 = c := rfl
  have y3 : ixL (0 : Int) (a :: b :: c :: d :: r) 3 = d := rfl
  have w : ∀ x : Int, 0 ≤ x → x ≤ 255 → IntKind.u32.wrap x = x := fun x h0 h1 => wrap_u32 h0 (by omega)
  unfold recGetF46 val4
  simp only [x0, x1, x2, x3, y0, y1, y2, y3, chk, cond_true, w a ha.1 ha.2, w b hb'.1 hb'.2, w c hc.1 hc.2, w d hd.1 hd.2]
  have s1 : sShl .u32 a 24 = a * 16777216 := by have := shl32 a 24 (by omega) ha.1 (by omega); simpa using this
  have s2 : sShl .u32 b 16 = b * 65536 := by have := shl32 b 16 (by omega) hb'.1 (by omega); simpa using this
  have s3 : sShl .u32 c 8 = c * 256 := by have := shl32 c 8 (by omega) hc.1 (by omega); simpa using this
  rw [s1, s2, s3]
  obtain ⟨A, rfl⟩ := Int.eq_ofNat_of_zero_le ha.1
  obtain ⟨B, rfl⟩ := Int.eq_ofNat_of_zero_le hb'.1
  obtain ⟨C, rfl⟩ := Int.eq_ofNat_of_zero_le hc.1
  obtain ⟨D, rfl⟩ := Int.eq_ofNat_of_zero_le hd.1
  have o1 : bOr .u32 ((A : Int) * 16777216) ((B : Int) * 65536) = (A : Int) * 16777216 + (B : Int) * 65536 := by
    have := or_add32 (B * 65536) A 24 (by omega) (by omega)
    simpa using this
  have o2 : bOr .u32 ((A : Int) * 16777216 + (B : Int) * 65536) ((C : Int) * 256) = (A : Int) * 16777216 + (B : Int) * 65536 + (C : Int) * 256 := by
    have := or_add32 (C * 256) (A * 256 + B) 16 (by omega) (by omega)
    rw [show (A * 256 + B) * 2 ^ 16 = A * 16777216 + B * 65536 by omega] at this
    simpa using this
  have o3 : bOr .u32 ((A : Int) * 16777216 + (B : Int) * 65536 + (C : Int) * 256) (D : Int) = (A : Int) * 16777216 + (B : Int) * 65536 + (C : Int) * 256 + (D : Int) := by
    have := or_add32 D (A * 65536 + B * 256 + C) 8 (by omega) (by omega)
    rw [show (A * 65536 + B * 256 + C) * 2 ^ 8 = A * 16777216 + B * 65536 + C * 256 by omega] at this
    simpa using this
  rw [o1, o2, o3]
theorem ref4_eq (fu : Nat) (n : Int) (h0 : 0 ≤ n) (h1 : n < 4294967296) : ref08Four fu n = some (four n, ()) := by
  unfold ref08Four
  have t1 : ∀ k : Int, 0 < k → IntKind.u32.wrap (Int.tdiv n k) = n / k := fun k hk => by
    rw [Int.tdiv_eq_ediv_of_nonneg h0]
    have : n / k ≤ n := Int.ediv_le_self k h0
    have : 0 ≤ n / k := Int.ediv_nonneg h0 (by omega)
    exact wrap_u32 (by omega) (by omega)
  have t2 : ∀ x : Int, 0 ≤ x → Int.tmod x 256 = x % 256 := fun x hx => Int.tmod_eq_emod_of_nonneg hx
  simp only [t1 16777216 (by omega), t1 65536 (by omega), t1 256 (by omega), wrap_u8, t2 (n / 65536) (by omega), t2 (n / 256) (by omega), t2 n h0]
  unfold four
  have e : n % 256 % 256 = n % 256 := by omega
  have e2 : n / 65536 % 256 % 256 = n / 65536 % 256 := by omega
  have e3 : n / 256 % 256 % 256 = n / 256 % 256 := by omega
  rw [e, e2, e3]
def sumI (b : List Int) : Int := wv (moreB 0#32 b)
theorem sumI_in (b : List Int) : 0 ≤ sumI b ∧ sumI b < 4294967296 := wv_lt _
theorem more_more (a b : List Int) : moreB (moreB 0#32 a) b = moreB 0#32 (a ++ b) := by
  unfold moreB
  rw [BitVec.xor_assoc, BitVec.xor_self, BitVec.xor_zero]
  unfold rowB
  rw [List.foldl_append]
def frame (r : List Int) : List Int := four r.length ++ four (sumI (four r.length ++ r)) ++ r
theorem frame_len (r : List Int) : (frame r).length = 8 + r.length := by unfold frame; simp [four_len]; omega
theorem by_drop {l : List Int} (h : By l) (n : Nat) : By (l.drop n) := fun b hb => h b (List.mem_of_mem_drop hb)
theorem frame_by {r : List Int} (h : By r) : By (frame r) := by_app (by_app (four_by _) (four_by _)) h
theorem cut_end (b : List Int) (x : Int) : cutL b x b.length = b.drop x.toNat := by
  unfold cutL
  rw [List.take_of_length_le]
  rw [List.length_drop]; omega
theorem ref8Put_eq (fu : Nat) (hfu : 190000 ≤ fu) (b r : List Int) (hb : By b) (hr : By r) (hl : b.length ≤ 100000) (hrl : r.length ≤ 100000) : ref08Put fu b r = some (if r.length > 65536 then ([], 4, ()) else (b ++ frame r, 0, ())) := by
  unfold ref08Put
  by_cases h : r.length > 65536
  · have h' : (r.length : Int) > 65536 := by omega
    simp only [h', decide_true, cond_true, if_pos h]
  · have h' : ¬ (r.length : Int) > 65536 := by omega
    have e5 : IntKind.u32.wrap (r.length : Int) = r.length := wrap_u32 (by omega) (by omega)
    simp only [h', decide_false, cond_false, if_neg h, e5, ref4_eq fu (r.length : Int) (by omega) (by omega), Option.bind_some, List.nil_append, chk]
    rw [apOk1 (by simp [four_len]), apOk1 (by simp [four_len]; omega), apOk1 (by simp; omega), apOk1 (by simp [four_len]; omega)]
    simp only [cond_true]
    rw [refSum_eq fu (by omega) _ (by_app (four_by _) hr) (by simp [four_len]; omega) (by simp [four_len]; omega)]
    simp only [Option.bind_some]
    rw [ref4_eq fu _ (wv_lt _).1 (wv_lt _).2]
    simp only [Option.bind_some]
    rw [apOk1 (by simp [four_len]; omega), apOk1 (by simp [four_len]; omega)]
    simp only [cond_true]
    unfold frame sumI
    simp only [List.append_assoc]
def got8 (b : List Int) (at' : Int) : List Int × Int × Int :=
  if at' < 0 ∨ at' > (b.length : Int) - 4 then ([], 0, 3)
  else if val4 (b.drop at'.toNat) > 65536 then ([], 0, 4)
  else if 8 + val4 (b.drop at'.toNat) > (b.length : Int) - at' then ([], 0, 3)
  else if sumI (cutL b at' (at' + 4) ++ cutL b (at' + 8) (at' + 8 + val4 (b.drop at'.toNat))) ≠ val4 (b.drop (at' + 4).toNat) then ([], 0, 6)
  else (cutL b (at' + 8) (at' + 8 + val4 (b.drop at'.toNat)), at' + 8 + val4 (b.drop at'.toNat), 0)
theorem clone_eq (fu : Nat) (l : List Int) (hl : l.length ≤ 900000) : slicesCloneDat fu l = some (l, ()) := by
  unfold slicesCloneDat
  cases l with
  | nil =>
    show both _ _ = _
    have : (chk (apOk ([] : List Int) [] 1) (some (([] : List Int) ++ [], ())) : Option (List Int × Unit)) = some ([], ()) := by rw [apOk1 (by simp)]; rfl
    unfold both
    rw [if_pos this.symm]
  | cons x r =>
    show chk (apOk [] (x :: r) 1) _ = _
    rw [apOk1 (by simp at hl ⊢; omega)]
    rfl
theorem recGet_eq (fu : Nat) (b : List Int) (hb : By b) (hl : b.length ≤ 100000) (hfu : b.length < fu) (at' : Int) (h63 : -9223372036854775808 ≤ at' ∧ at' < 9223372036854775808) : recGet fu b at' = some ((got8 b at').1, (got8 b at').2.1, (got8 b at').2.2, ()) := by
  unfold recGet got8
  by_cases h0 : at' < 0
  · have : at' < 0 ∨ at' > (b.length : Int) - 4 := .inl h0
    rw [if_pos this]
    simp only [h0, decide_true, cond_true]
  · have e1 : IntKind.i64.wrap ((b.length : Int) - 4) = b.length - 4 := wrap_i64 (by omega) (by omega)
    by_cases h1 : at' > (b.length : Int) - 4
    · have : at' < 0 ∨ at' > (b.length : Int) - 4 := .inr h1
      rw [if_pos this]
      simp only [h0, h1, e1, decide_true, decide_false, cond_true, cond_false]
    · have h2 : ¬ (at' < 0 ∨ at' > (b.length : Int) - 4) := by omega
      have hd : By (b.drop at'.toNat) := by_drop hb _
      have hdl : 4 ≤ (b.drop at'.toNat).length := by rw [List.length_drop]; omega
      have hv := val4_in hd hdl
      rw [if_neg h2]
      simp only [h0, h1, e1, decide_false, cond_false, cut_end, get4_eq fu hd hdl, Option.bind_some]
      rw [cutOk_of (by omega) (by omega) (Int.le_refl _)]
      simp only [chk, cond_true]
      generalize hn : val4 (b.drop at'.toNat) = n at hv
      by_cases h3 : n > 65536
      · simp only [h3, decide_true, cond_true, if_true]
      · have w1 : IntKind.i64.wrap n = n := wrap_i64 (by omega) (by omega)
        have w2 : IntKind.i64.wrap ((8 : Int) + n) = 8 + n := wrap_i64 (by omega) (by omega)
        have w3 : IntKind.i64.wrap ((b.length : Int) - at') = b.length - at' := wrap_i64 (by omega) (by omega)
        simp only [h3, decide_false, cond_false, if_false, w1, w2, w3]
        by_cases h4 : 8 + n > (b.length : Int) - at'
        · simp only [h4, decide_true, cond_true, if_true]
        · have w4 : IntKind.i64.wrap (at' + 8) = at' + 8 := wrap_i64 (by omega) (by omega)
          have w5 : IntKind.i64.wrap (at' + 8 + n) = at' + 8 + n := wrap_i64 (by omega) (by omega)
          have w6 : IntKind.i64.wrap (at' + 4) = at' + 4 := wrap_i64 (by omega) (by omega)
          have c1 : cutOk b (at' + 8) (at' + 8 + n) = true := cutOk_of (by omega) (by omega) (by omega)
          have c2 : cutOk b at' (at' + 4) = true := cutOk_of (by omega) (by omega) (by omega)
          have c3 : cutOk b (at' + 4) b.length = true := cutOk_of (by omega) (by omega) (by omega)
          have l1 : (cutL b at' (at' + 4)).length ≤ b.length := by unfold cutL; rw [List.length_take, List.length_drop]; omega
          have l2 : (cutL b (at' + 8) (at' + 8 + n)).length ≤ b.length := by unfold cutL; rw [List.length_take, List.length_drop]; omega
          have hd2 : By (b.drop (at' + 4).toNat) := by_drop hb _
          have hdl2 : 4 ≤ (b.drop (at' + 4).toNat).length := by rw [List.length_drop]; omega
          simp only [h4, decide_false, cond_false, if_false, w4, w5, w6, c1, c2, c3, cond_true, sum_eq fu _ (by_cut hb _ _) (Nat.le_trans l1 (by omega)) (Nat.lt_of_le_of_lt l1 hfu), more_eq fu _ (by_cut hb _ _) (Nat.le_trans l2 (by omega)) (Nat.lt_of_le_of_lt l2 hfu), Option.bind_some, more_more, get4_eq fu hd2 hdl2, clone_eq fu _ (Nat.le_trans l2 (by omega))]
          show (cond (sumI (cutL b at' (at' + 4) ++ cutL b (at' + 8) (at' + 8 + n)) != val4 (b.drop (at' + 4).toNat)) _ _ : Option _) = _
          by_cases h5 : sumI (cutL b at' (at' + 4) ++ cutL b (at' + 8) (at' + 8 + n)) = val4 (b.drop (at' + 4).toNat)
          · have : (sumI (cutL b at' (at' + 4) ++ cutL b (at' + 8) (at' + 8 + n)) != val4 (b.drop (at' + 4).toNat)) = false := by rw [h5]; simp
            rw [this, if_neg (fun hx => hx h5)]
            rfl
          · have : (sumI (cutL b at' (at' + 4) ++ cutL b (at' + 8) (at' + 8 + n)) != val4 (b.drop (at' + 4).toNat)) = true := bne_iff_ne.2 h5
            rw [this, if_pos h5]
            rfl
theorem cut_mid8 (a s r : List Int) (x y : Int) (hx : x = a.length) (hy : y = a.length + s.length) : cutL (a ++ s ++ r) x y = s := by
  subst hx hy
  unfold cutL
  rw [show ((a.length : Int) + (s.length : Int) - (a.length : Int)).toNat = s.length by omega, Int.toNat_natCast, List.append_assoc, List.drop_left, List.take_left]
theorem got8_put (a r rest : List Int) (hr : r.length ≤ 65536) : got8 (a ++ frame r ++ rest) a.length = (r, (a.length : Int) + 8 + r.length, 0) := by
  have hd1 : (a ++ frame r ++ rest).drop ((a.length : Int)).toNat = four r.length ++ (four (sumI (four r.length ++ r)) ++ (r ++ rest)) := by
    rw [Int.toNat_natCast, List.append_assoc, List.drop_left]
    unfold frame
    simp only [List.append_assoc]
  have hd2 : (a ++ frame r ++ rest).drop ((a.length : Int) + 4).toNat = four (sumI (four r.length ++ r)) ++ (r ++ rest) := by
    rw [show ((a.length : Int) + 4).toNat = a.length + 4 by omega, ← List.drop_drop]
    rw [Int.toNat_natCast] at hd1
    rw [hd1]
    rw [show 4 = (four r.length).length from rfl, List.drop_left]
  have v1 : val4 ((a ++ frame r ++ rest).drop ((a.length : Int)).toNat) = r.length := by rw [hd1]; exact val_four _ (by omega) (by omega) _
  have hS := sumI_in (four r.length ++ r)
  have v2 : val4 ((a ++ frame r ++ rest).drop ((a.length : Int) + 4).toNat) = sumI (four r.length ++ r) := by rw [hd2]; exact val_four _ hS.1 hS.2 _
  have hl : ((a ++ frame r ++ rest).length : Int) = a.length + 8 + r.length + rest.length := by
    rw [List.length_append, List.length_append, frame_len]; omega
  have c1 : cutL (a ++ frame r ++ rest) (a.length : Int) ((a.length : Int) + 4) = four r.length := by
    have e : a ++ frame r ++ rest = a ++ four r.length ++ (four (sumI (four r.length ++ r)) ++ r ++ rest) := by unfold frame; simp only [List.append_assoc]
    rw [e]; exact cut_mid8 _ _ _ _ _ rfl rfl
  have c2 : cutL (a ++ frame r ++ rest) ((a.length : Int) + 8) ((a.length : Int) + 8 + r.length) = r := by
    have e : a ++ frame r ++ rest = (a ++ four r.length ++ four (sumI (four r.length ++ r))) ++ r ++ rest := by unfold frame; simp only [List.append_assoc]
    rw [e]; exact cut_mid8 _ _ _ _ _ (by simp [four_len] <;> omega) (by simp [four_len] <;> omega)
  unfold got8
  rw [v1, v2, c1, c2, hl, if_neg (by omega), if_neg (by omega), if_neg (by omega), if_neg (fun h => h rfl)]
abbrev Fr : Type := Int × Int × Int × Int × Int × List Int × Unit
structure Has (fu : Nat) (k l : Int) (h0 h1 h2 h3 h4 : Bool) : Prop where
  of : frameOf fu k = some (l, true, ())
  a0 : frameHas fu l 1 = some (h0, ())
  a1 : frameHas fu l 2 = some (h1, ())
  a2 : frameHas fu l 4 = some (h2, ())
  a3 : frameHas fu l 8 = some (h3, ())
  a4 : frameHas fu l 16 = some (h4, ())
  ref : ref20Fields fu k = some ([h0, h1, h2, h3, h4], true, ())
theorem has_kind (fu : Nat) (k : Int) (h0 : 1 ≤ k) (h1 : k ≤ 17) : ∃ l a b c d e, Has fu k l a b c d e := by
  obtain rfl | rfl | rfl | rfl | rfl | rfl | rfl | rfl | rfl | rfl | rfl | rfl | rfl | rfl | rfl | rfl | rfl : k = 1 ∨ k = 2 ∨ k = 3 ∨ k = 4 ∨ k = 5 ∨ k = 6 ∨ k = 7 ∨ k = 8 ∨ k = 9 ∨ k = 10 ∨ k = 11 ∨ k = 12 ∨ k = 13 ∨ k = 14 ∨ k = 15 ∨ k = 16 ∨ k = 17 := by omega
  all_goals exact ⟨_, _, _, _, _, _, rfl, rfl, rfl, rfl, rfl, rfl, rfl⟩
theorem no_kind (fu : Nat) (k : Int) (h : ¬ (1 ≤ k ∧ k ≤ 17)) : frameOf fu k = some (0, false, ()) ∧ ref20Fields fu k = some ([], false, ()) := by
  constructor
  · unfold frameOf
    by_cases h1 : k < 1
    · rw [decide_eq_true h1]; rfl
    · rw [decide_eq_false h1, decide_eq_true (show k > 17 by omega)]; rfl
  · have e : ∀ n : Int, 1 ≤ n → n ≤ 17 → (k == n) = false := fun n a b => ne_beq (by omega)
    unfold ref20Fields ref20Fields.j9010 ref20Fields.j17013 ref20Fields.j21016 ref20Fields.j28022 ref20Fields.j27
    simp only [e 1 (by omega) (by omega), e 2 (by omega) (by omega), e 3 (by omega) (by omega), e 4 (by omega) (by omega), e 5 (by omega) (by omega), e 6 (by omega) (by omega), e 7 (by omega) (by omega), e 8 (by omega) (by omega), e 9 (by omega) (by omega), e 10 (by omega) (by omega), e 11 (by omega) (by omega), e 12 (by omega) (by omega), e 13 (by omega) (by omega), e 14 (by omega) (by omega), e 15 (by omega) (by omega), e 16 (by omega) (by omega), e 17 (by omega) (by omega), cond_false]
def plainB (a b c d e : Bool) (f : Fr) : Bool := (a || decide (f.2.1 = 0)) && ((b || decide (f.2.2.1 = 0)) && ((c || decide (f.2.2.2.1 = 0)) && ((d || decide (f.2.2.2.2.1 = 0)) && (e || decide (f.2.2.2.2.2.1.length = 0)))))
def opt (h : Bool) (n : Int) : List Int := cond h (putN 9 n) []
def putF (a b c d e : Bool) (f : Fr) : List Int := f.1 :: (opt a f.2.1 ++ (opt b f.2.2.1 ++ (opt c f.2.2.2.1 ++ (opt d f.2.2.2.2.1 ++ cond e (putN 9 f.2.2.2.2.2.1.length ++ f.2.2.2.2.2.1) []))))
def frOk (f : Fr) : Prop := (0 ≤ f.1 ∧ f.1 ≤ 255) ∧ (0 ≤ f.2.1 ∧ f.2.1 ≤ 4294967295) ∧ (0 ≤ f.2.2.1 ∧ f.2.2.1 ≤ 4294967295) ∧ (0 ≤ f.2.2.2.1 ∧ f.2.2.2.1 < 18446744073709551616) ∧ (0 ≤ f.2.2.2.2.1 ∧ f.2.2.2.2.1 < 18446744073709551616) ∧ By f.2.2.2.2.2.1 ∧ f.2.2.2.2.2.1.length ≤ 10000
theorem opt_len (h : Bool) (n : Int) : (opt h n).length ≤ 10 := by
  have := putN_len 9 n
  unfold opt
  cases h
  · simp
  · exact this.1
theorem ref_step (fu : Nat) (hfu : 12 ≤ fu) (k1 : List Int → Int → Option (List Int × Int × Unit)) (k2 : List Int → List Bool → List Int → Fr → Option (List Int × Int × Unit)) (m : Nat) (hs : List Bool) (l : List Int) (b : List Int) (i : Nat) (hi : i < 4) (b0 : Fr) (n : Int) (h : Bool) (hx : ixL (0 : Int) l i = n) (hok : ixOk l i = true) (hy : ixL false hs i = h) (hok2 : ixOk hs i = true) (h0 : 0 ≤ n) (h1 : n < 18446744073709551616) (hl : b.length ≤ 400000) :
    ref20Put.l8 fu k1 k2 (m + 1) [] hs l b 4 i b0 = cond (h || decide (n = 0)) (ref20Put.l8 fu k1 k2 m [] hs l (b ++ opt h n) 4 ((i + 1 : Nat) : Int) b0) (k1 [] 1) := by
  have e1 : IntKind.i64.wrap ((i : Int) + 1) = ((i + 1 : Nat) : Int) := wrap_i64 (by omega) (by omega)
  conv => lhs; unfold ref20Put.l8 ref20Put.b8
  rw [decide_eq_true (by omega), cond_true, hok, hok2, hx, hy]
  simp only [chk, cond_true, refPutD_eq fu hfu b n hl h0 h1, Option.bind_some, e1]
  cases h
  · simp only [cond_false, opt, List.append_nil, Bool.false_or]
    by_cases hn : n = 0
    · rw [decide_eq_true hn, hn]; rfl
    · rw [decide_eq_false hn, ne_bne hn]; rfl
  · simp only [cond_true, opt, Bool.true_or]
theorem ref_end (fu : Nat) (k1 : List Int → Int → Option (List Int × Int × Unit)) (k2 : List Int → List Bool → List Int → Fr → Option (List Int × Int × Unit)) (m : Nat) (hs : List Bool) (l : List Int) (b : List Int) (b0 : Fr) : ref20Put.l8 fu k1 k2 (m + 1) [] hs l b 4 4 b0 = k2 [] hs b b0 := by
  unfold ref20Put.l8 ref20Put.b8
  rfl
def outF (a b c d e : Bool) (f : Fr) : List Int × Int := if plainB a b c d e f = true then (if (putF a b c d e f).length > 8192 then ([], 4) else (frame (putF a b c d e f), 0)) else ([], 1)
theorem putF_len (a b c d e : Bool) (f : Fr) : (putF a b c d e f).length ≤ 51 + f.2.2.2.2.2.1.length := by
  have o1 := opt_len a f.2.1
  have o2 := opt_len b f.2.2.1
  have o3 := opt_len c f.2.2.2.1
  have o4 := opt_len d f.2.2.2.2.1
  have o5 := putN_len 9 (f.2.2.2.2.2.1.length)
  unfold putF
  cases e
  · simp only [cond_false, List.length_append, List.length_cons, List.length_nil]; omega
  · simp only [cond_true, List.length_append, List.length_cons]; omega
theorem opt_by (h : Bool) (n : Int) (h0 : 0 ≤ n) (h1 : n < 18446744073709551616) : By (opt h n) := by
  unfold opt
  cases h
  · exact fun _ hx => nomatch hx
  · exact putN_by9 n h0 h1
theorem putF_by (a b c d e : Bool) {f : Fr} (hf : frOk f) : By (putF a b c d e f) := by
  obtain ⟨f0, f1, f2, f3, f4, f5, f6⟩ := hf
  unfold putF
  intro x hx
  rcases List.mem_cons.1 hx with rfl | hx
  · exact f0
  · refine by_app (opt_by a _ (by omega) (by omega)) (by_app (opt_by b _ (by omega) (by omega)) (by_app (opt_by c _ (by omega) (by omega)) (by_app (opt_by d _ (by omega) (by omega)) ?_))) x hx
    cases e
    · exact fun _ hx => nomatch hx
    · exact by_app (putN_by9 _ (by omega) (by omega)) f5
theorem refFPut_eq (m : Nat) (hm : 200000 ≤ m) {f : Fr} (hf : frOk f) {l : Int} {a b c d e : Bool} (h : Has (m + 5) f.1 l a b c d e) : ref20Put (m + 5) f = some ((outF a b c d e f).1, (outF a b c d e f).2, ()) := by
  have hlen := putF_len a b c d e f
  have hby := putF_by a b c d e hf
  obtain ⟨f0, f1, f2, f3, f4, f5, f6⟩ := hf
  have o1 := opt_len a f.2.1
  have o2 := opt_len b f.2.2.1
  have o3 := opt_len c f.2.2.2.1
  have o4 := opt_len d f.2.2.2.2.1
  have e1 : IntKind.u64.wrap f.2.1 = f.2.1 := wrap_u64 (by omega) (by omega)
  have e2 : IntKind.u64.wrap f.2.2.1 = f.2.2.1 := wrap_u64 (by omega) (by omega)
  have fin : ∀ r : List Int, r = putF a b c d e f → ref20Put.j19 (m + 5) (fun vq5 vq5x2 => some (vq5, vq5x2, ())) [] r = some ((if r.length > 8192 then (([] : List Int), (4 : Int)) else (frame r, 0)).1, (if r.length > 8192 then (([] : List Int), (4 : Int)) else (frame r, 0)).2, ()) := fun r hr => by
    subst hr
    unfold ref20Put.j19
    by_cases hl : (putF a b c d e f).length > 8192
    · simp only [decide_eq_true (show ((putF a b c d e f).length : Int) > 8192 by omega), cond_true, if_pos hl]
    · rw [ref8Put_eq (m + 5) (by omega) [] _ (fun _ hx => nomatch hx) hby (by simp) (by omega)]
      simp only [decide_eq_false (show ¬ ((putF a b c d e f).length : Int) > 8192 by omega), cond_false, if_neg hl, Option.bind_some, if_neg (show ¬ (putF a b c d e f).length > 65536 by omega), List.nil_append]
  unfold ref20Put
  rw [h.ref]
  simp only [Option.bind_some, e1, e2, Bool.not_true, cond_false]
  refine (ref_step (m + 5) (by omega) _ _ (m + 4) [a, b, c, d, e] _ [f.1] 0 (by omega) f f.2.1 a rfl rfl rfl rfl (by omega) (by omega) (by simp)).trans ?_
  unfold outF plainB
  cases g1 : (a || decide (f.2.1 = 0)) with
  | false => rfl
  | true =>
    simp only [cond_true, Bool.true_and]
    refine (ref_step (m + 5) (by omega) _ _ (m + 3) [a, b, c, d, e] _ _ 1 (by omega) f f.2.2.1 b rfl rfl rfl rfl (by omega) (by omega) (by simp only [List.length_append, List.length_cons, List.length_nil]; omega)).trans ?_
    cases g2 : (b || decide (f.2.2.1 = 0)) with
    | false => rfl
    | true =>
      simp only [cond_true, Bool.true_and]
      refine (ref_step (m + 5) (by omega) _ _ (m + 2) [a, b, c, d, e] _ _ 2 (by omega) f f.2.2.2.1 c rfl rfl rfl rfl (by omega) (by omega) (by simp only [List.length_append, List.length_cons, List.length_nil]; omega)).trans ?_
      cases g3 : (c || decide (f.2.2.2.1 = 0)) with
      | false => rfl
      | true =>
        simp only [cond_true, Bool.true_and]
        refine (ref_step (m + 5) (by omega) _ _ (m + 1) [a, b, c, d, e] _ _ 3 (by omega) f f.2.2.2.2.1 d rfl rfl rfl rfl (by omega) (by omega) (by simp only [List.length_append, List.length_cons, List.length_nil]; omega)).trans ?_
        cases g4 : (d || decide (f.2.2.2.2.1 = 0)) with
        | false => rfl
        | true =>
          simp only [cond_true, Bool.true_and]
          refine (ref_end (m + 5) _ _ m _ _ _ f).trans ?_
          have x4 : ixOk [a, b, c, d, e] (4 : Int) = true := rfl
          have y4 : ixL false [a, b, c, d, e] (4 : Int) = e := rfl
          rw [x4, y4]
          simp only [chk, cond_true]
          cases e with
          | true =>
            rw [refPutText_eq (m + 5) (by omega) _ _ (by simp only [List.length_append, List.length_cons, List.length_nil]; omega) (by omega)]
            simp only [cond_true, Option.bind_some, Bool.true_or, if_true]
            rw [fin _ (by unfold putF; simp only [cond_true, List.append_assoc, List.cons_append, List.nil_append])]
            unfold putF
            simp only [cond_true, List.append_assoc, List.cons_append, List.nil_append]
          | false =>
            simp only [cond_false, Bool.false_or]
            by_cases hz : f.2.2.2.2.2.1.length = 0
            · rw [decide_eq_false (show ¬ (f.2.2.2.2.2.1.length : Int) > 0 by omega), decide_eq_true hz, cond_false, if_pos rfl]
              rw [fin _ (by unfold putF; simp only [cond_false, List.append_nil, List.append_assoc, List.cons_append, List.nil_append])]
              unfold putF
              simp only [cond_false, List.append_nil, List.append_assoc, List.cons_append, List.nil_append]
            · rw [decide_eq_true (show (f.2.2.2.2.2.1.length : Int) > 0 by omega), decide_eq_false hz]; rfl
theorem text_put8 (a s : List Int) (hs : s.length ≤ 8192) : text1 (a ++ (putN 9 s.length ++ s)) a.length 8192 = (s, (((a ++ (putN 9 s.length ++ s)).length : Nat) : Int), 0) := by
  have g := got_put a s s.length (by omega) (by omega)
  rw [show a ++ putN 9 (s.length : Int) ++ s = a ++ (putN 9 s.length ++ s) by simp] at g
  unfold text1
  rw [g]
  simp only
  rw [if_neg (by simp), if_neg (by omega), if_neg (by simp; omega)]
  have := cut_mid (a ++ putN 9 s.length) s []
  rw [show a ++ putN 9 (s.length : Int) ++ s ++ [] = a ++ (putN 9 s.length ++ s) by simp, List.length_append] at this
  rw [show ((a.length : Int) + ((putN 9 (s.length : Int)).length : Int)) = ((a.length + (putN 9 (s.length : Int)).length : Nat) : Int) by omega, this]
  simp; omega
theorem rd_num (fu : Nat) {P A R : List Int} {l field most n : Int} {h : Bool} (hb : By P) (hl : P.length ≤ 100000) (hfu : P.length < fu) (hP : P = A ++ opt h n ++ R) (hh : frameHas fu l field = some (h, ())) (hn : (h || decide (n = 0)) = true) (h0 : 0 ≤ n) (h1 : n < 18446744073709551616) (hm : n ≤ most) :
    frameReaderNumber fu (P, (A.length : Int), l, (0 : Int), ()) field most = some ((n, ()), ((P, (((A ++ opt h n).length : Nat) : Int), l, (0 : Int), ()), ())) := by
  have b0 : ((0 : Int) != 0) = false := rfl
  unfold frameReaderNumber
  simp only [b0, cond_false, hh, Option.bind_some]
  cases h with
  | false =>
    have : n = 0 := by simpa using hn
    subst this
    simp only [Bool.not_false, cond_true, opt, cond_false, List.append_nil]
  | true =>
    have g := got_put A R n h0 h1
    have hP' : P = A ++ putN 9 n ++ R := hP
    rw [← hP'] at g
    rw [packGet_eq fu P hb hl hfu, g]
    have b1 : ((0 : Int) == 0) = true := rfl
    simp only [Bool.not_true, cond_false, Option.bind_some, b1, cond_true, decide_eq_false (show ¬ n > most by omega), frameReaderNumber.j6, opt, List.length_append, Int.natCast_add]
theorem rd_text (fu : Nat) {P A s : List Int} {l : Int} {h : Bool} (hb : By P) (hl : P.length ≤ 8192) (hfu : P.length < fu) (hP : P = A ++ cond h (putN 9 s.length ++ s) []) (hh : frameHas fu l 16 = some (h, ())) (hn : (h || decide (s.length = 0)) = true) :
    frameReaderText fu (P, (A.length : Int), l, (0 : Int), ()) = some ((s, ()), ((P, (P.length : Int), l, (0 : Int), ()), ())) := by
  have b0 : ((0 : Int) != 0) = false := rfl
  unfold frameReaderText
  simp only [b0, cond_false, hh, Option.bind_some]
  cases h with
  | false =>
    have hs : s.length = 0 := by simpa using hn
    have hs : s = [] := List.eq_nil_of_length_eq_zero hs
    subst hs
    have : P = A := by rw [hP]; simp
    subst this
    simp only [Bool.not_false, cond_true]
  | true =>
    have hP' : P = A ++ (putN 9 s.length ++ s) := hP
    have hs : s.length ≤ 8192 := by rw [hP'] at hl; simp only [List.length_append] at hl; omega
    have g := text_put8 A s hs
    rw [← hP'] at g
    rw [getText_eq fu P hb (by omega) hfu _ _ (by omega), g]
    simp only [Bool.not_true, cond_false, Option.bind_some]
theorem same20 (fu : Nat) (f : Fr) : ref20Same fu f f = some (true, ()) := by
  unfold ref20Same
  simp only [beq_self_eq_true, cond_true]
theorem or_add64 (n a k : Nat) (h : n < 2 ^ k) (ht : n + a * 2 ^ k < 4294967296) : bOr .i64 ((a * 2 ^ k : Nat) : Int) (n : Int) = (a * 2 ^ k + n : Nat) := by
  have hx : BitVec.ofInt 64 ((a * 2 ^ k : Nat) : Int) ||| BitVec.ofInt 64 (n : Int) = BitVec.ofNat 64 (a * 2 ^ k + n) := by
    rw [BitVec.ofInt_natCast, BitVec.ofInt_natCast, ← BitVec.ofNat_or, Nat.mul_comm a, Nat.two_pow_add_eq_or_of_lt h]
  unfold bOr
  show IntKind.i64.wrap (((BitVec.ofInt 64 ((a * 2 ^ k : Nat) : Int) ||| BitVec.ofInt 64 (n : Int)).toNat : Nat) : Int) = _
  rw [hx, BitVec.toNat_ofNat, Nat.mod_eq_of_lt (by omega)]
  exact wrap_i64 (by omega) (by omega)
theorem shl64 (x : Int) (k : Nat) (hk : k < 32) (h0 : 0 ≤ x) (h : x * 2 ^ k < 4294967296) : sShl .i64 x (k : Int) = x * 2 ^ k := by
  unfold sShl
  rw [show min ((k : Int).toNat) IntKind.i64.bits = k by show min k 64 = k; omega]
  have : 0 ≤ x * 2 ^ k := Int.mul_nonneg h0 (Int.le_of_lt (Int.pow_pos (by decide)))
  exact wrap_i64 (by omega) (by omega)
theorem length_eq (fu : Nat) {l : List Int} (hb : By l) (hl : 4 ≤ l.length) : streamLength fu l = some (val4 l, ()) := by
  obtain ⟨a, b, c, d, r, rfl⟩ := split4 hl
  have ha := hb a (by simp)
  have hb' := hb b (by simp)
  have hc := hb c (by simp)
  have hd := hb d (by simp)
  have x0 : ixOk (a :: b :: c :: d :: r) 0 = true := by simp [ixOk]; omega
  have x1 : ixOk (a :: b :: c :: d :: r) 1 = true := by simp [ixOk]; omega
  have x2 : ixOk (a :: b :: c :: d :: r) 2 = true := by simp [ixOk]; omega
  have x3 : ixOk (a :: b :: c :: d :: r) 3 = true := by simp [ixOk]; omega
  have y0 : ixL (0 : Int) (a :: b :: c :: d :: r) 0 = a := rfl
  have y1 : ixL (0 : Int) (a :: b :: c :: d :: r) 1 = b := rfl
  have y2 : ixL (0 : Int) (a :: b :: c :: d :: r) 2 = c := rfl
  have y3 : ixL (0 : Int) (a :: b :: c :: d :: r) 3 = d := rfl
  have w : ∀ x : Int, 0 ≤ x → x ≤ 255 → IntKind.i64.wrap x = x := fun x h0 h1 => wrap_i64 (by omega) (by omega)
  unfold streamLength val4
  simp only [x0, x1, x2, x3, y0, y1, y2, y3, chk, cond_true, w a ha.1 ha.2, w b hb'.1 hb'.2, w c hc.1 hc.2, w d hd.1 hd.2]
  have s1 : sShl .i64 a 24 = a * 16777216 := by have := shl64 a 24 (by omega) ha.1 (by omega); simpa using this
  have s2 : sShl .i64 b 16 = b * 65536 := by have := shl64 b 16 (by omega) hb'.1 (by omega); simpa using this
  have s3 : sShl .i64 c 8 = c * 256 := by have := shl64 c 8 (by omega) hc.1 (by omega); simpa using this
  rw [s1, s2, s3]
  obtain ⟨A, rfl⟩ := Int.eq_ofNat_of_zero_le ha.1
  obtain ⟨B, rfl⟩ := Int.eq_ofNat_of_zero_le hb'.1
  obtain ⟨C, rfl⟩ := Int.eq_ofNat_of_zero_le hc.1
  obtain ⟨D, rfl⟩ := Int.eq_ofNat_of_zero_le hd.1
  have o1 : bOr .i64 ((A : Int) * 16777216) ((B : Int) * 65536) = (A : Int) * 16777216 + (B : Int) * 65536 := by
    have := or_add64 (B * 65536) A 24 (by omega) (by omega)
    simpa using this
  have o2 : bOr .i64 ((A : Int) * 16777216 + (B : Int) * 65536) ((C : Int) * 256) = (A : Int) * 16777216 + (B : Int) * 65536 + (C : Int) * 256 := by
    have := or_add64 (C * 256) (A * 256 + B) 16 (by omega) (by omega)
    rw [show (A * 256 + B) * 2 ^ 16 = A * 16777216 + B * 65536 by omega] at this
    simpa using this
  have o3 : bOr .i64 ((A : Int) * 16777216 + (B : Int) * 65536 + (C : Int) * 256) (D : Int) = (A : Int) * 16777216 + (B : Int) * 65536 + (C : Int) * 256 + (D : Int) := by
    have := or_add64 D (A * 65536 + B * 256 + C) 8 (by omega) (by omega)
    rw [show (A * 65536 + B * 256 + C) * 2 ^ 8 = A * 16777216 + B * 65536 + C * 256 by omega] at this
    simpa using this
  rw [o1, o2, o3]
/-- A frame, its body. -/
structure Wr (fu : Nat) (f : Fr) (P : List Int) : Prop where
  by' : By P
  len : P.length ≤ 8192
  body : frameBody fu P = some (f, 0, ())
theorem body_put (m : Nat) (hm : 200000 ≤ m) {f : Fr} (hf : frOk f) {l : Int} {a b c d e : Bool} (h : Has (m + 5) f.1 l a b c d e) (hp : plainB a b c d e f = true) (hl : (putF a b c d e f).length ≤ 8192) :
    Wr (m + 5) f (putF a b c d e f) := by
  have hby := putF_by a b c d e hf
  refine ⟨hby, hl, ?_⟩
  obtain ⟨f0, f1, f2, f3, f4, f5, f6⟩ := hf
  unfold plainB at hp
  simp only [Bool.and_eq_true] at hp
  obtain ⟨p0, p1, p2, p3, p4⟩ := hp
  have b0 : ((0 : Int) != 0) = false := rfl
  have b1 : ((0 : Int) == 0) = true := rfl
  unfold frameBody
  have hne : (((putF a b c d e f).length : Int) == 0) = false := ne_beq (by unfold putF; simp; omega)
  have i0 : ixOk (putF a b c d e f) (0 : Int) = true := by unfold putF ixOk; simp; omega
  have i1 : ixL (0 : Int) (putF a b c d e f) (0 : Int) = f.1 := rfl
  generalize hPP : putF a b c d e f = P at hby hl hne i0 i1
  have r1 := rd_num (m + 5) (P := P) (A := [f.1]) (R := opt b f.2.2.1 ++ (opt c f.2.2.2.1 ++ (opt d f.2.2.2.2.1 ++ cond e (putN 9 f.2.2.2.2.2.1.length ++ f.2.2.2.2.2.1) []))) hby (by omega) (by omega) (by rw [← hPP]; unfold putF; simp) h.a0 p0 (by omega) (by omega) (show f.2.1 ≤ 4294967295 by omega)
  have r2 := rd_num (m + 5) (P := P) (A := [f.1] ++ opt a f.2.1) (R := opt c f.2.2.2.1 ++ (opt d f.2.2.2.2.1 ++ cond e (putN 9 f.2.2.2.2.2.1.length ++ f.2.2.2.2.2.1) [])) hby (by omega) (by omega) (by rw [← hPP]; unfold putF; simp) h.a1 p1 (by omega) (by omega) (show f.2.2.1 ≤ 4294967295 by omega)
  have r3 := rd_num (m + 5) (P := P) (A := [f.1] ++ opt a f.2.1 ++ opt b f.2.2.1) (R := opt d f.2.2.2.2.1 ++ cond e (putN 9 f.2.2.2.2.2.1.length ++ f.2.2.2.2.2.1) []) hby (by omega) (by omega) (by rw [← hPP]; unfold putF; simp) h.a2 p2 (by omega) (by omega) (show f.2.2.2.1 ≤ 18446744073709551615 by omega)
  have r4 := rd_num (m + 5) (P := P) (A := [f.1] ++ opt a f.2.1 ++ opt b f.2.2.1 ++ opt c f.2.2.2.1) (R := cond e (putN 9 f.2.2.2.2.2.1.length ++ f.2.2.2.2.2.1) []) hby (by omega) (by omega) (by rw [← hPP]; unfold putF; simp) h.a3 p3 (by omega) (by omega) (show f.2.2.2.2.1 ≤ 18446744073709551615 by omega)
  have r5 := rd_text (m + 5) (P := P) (A := [f.1] ++ opt a f.2.1 ++ opt b f.2.2.1 ++ opt c f.2.2.2.1 ++ opt d f.2.2.2.2.1) (s := f.2.2.2.2.2.1) hby hl (by omega) (by rw [← hPP]; unfold putF; simp) h.a4 p4
  have r1' : frameReaderNumber (m + 5) (P, (1 : Int), l, (0 : Int), ()) 1 4294967295 = _ := r1
  have w1 : IntKind.u32.wrap f.2.1 = f.2.1 := wrap_u32 (by omega) (by omega)
  have w2 : IntKind.u32.wrap f.2.2.1 = f.2.2.1 := wrap_u32 (by omega) (by omega)
  simp only [hne, cond_false, decide_eq_false (show ¬ (P.length : Int) > 8192 by omega), i0, i1, chk, cond_true, h.of, Option.bind_some, Bool.not_true, r1', r2, r3, r4, r5, b1, decide_eq_false (show ¬ (P.length : Int) < (P.length : Int) by omega), frameBody.j17, b0, w1, w2]
theorem frame_drop (A P R : List Int) : (A ++ frame P ++ R).drop A.length = four P.length ++ (four (sumI (four P.length ++ P)) ++ (P ++ R)) := by
  rw [List.append_assoc, List.drop_left]
  unfold frame
  simp only [List.append_assoc]
theorem next_whole (fu : Nat) (A R : List Int) {f : Fr} {P : List Int} (h : Wr fu f P) (hb : By (A ++ frame P ++ R)) (hl : (A ++ frame P ++ R).length ≤ 100000) (hfu : 100000 < fu) :
    streamNext fu (A ++ frame P ++ R) (A.length : Int) = some (f, (A.length : Int) + 8 + P.length, 0, ()) := by
  have hP := h.len
  have hlen : ((A ++ frame P ++ R).length : Int) = A.length + 8 + P.length + R.length := by
    rw [List.length_append, List.length_append, frame_len]; omega
  have hdl : (A ++ frame P ++ R).drop A.length = four P.length ++ (four (sumI (four P.length ++ P)) ++ (P ++ R)) := frame_drop A P R
  have hv : val4 ((A ++ frame P ++ R).drop A.length) = P.length := by rw [hdl]; exact val_four _ (by omega) (by omega) _
  have hg := got8_put A P R (by omega)
  have hr := recGet_eq fu _ hb hl (by omega) (A.length : Int) (by omega)
  rw [hg] at hr
  have hlen4 := length_eq fu (by_drop hb A.length) (by rw [hdl, List.length_append, four_len]; omega)
  rw [hv] at hlen4
  have w1 : IntKind.i64.wrap (((A ++ frame P ++ R).length : Int) - A.length) = ((A ++ frame P ++ R).length : Int) - A.length := wrap_i64 (by omega) (by omega)
  have hcut : cutL (A ++ frame P ++ R) (A.length : Int) ((A ++ frame P ++ R).length : Int) = (A ++ frame P ++ R).drop A.length := by rw [cut_end, Int.toNat_natCast]
  have hok : cutOk (A ++ frame P ++ R) (A.length : Int) ((A ++ frame P ++ R).length : Int) = true := cutOk_of (by omega) (by omega) (Int.le_refl _)
  unfold streamNext
  have b0 : ((0 : Int) != 0) = false := rfl
  have b3 : ((0 : Int) == 3) = false := rfl
  simp only [w1, decide_eq_true (show ((A ++ frame P ++ R).length : Int) - A.length ≥ 4 by omega), cond_true, hok, chk, hcut, hlen4, Option.bind_some, decide_eq_false (show ¬ (P.length : Int) > 8192 by omega), cond_false, streamNext.j3, hr, b0, h.body, b3]
theorem next_short (fu : Nat) (A T : List Int) (hb : By (A ++ T)) (hl : (A ++ T).length ≤ 100000) (hfu : 100000 < fu) (hT : T.length < 4 ∨ (4 ≤ T.length ∧ val4 T ≤ 8192 ∧ (T.length : Int) < 8 + val4 T)) :
    ∃ f e, streamNext fu (A ++ T) (A.length : Int) = some (f, e, 3, ()) := by
  have hlen : ((A ++ T).length : Int) = A.length + T.length := by rw [List.length_append]; omega
  have hdr : (A ++ T).drop ((A.length : Int)).toNat = T := by rw [Int.toNat_natCast, List.drop_left]
  have w1 : IntKind.i64.wrap (((A ++ T).length : Int) - A.length) = ((A ++ T).length : Int) - A.length := wrap_i64 (by omega) (by omega)
  have hgot : got8 (A ++ T) (A.length : Int) = ([], 0, 3) := by
    unfold got8
    rcases hT with h | ⟨h1, h2, h3⟩
    · rw [if_pos (.inr (by omega))]
    · rw [if_neg (by omega), hdr, if_neg (by omega), if_pos (by omega)]
  have hr := recGet_eq fu _ hb hl (by omega) (A.length : Int) (by omega)
  rw [hgot] at hr
  have b3 : ((3 : Int) != 0) = true := rfl
  unfold streamNext
  rcases hT with h | ⟨h1, h2, h3⟩
  · simp only [w1, decide_eq_false (show ¬ ((A ++ T).length : Int) - A.length ≥ 4 by omega), cond_false, streamNext.j3, hr, Option.bind_some, b3, cond_true]
    exact ⟨_, _, rfl⟩
  · have hcut : cutL (A ++ T) (A.length : Int) ((A ++ T).length : Int) = T := by rw [cut_end, hdr]
    have hok : cutOk (A ++ T) (A.length : Int) ((A ++ T).length : Int) = true := cutOk_of (by omega) (by omega) (Int.le_refl _)
    have hbT : By T := fun x hx => hb x (List.mem_append_right _ hx)
    simp only [w1, decide_eq_true (show ((A ++ T).length : Int) - A.length ≥ 4 by omega), cond_true, hok, chk, hcut, length_eq fu hbT h1, Option.bind_some, decide_eq_false (show ¬ val4 T > 8192 by omega), cond_false, streamNext.j3, hr, b3]
    exact ⟨_, _, rfl⟩
/-! ### Frames one behind the other -/
abbrev It : Type := Fr × List Int
def cat : List It → List Int
  | [] => []
  | q :: r => frame q.2 ++ cat r
theorem cat_app : ∀ a b : List It, cat (a ++ b) = cat a ++ cat b
  | [], b => rfl
  | q :: a, b => by show frame q.2 ++ cat (a ++ b) = (frame q.2 ++ cat a) ++ cat b; rw [cat_app a b, List.append_assoc]
/-- A beginning that isn't whole. -/
def short (T : List Int) (its : List It) : Prop := (its = [] ∧ T = []) ∨ ∃ q r n, its = q :: r ∧ n < (frame q.2).length ∧ T = (frame q.2).take n
theorem short_ok {fu : Nat} {T : List Int} {its : List It} (h : short T its) (hw : ∀ q ∈ its, Wr fu q.1 q.2) : T.length < 4 ∨ (4 ≤ T.length ∧ val4 T ≤ 8192 ∧ (T.length : Int) < 8 + val4 T) := by
  rcases h with ⟨_, rfl⟩ | ⟨q, r, n, rfl, hn, rfl⟩
  · exact .inl (by simp)
  · have hP := (hw q (by simp)).len
    rw [frame_len] at hn
    have hlen : ((frame q.2).take n).length = n := by rw [List.length_take, frame_len]; omega
    by_cases h4 : n < 4
    · exact .inl (by omega)
    · refine .inr ?_
      have hv : val4 ((frame q.2).take n) = q.2.length := by
        have : (frame q.2).take n = four q.2.length ++ ((four (sumI (four q.2.length ++ q.2)) ++ q.2).take (n - 4)) := by
          unfold frame
          rw [List.append_assoc, List.take_append, four_len, List.take_of_length_le (by rw [four_len]; omega)]
        rw [this]
        exact val_four _ (by omega) (by omega) _
      rw [hlen, hv]
      omega
theorem cut_items : ∀ (its : List It) (n : Nat), n ≤ (cat its).length → ∃ a b T, its = a ++ b ∧ (cat its).take n = cat a ++ T ∧ short T b ∧ T ++ (cat its).drop n = cat b
  | [], n, h => ⟨[], [], [], rfl, by simp [cat], .inl ⟨rfl, rfl⟩, by simp [cat]⟩
  | q :: r, n, h => by
    by_cases hn : n < (frame q.2).length
    · refine ⟨[], q :: r, (frame q.2).take n, rfl, ?_, .inr ⟨q, r, n, rfl, hn, rfl⟩, ?_⟩
      · show (frame q.2 ++ cat r).take n = [] ++ (frame q.2).take n
        rw [List.take_append_of_le_length (by omega), List.nil_append]
      · show (frame q.2).take n ++ (frame q.2 ++ cat r).drop n = frame q.2 ++ cat r
        rw [List.drop_append_of_le_length (by omega), ← List.append_assoc, List.take_append_drop]
    · have hl : (cat (q :: r)).length = (frame q.2).length + (cat r).length := by show (frame q.2 ++ cat r).length = _; rw [List.length_append]
      obtain ⟨a, b, T, h1, h2, h3, h4⟩ := cut_items r (n - (frame q.2).length) (by omega)
      refine ⟨q :: a, b, T, by rw [h1]; rfl, ?_, h3, ?_⟩
      · show (frame q.2 ++ cat r).take n = (frame q.2 ++ cat a) ++ T
        rw [List.take_append, List.take_of_length_le (by omega), h2, List.append_assoc]
      · show T ++ (frame q.2 ++ cat r).drop n = cat b
        rw [List.drop_append, List.drop_eq_nil_of_le (by omega), List.nil_append]
        exact h4
theorem apOk56 {xs ys : List Fr} (h : xs.length + ys.length ≤ 100000) : apOk xs ys 56 = true := by
  have hL : (10000000 : Nat) ≤ LIM := by decide
  unfold apOk
  exact decide_eq_true (by omega)
theorem take_rounds (fu : Nat) (hfu : 100000 < fu) (k1 k3 : List Fr → Int → List Int → Int → Option ((List Fr × Int × Unit) × ((List Int × Int × Unit) × Unit))) (T : List Int) (hT : T.length < 4 ∨ (4 ≤ T.length ∧ val4 T ≤ 8192 ∧ (T.length : Int) < 8 + val4 T)) (e0 : Int) :
    ∀ (its : List It) (m : Nat) (A : List Int) (out : List Fr), its.length < m → By (A ++ cat its ++ T) → (A ++ cat its ++ T).length ≤ 100000 → (∀ q ∈ its, Wr fu q.1 q.2) → out.length + its.length ≤ 50000 →
      streamStreamTake.l10 fu k1 k3 m out (A.length : Int) (A ++ cat its ++ T) e0 = k3 (out ++ its.map (·.1)) ((A ++ cat its).length : Nat) (A ++ cat its ++ T) e0
  | [], m, A, out, h1, h2, h3, h4, h5 => by
    obtain ⟨m, rfl⟩ : ∃ j, m = j + 1 := ⟨m - 1, by simp at h1; omega⟩
    have e : A ++ cat [] ++ T = A ++ T := by show A ++ [] ++ T = _; rw [List.append_nil]
    rw [e] at h2 h3 ⊢
    obtain ⟨f, x, hx⟩ := next_short fu A T h2 h3 hfu hT
    have b0 : ((3 : Int) == 0) = false := rfl
    have b3 : ((3 : Int) == 3) = true := rfl
    unfold streamStreamTake.l10 streamStreamTake.b10
    simp only [hx, Option.bind_some, b0, cond_false, b3, cond_true, List.map_nil, List.append_nil]
    show k3 out A.length (A ++ T) e0 = k3 out ((A ++ []).length : Nat) (A ++ T) e0
    rw [List.append_nil]
  | q :: r, m, A, out, h1, h2, h3, h4, h5 => by
    obtain ⟨m, rfl⟩ : ∃ j, m = j + 1 := ⟨m - 1, by simp at h1; omega⟩
    have e : A ++ cat (q :: r) ++ T = A ++ frame q.2 ++ (cat r ++ T) := by show A ++ (frame q.2 ++ cat r) ++ T = _; simp only [List.append_assoc]
    have e' : A ++ cat (q :: r) ++ T = (A ++ frame q.2) ++ cat r ++ T := by show A ++ (frame q.2 ++ cat r) ++ T = _; simp only [List.append_assoc]
    have hn := next_whole fu A (cat r ++ T) (h4 q (by simp)) (e ▸ h2) (e ▸ h3) hfu
    rw [← e] at hn
    have b0 : ((0 : Int) == 0) = true := rfl
    have ha : apOk out [q.1] 56 = true := apOk56 (by simp at h5 ⊢; omega)
    unfold streamStreamTake.l10 streamStreamTake.b10
    simp only [hn, Option.bind_some, b0, cond_true, ha, chk]
    have ih := take_rounds fu hfu k1 k3 T hT e0 r m (A ++ frame q.2) (out ++ [q.1]) (by simp at h1; omega) (e' ▸ h2) (e' ▸ h3) (fun x hx => h4 x (by simp [hx])) (by simp at h5 ⊢; omega)
    rw [← e'] at ih
    have hl : (((A ++ frame q.2).length : Nat) : Int) = (A.length : Int) + 8 + q.2.length := by rw [List.length_append, frame_len]; omega
    rw [hl] at ih
    rw [ih]
    show k3 (out ++ [q.1] ++ r.map (·.1)) ((A ++ frame q.2 ++ cat r).length : Nat) (A ++ cat (q :: r) ++ T) e0 = k3 (out ++ q.1 :: r.map (·.1)) ((A ++ (frame q.2 ++ cat r)).length : Nat) (A ++ cat (q :: r) ++ T) e0
    simp only [List.append_assoc, List.singleton_append]
/-- Taking a piece. -/
theorem take_eq (fu : Nat) (hfu : 100000 < fu) (buf piece T : List Int) (its more : List It) (hB : buf ++ piece = cat its ++ T) (hT : short T more) (hw : ∀ q ∈ its ++ more, Wr fu q.1 q.2) (hby : By (buf ++ piece)) (hl : (buf ++ piece).length ≤ 16000) (hn : its.length ≤ 1000) :
    streamStreamTake fu (buf, 0, ()) piece = some ((its.map (·.1), 0, ()), ((T, 0, ()), ())) := by
  have hp : piece.length ≤ 16000 := by rw [List.length_append] at hl; omega
  have ha : apOk buf piece 1 = true := apOk1 (by rw [List.length_append] at hl; omega)
  have b0 : ((0 : Int) != 0) = false := rfl
  unfold streamStreamTake
  simp only [b0, cond_false, decide_eq_false (show ¬ (piece.length : Int) > 16384 by omega), ha, chk, cond_true]
  have key := take_rounds fu hfu (fun vq3 vq3x2 c0q3 c0q3x2 => some ((vq3, vq3x2, ()), ((c0q3, c0q3x2, ()), ()))) (fun outq4 atvq4 c0q4 c0q4x2 =>
          chk (cutOk c0q4 atvq4 (c0q4.length : Int)) <|
          let t3 := cutL c0q4 atvq4 (c0q4.length : Int)
          chk (apOk [] t3 1) <|
          some ((outq4, (0 : Int), ()), (([] ++ t3, c0q4x2, ()), ()))) T (short_ok hT fun q hq => hw q (List.mem_append_right _ hq)) 0 its fu [] [] (by omega) (by rw [List.nil_append, ← hB]; exact hby) (by rw [List.nil_append, ← hB]; omega) (fun q hq => hw q (List.mem_append_left _ hq)) (by simp; omega)
  rw [List.nil_append, ← hB] at key
  refine Eq.trans key ?_
  have hTl : T.length ≤ 16000 := by rw [hB, List.length_append] at hl; omega
  have hc : cutOk (buf ++ piece) ((([] ++ cat its).length : Nat) : Int) ((buf ++ piece).length : Int) = true := cutOk_of (by omega) (by rw [hB, List.nil_append, List.length_append]; omega) (Int.le_refl _)
  have hd : cutL (buf ++ piece) ((([] ++ cat its).length : Nat) : Int) ((buf ++ piece).length : Int) = T := by
    rw [cut_end, Int.toNat_natCast, List.nil_append, hB, List.drop_left]
  have ha2 : apOk ([] : List Int) T 1 = true := apOk1 (by simp; omega)
  rw [List.nil_append] at hc hd
  simp only [hc, hd, ha2, chk, cond_true, List.nil_append]
theorem sameAll_rounds (fu : Nat) (k1 : Bool → Option (Bool × Unit)) (k2 : Unit → Option (Bool × Unit)) (a : List Fr) (hl : a.length ≤ 1000) : ∀ (k m i : Nat), i + k = a.length → k < m → ref20SameAll.l4 fu k1 k2 m a a a.length i = k2 () := by
  intro k
  induction k with
  | zero =>
    intro m i h1 h2
    obtain ⟨m, rfl⟩ : ∃ j, m = j + 1 := ⟨m - 1, by omega⟩
    unfold ref20SameAll.l4 ref20SameAll.b4
    rw [decide_eq_false (by omega), cond_false]
  | succ k ih =>
    intro m i h1 h2
    obtain ⟨m, rfl⟩ : ∃ j, m = j + 1 := ⟨m - 1, by omega⟩
    have hi : i < a.length := by omega
    have e1 : IntKind.i64.wrap ((i : Int) + 1) = ((i + 1 : Nat) : Int) := wrap_i64 (by omega) (by omega)
    have hok : ixOk a (i : Int) = true := by unfold ixOk; simp; omega
    unfold ref20SameAll.l4 ref20SameAll.b4
    simp only [decide_eq_true (show (i : Int) < (a.length : Int) by omega), cond_true, hok, chk, same20, Option.bind_some, Bool.not_true, cond_false, e1]
    exact ih m (i + 1) (by omega) (by omega)
theorem sameAll_eq (fu : Nat) (a : List Fr) (hl : a.length ≤ 1000) (hfu : a.length < fu) : ref20SameAll fu a a = some (true, ()) := by
  unfold ref20SameAll
  simp only [bne_self_eq_false, cond_false]
  exact sameAll_rounds fu _ _ a hl a.length fu 0 (by omega) (by omega)
theorem fixed21 : law21Fixed 200005 = some (true, ()) := by kernel_rfl
/-- THE LAW: a nil stream takes nothing. -/
theorem lawStreamNil (b : List Int) (_ : okAll law21StreamNil.con.ps (b, ())) : law21StreamNil 200005 b = some (true, ()) := by
  unfold law21StreamNil streamStreamTakeNil
  simp only [fixed21, Option.bind_some]
  rfl
/-! ### The pieces -/
theorem cuts_rounds (fu : Nat) (hfu : 100000 < fu) (k1 : Bool → Option (Bool × Unit)) (k4 : List Int → List Fr → List Fr → List Int → Int → Option (Bool × Unit)) (items : List It) (hw : ∀ q ∈ items, Wr fu q.1 q.2) (hby : By (cat items)) (hl : (cat items).length ≤ 16000) (hn : items.length ≤ 1000) (want : List Fr) (cs : List Int) (hcs : ∀ c ∈ cs, 0 ≤ c ∧ c < 65536) (hcn : cs.length ≤ 1000) :
    ∀ (k m i : Nat) (a b : List It) (T rest : List Int), i + k = cs.length → k < m → items = a ++ b → short T b → T ++ rest = cat b →
      ∃ a' b' T' rest', items = a' ++ b' ∧ short T' b' ∧ T' ++ rest' = cat b' ∧ law21StreamCuts.l20 fu k1 k4 m rest want (a.map (·.1)) cs cs.length i T 0 = k4 rest' want (a'.map (·.1)) T' 0 := by
  intro k
  induction k with
  | zero =>
    intro m i a b T rest h1 h2 h3 h4 h5
    obtain ⟨m, rfl⟩ : ∃ j, m = j + 1 := ⟨m - 1, by omega⟩
    refine ⟨a, b, T, rest, h3, h4, h5, ?_⟩
    unfold law21StreamCuts.l20 law21StreamCuts.b20
    rw [decide_eq_false (by omega), cond_false]
  | succ k ih =>
    intro m i a b T rest h1 h2 h3 h4 h5
    obtain ⟨m, rfl⟩ : ∃ j, m = j + 1 := ⟨m - 1, by omega⟩
    have hi : i < cs.length := by omega
    have e1 : IntKind.i64.wrap ((i : Int) + 1) = ((i + 1 : Nat) : Int) := wrap_i64 (by omega) (by omega)
    have hc := hcs _ (List.getElem_mem hi)
    have hcat : (cat items).length = (cat a).length + (cat b).length := by rw [h3, cat_app, List.length_append]
    have hrb : T.length + rest.length = (cat b).length := by rw [← h5, List.length_append]
    have hix : ixL (0 : Int) cs (i : Int) = cs[i] := by unfold ixL; simp [List.getElem?_eq_getElem hi]
    have hok : ixOk cs (i : Int) = true := by unfold ixOk; simp; omega
    have w1 : IntKind.i64.wrap ((rest.length : Int) + 1) = (rest.length : Int) + 1 := wrap_i64 (by omega) (by omega)
    have w2 : IntKind.i64.wrap cs[i] = cs[i] := wrap_i64 (by omega) (by omega)
    have hne : (((rest.length : Int) + 1) != 0) = true := bne_iff_ne.2 (by omega)
    have hmod : Int.tmod cs[i] ((rest.length : Int) + 1) = ((cs[i].toNat % (rest.length + 1) : Nat) : Int) := by
      rw [Int.tmod_eq_emod_of_nonneg hc.1, Int.natCast_emod, Int.toNat_of_nonneg hc.1]
      rfl
    have hj : cs[i].toNat % (rest.length + 1) ≤ rest.length := by have := Nat.mod_lt cs[i].toNat (show 0 < rest.length + 1 by omega); omega
    generalize cs[i].toNat % (rest.length + 1) = j at hmod hj
    have c1 : cutOk rest (0 : Int) (j : Int) = true := cutOk_of (Int.le_refl _) (by omega) (by omega)
    have c2 : cutOk rest (j : Int) (rest.length : Int) = true := cutOk_of (by omega) (by omega) (Int.le_refl _)
    have d1 : cutL rest (0 : Int) (j : Int) = rest.take j := by unfold cutL; simp
    have d2 : cutL rest (j : Int) (rest.length : Int) = rest.drop j := by rw [cut_end, Int.toNat_natCast]
    -- what is there now, cut where a frame ends
    obtain ⟨x, y, T', g1, g2, g3, g4⟩ := cut_items b (T.length + j) (by omega)
    rw [← h5] at g2 g4
    rw [List.take_append, List.take_of_length_le (by omega), show T.length + j - T.length = j by omega] at g2
    rw [List.drop_append, List.drop_eq_nil_of_le (by omega), List.nil_append, show T.length + j - T.length = j by omega] at g4
    have hmem : ∀ q ∈ x ++ y, q ∈ items := fun q hq => by rw [h3, g1]; exact List.mem_append_right _ hq
    have hbb : By (T ++ rest.take j) := fun z hz => hby z (by
      rw [h3, cat_app, ← h5]
      rcases List.mem_append.1 hz with hz | hz
      · exact List.mem_append_right _ (List.mem_append_left _ hz)
      · exact List.mem_append_right _ (List.mem_append_right _ (List.mem_of_mem_take hz)))
    have hxn : x.length ≤ 1000 := by
      have : items.length = a.length + (x.length + y.length) := by rw [h3, g1, List.length_append, List.length_append]
      omega
    have hAl : a.length ≤ 1000 := by rw [h3, List.length_append] at hn; omega
    have ht := take_eq fu hfu T (rest.take j) T' x y g2 g3 (fun q hq => hw q (hmem q hq)) hbb (by rw [List.length_append, List.length_take]; omega) hxn
    have ha : apOk (a.map (·.1)) (x.map (·.1)) 56 = true := apOk56 (by simp; omega)
    have b0 : ((0 : Int) != 0) = false := rfl
    unfold law21StreamCuts.l20 law21StreamCuts.b20
    simp only [decide_eq_true (show (i : Int) < (cs.length : Int) by omega), cond_true, hok, chk, hix, w1, hne, w2, hmod, c1, d1, ht, Option.bind_some, b0, cond_false, ha, c2, d2, e1, ← List.map_append]
    exact ih m (i + 1) (a ++ x) y T' (rest.drop j) (by omega) (by omega) (by rw [h3, g1, List.append_assoc]) g3 g4
theorem put_wr (m : Nat) (hm : 200000 ≤ m) {f : Fr} (hf : frOk f) (hb : f.2.2.2.2.2.1.length ≤ 200) : ∃ w e, ref20Put (m + 5) f = some (w, e, ()) ∧ (e = 0 → ∃ P, Wr (m + 5) f P ∧ w = frame P ∧ P.length ≤ 251) := by
  by_cases hk : 1 ≤ f.1 ∧ f.1 ≤ 17
  · obtain ⟨l, a, b, c, d, e, h⟩ := has_kind (m + 5) f.1 hk.1 hk.2
    have hlen := putF_len a b c d e f
    refine ⟨_, _, refFPut_eq m hm hf h, fun he => ?_⟩
    unfold outF at he ⊢
    by_cases hp : plainB a b c d e f = true
    · rw [if_pos hp, if_neg (by omega)]
      exact ⟨_, body_put m hm hf h hp (by omega), rfl, by omega⟩
    · rw [if_neg hp] at he
      exact absurd he (show ¬ ((1 : Int) = 0) by decide)
  · have n2 := (no_kind (m + 5) f.1 hk).2
    have e2 : ref20Put (m + 5) f = some ([], 1, ()) := by
      unfold ref20Put
      rw [n2]; rfl
    exact ⟨_, _, e2, fun h => absurd h (by decide)⟩
theorem ixFr {l : List Fr} {i : Nat} (h : i < l.length) : ixL ((0 : Int), (0 : Int), (0 : Int), (0 : Int), (0 : Int), ([] : List Int), ()) l i = l[i] := by
  unfold ixL
  simp [List.getElem?_eq_getElem h]
theorem all_rounds (l : List Fr) (hl : l.length ≤ 40) (hf : ∀ f ∈ l, frOk f ∨ 200 < f.2.2.2.2.2.1.length) (k1 : Bool → Option (Bool × Unit)) (k2 : List Int → List Int → List Fr → Option (Bool × Unit)) (cs : List Int) : ∀ (k m i : Nat) (its : List It), i + k = l.length → k < m → its.length ≤ i → (∀ q ∈ its, Wr 200005 q.1 q.2 ∧ q.2.length ≤ 251) →
    law21StreamCuts.l6 200005 k1 k2 m cs (cat its) (its.map (·.1)) l l.length i = k1 true ∨
    ∃ its' : List It, its'.length ≤ l.length ∧ (∀ q ∈ its', Wr 200005 q.1 q.2 ∧ q.2.length ≤ 251) ∧ law21StreamCuts.l6 200005 k1 k2 m cs (cat its) (its.map (·.1)) l l.length i = k2 cs (cat its') (its'.map (·.1)) := by
  intro k
  induction k with
  | zero =>
    intro m i its h1 h2 h3 h4
    obtain ⟨m, rfl⟩ : ∃ j, m = j + 1 := ⟨m - 1, by omega⟩
    refine .inr ⟨its, by omega, h4, ?_⟩
    unfold law21StreamCuts.l6 law21StreamCuts.b6
    rw [decide_eq_false (by omega), cond_false]
  | succ k ih =>
    intro m i its h1 h2 h3 h4
    obtain ⟨m, rfl⟩ : ∃ j, m = j + 1 := ⟨m - 1, by omega⟩
    have hi : i < l.length := by omega
    have e1 : IntKind.i64.wrap ((i : Int) + 1) = ((i + 1 : Nat) : Int) := wrap_i64 (by omega) (by omega)
    have hok : ixOk l (i : Int) = true := by unfold ixOk; simp; omega
    have hfi := hf _ (List.getElem_mem hi)
    unfold law21StreamCuts.l6 law21StreamCuts.b6
    simp only [decide_eq_true (show (i : Int) < (l.length : Int) by omega), cond_true, hok, chk, ixFr hi, e1]
    generalize l[i] = f at hfi
    by_cases hb : 200 < f.2.2.2.2.2.1.length
    · simp only [decide_eq_true (show (f.2.2.2.2.2.1.length : Int) > 200 by omega), cond_true, fixed21, Option.bind_some]
      exact .inl trivial
    · have hfo : frOk f := hfi.resolve_right hb
      obtain ⟨w, e, q1, q2⟩ := put_wr 200000 (by omega) hfo (by omega)
      simp only [decide_eq_false (show ¬ (f.2.2.2.2.2.1.length : Int) > 200 by omega), cond_false, q1, Option.bind_some]
      by_cases he : e = 0
      · obtain ⟨P, hP, hwP, hPl⟩ := q2 he
        have hcl : ∀ (x : List It), (∀ q ∈ x, Wr 200005 q.1 q.2 ∧ q.2.length ≤ 251) → (cat x).length ≤ 259 * x.length := by
          intro x
          induction x with
          | nil => intro _; simp [cat]
          | cons q r ihx =>
            intro hx
            have := ihx fun y hy => hx y (by simp [hy])
            have hq := (hx q (by simp)).2
            show (frame q.2 ++ cat r).length ≤ 259 * (r.length + 1)
            rw [List.length_append, frame_len]; omega
        have hc := hcl its h4
        have a1 : apOk (cat its) w 1 = true := apOk1 (by rw [hwP, frame_len]; omega)
        have a2 : apOk (its.map (·.1)) [f] 56 = true := apOk56 (by simp; omega)
        have hcat : cat its ++ w = cat (its ++ [(f, P)]) := by rw [cat_app, hwP]; show _ = cat its ++ (frame P ++ []); rw [List.append_nil]
        have hmap : its.map (·.1) ++ [f] = (its ++ [(f, P)]).map (·.1) := by simp
        subst he
        simp only [beq_self_eq_true, cond_true, a1, a2, hcat, hmap]
        refine ih m (i + 1) (its ++ [(f, P)]) (by omega) (by omega) (by simp; omega) (fun q hq => ?_)
        rcases List.mem_append.1 hq with hq | hq
        · exact h4 q hq
        · rw [List.mem_singleton.1 hq]; exact ⟨hP, hPl⟩
      · simp only [beq_false_of_ne he, cond_false]
        exact ih m (i + 1) its (by omega) (by omega) (by omega) h4
theorem cat_len : ∀ (x : List It), (∀ q ∈ x, Wr 200005 q.1 q.2 ∧ q.2.length ≤ 251) → (cat x).length ≤ 259 * x.length ∧ By (cat x)
  | [], _ => ⟨by simp [cat], fun b hb => by cases hb⟩
  | q :: r, hx => by
    obtain ⟨h1, h2⟩ := cat_len r fun y hy => hx y (by simp [hy])
    have hq := hx q (by simp)
    refine ⟨?_, by_app (frame_by hq.1.by') h2⟩
    show (frame q.2 ++ cat r).length ≤ 259 * (r.length + 1)
    rw [List.length_append, frame_len]; omega
theorem u16Of {x : Int} (h : inR .u16 x) : 0 ≤ x ∧ x < 65536 := by
  simp [inR, IntKind.min, IntKind.max, IntKind.signed, IntKind.bits] at h
  omega
/-- THE LAW: frames come out as they were, whatever pieces they are cut into. -/
theorem lawStreamCuts (l : List Fr) (cs : List Int) (h : okAll law21StreamCuts.con.ps (l, cs, ())) : law21StreamCuts 200005 l cs = some (true, ()) := by
  have hl := h.1.2
  have hc : ∀ c ∈ cs, 0 ≤ c ∧ c < 65536 := fun c hc => u16Of (h.2.1.2 c hc)
  unfold law21StreamCuts
  by_cases h40 : (l.length : Int) > 40
  · simp only [decide_eq_true h40, cond_true, fixed21, Option.bind_some]
  · by_cases h200 : (cs.length : Int) > 200
    · simp only [decide_eq_false h40, cond_false, decide_eq_true h200, cond_true, fixed21, Option.bind_some]
    · simp only [decide_eq_false h40, decide_eq_false h200, cond_false]
      have hf : ∀ f ∈ l, frOk f ∨ 200 < f.2.2.2.2.2.1.length := fun f hf => by
        by_cases hb : 200 < f.2.2.2.2.2.1.length
        · exact .inr hb
        · obtain ⟨k0, k1, k2, k3, k4, k5, -⟩ := hl f hf
          have k0 : inR .u8 f.1 := k0
          have k1 : inR .u32 f.2.1 := k1
          have k2 : inR .u32 f.2.2.1 := k2
          have k0 : 0 ≤ f.1 ∧ f.1 ≤ 255 := by simpa [inR, IntKind.min, IntKind.max, IntKind.signed, IntKind.bits] using k0
          have k1 : 0 ≤ f.2.1 ∧ f.2.1 ≤ 4294967295 := by simpa [inR, IntKind.min, IntKind.max, IntKind.signed, IntKind.bits] using k1
          have k2 : 0 ≤ f.2.2.1 ∧ f.2.2.1 ≤ 4294967295 := by simpa [inR, IntKind.min, IntKind.max, IntKind.signed, IntKind.bits] using k2
          exact .inl ⟨k0, k1, k2, u64Of k3, u64Of k4, byOf k5, by omega⟩
      rcases all_rounds l (by omega) hf (fun vq3 => some (vq3, ())) (fun cutsq4 allq4 wantq4 =>
          (streamNew 200005).bind fun r5 =>
          oc r5.1.1 (
            some (false, ())) fun o6 =>
          law21StreamCuts.l20 200005 (fun vq11 =>
              some (vq11, ())) (fun allq12 wantq12 gotq12 c0q12 c0q12x2 =>
              (streamStreamTake 200005 (c0q12, c0q12x2, ()) allq12).bind fun r7 =>
              chk (apOk gotq12 r7.1.1 56) <|
              (law21Fixed 200005).bind fun r8 =>
              cond r8.1 (
                cond (r7.1.2.1 == (0 : Int)) (
                  (ref20SameAll 200005 (gotq12 ++ r7.1.1) wantq12).bind fun r9 =>
                  cond r9.1 (
                    (streamStreamLen 200005 r7.2.1).bind fun r10 =>
                    cond (r10.1.1 == (0 : Int)) (
                      (streamStreamBroken 200005 r10.2.1).bind fun r11 =>
                      some (r11.1.1 == (0 : Int), ())) (
                      some (false, ()))) (
                    some (false, ()))) (
                  some (false, ()))) (
                some (false, ()))) 200005 allq4 wantq4 [] cutsq4 (cutsq4.length : Int) (0 : Int) o6.1 o6.2.1) cs l.length 200005 0 [] (by omega) (by omega) (by simp) (fun q hq => by cases hq) with h1 | ⟨its, h1, h2, h3⟩
      · exact h1
      · refine Eq.trans h3 ?_
        obtain ⟨cl, cb⟩ := cat_len its h2
        unfold streamNew
        simp only [Option.bind_some, oc]
        obtain ⟨a', b', T', rest', g1, g2, g3, g4⟩ := cuts_rounds 200005 (by decide) (fun vq11 => some (vq11, ())) (fun allq12 wantq12 gotq12 c0q12 c0q12x2 =>
              (streamStreamTake 200005 (c0q12, c0q12x2, ()) allq12).bind fun r7 =>
              chk (apOk gotq12 r7.1.1 56) <|
              (law21Fixed 200005).bind fun r8 =>
              cond r8.1 (
                cond (r7.1.2.1 == (0 : Int)) (
                  (ref20SameAll 200005 (gotq12 ++ r7.1.1) wantq12).bind fun r9 =>
                  cond r9.1 (
                    (streamStreamLen 200005 r7.2.1).bind fun r10 =>
                    cond (r10.1.1 == (0 : Int)) (
                      (streamStreamBroken 200005 r10.2.1).bind fun r11 =>
                      some (r11.1.1 == (0 : Int), ())) (
                      some (false, ()))) (
                    some (false, ()))) (
                  some (false, ()))) (
                some (false, ()))) its (fun q hq => (h2 q hq).1) cb (by omega) (by omega) (its.map (·.1)) cs hc (by omega) cs.length 200005 0 [] its [] (cat its) (by omega) (by omega) rfl
                (by
                  cases its with
                  | nil => exact .inl ⟨rfl, rfl⟩
                  | cons q r => exact .inr ⟨q, r, 0, rfl, by rw [frame_len]; omega, rfl⟩) rfl
        refine Eq.trans g4 ?_
        have hb : By (T' ++ rest') := fun z hz => cb z (by rw [g1, cat_app]; exact List.mem_append_right _ (g3 ▸ hz))
        have hlen : (T' ++ rest').length ≤ 16000 := by
          have : (cat its).length = (cat a').length + (cat b').length := by rw [g1, cat_app, List.length_append]
          rw [g3]; omega
        have hbn : a'.length + b'.length ≤ 40 := by
          have : its.length = a'.length + b'.length := by rw [g1, List.length_append]
          omega
        have ht := take_eq 200005 (by decide) T' rest' [] b' [] (by rw [List.append_nil]; exact g3) (.inl ⟨rfl, rfl⟩) (fun q hq => (h2 q (by rw [g1]; rw [List.append_nil] at hq; exact List.mem_append_right _ hq)).1) hb hlen (by omega)
        have ha : apOk (a'.map (·.1)) (b'.map (·.1)) 56 = true := apOk56 (by simp; omega)
        have hs : a'.map (·.1) ++ b'.map (·.1) = its.map (·.1) := by rw [g1, List.map_append]
        simp only [ht, Option.bind_some, ha, chk, cond_true, fixed21, beq_self_eq_true, hs, sameAll_eq 200005 _ (show (its.map (·.1)).length ≤ 1000 by simp; omega) (by simp; omega), streamStreamLen, streamStreamBroken]
        rfl

end Go.Shal.Pr
