/- ClientOnce: no match twice nor after it was dropped, none left out. By an AI agent. -/
import Derived.Test.YtocfcfaeboemcaaGen25o
set_option linter.unusedVariables false
namespace Go.Shal.Pr
open Go Go.Shal Go.Proofs

theorem wrap_u64 {x : Int} (h0 : 0 ≤ x) (h1 : x < 18446744073709551616) : IntKind.u64.wrap x = x := by
  simp only [IntKind.wrap, IntKind.signed, IntKind.bits]
  simp
  omega
theorem wrap_i64 {x : Int} (h0 : -9223372036854775808 ≤ x) (h1 : x < 9223372036854775808) : IntKind.i64.wrap x = x := by
  simp only [IntKind.wrap, IntKind.signed, IntKind.bits]
  simp
  omega
def By (l : List Int) : Prop := ∀ b ∈ l, (0 : Int) ≤ b ∧ b ≤ 255
theorem or_add (n a : Nat) (k : Nat) (h : n < 2 ^ k) (ht : n + a * 2 ^ k < 18446744073709551616) : bOr .u64 (n : Int) ((a * 2 ^ k : Nat) : Int) = (n + a * 2 ^ k : Nat) := by
  show IntKind.u64.wrap (((BitVec.ofInt 64 (n : Int) ||| BitVec.ofInt 64 ((a * 2 ^ k : Nat) : Int)).toNat : Nat) : Int) = _
  rw [BitVec.ofInt_natCast, BitVec.ofInt_natCast]
  have h1 : n < 2 ^ 64 := by omega
  have h2 : a * 2 ^ k < 2 ^ 64 := by omega
  rw [BitVec.toNat_or, BitVec.toNat_ofNat, BitVec.toNat_ofNat, Nat.mod_eq_of_lt h1, Nat.mod_eq_of_lt h2, Nat.or_comm, Nat.mul_comm a, ← Nat.two_pow_add_eq_or_of_lt h]
  rw [Nat.mul_comm a] at ht
  rw [wrap_u64 (by omega) (by omega)]
  omega
theorem shl_eq (x : Int) (k : Nat) (hk : k < 64) (h0 : 0 ≤ x) (h : x * 2 ^ k < 18446744073709551616) : sShl .u64 x (k : Int) = x * 2 ^ k := by
  unfold sShl
  have e : min (k : Int).toNat IntKind.u64.bits = k := by simp only [IntKind.bits]; omega
  rw [e]
  exact wrap_u64 (Int.mul_nonneg h0 (by exact_mod_cast Nat.zero_le _)) h
theorem byte_and (c : Int) (h0 : 0 ≤ c) (h : c ≤ 255) : bAnd .u8 c 127 = c % 128 := by
  have key : ∀ m : Fin 256, bAnd .u8 (m.val : Int) 127 = (m.val : Int) % 128 := by decide +kernel
  have := key ⟨c.toNat, by omega⟩
  simp only at this
  rw [show (c.toNat : Int) = c by omega] at this
  exact this
def get1 : List Int → Nat → Int → Int × Int × Int
  | [], _, _ => (0, 0, 3)
  | c :: r, i, n => if i = 9 ∧ c > 1 then (0, 0, 4) else if c ≥ 128 then get1 r (i + 1) (n + (c - 128) * 128 ^ i) else if c = 0 ∧ i > 0 then (0, 0, 2) else (n + c * 128 ^ i, (i : Int) + 1, 0)
def from1 (at' : Int) (q : Int × Int × Int) : Int × Int × Int := (q.1, if q.2.2 = 0 then at' + q.2.1 else 0, q.2.2)
def got (b : List Int) (at' : Int) : Int × Int × Int := if at' < 0 ∨ at' > b.length then (0, 0, 3) else from1 at' (get1 (b.drop at'.toNat) 0 0)
theorem pow128 (i : Nat) : (128 : Int) ^ i = ((2 ^ (7 * i) : Nat) : Int) := by
  rw [Nat.pow_mul]; norm_cast
theorem pow128_9 {i : Nat} (h : i ≤ 9) : (1 : Int) ≤ 128 ^ i ∧ (128 : Int) ^ i ≤ 9223372036854775808 := by
  have h1 : 128 ^ i ≤ 128 ^ 9 := Nat.pow_le_pow_right (by omega) h
  have h0 : 0 < 128 ^ i := Nat.pow_pos (by omega)
  have e : (128 : Int) ^ i = ((128 ^ i : Nat) : Int) := by norm_cast
  rw [e]
  have : (128 : Nat) ^ 9 = 9223372036854775808 := by decide
  omega
theorem ixL_get {l : List Int} {i : Nat} (h : i < l.length) : ixL (0 : Int) l i = l[i] := by
  unfold ixL
  simp [List.getElem?_eq_getElem h]
def fin1 (k1 : Int → Int → Int → Option (Int × Int × Int × Unit)) (k2 : Unit → Option (Int × Int × Int × Unit)) (at' : Int) (q : Int × Int × Int) : Option (Int × Int × Int × Unit) :=
  if q.2.2 = 0 then k1 q.1 (at' + q.2.1) 0 else if q.2.2 = 3 then k2 () else k1 0 0 q.2.2
theorem get_rounds (fu : Nat) k1 k2 (at' : Int) (b : List Int) (hb : By b) (ha : 0 ≤ at' ∧ at' ≤ 100000) (hl : b.length ≤ 100000) : ∀ (m i : Nat) (n : Int), i ≤ b.length → b.length < i + m → 0 ≤ n → n < 128 ^ i →
    i ≤ 9 → packGet.l5 fu k1 k2 m at' n b b.length i = fin1 k1 k2 at' (get1 (b.drop i) i n) := by
  intro m
  induction m with
  | zero => intro i n h1 h2; omega
  | succ m ih =>
    intro i n h1 h2 hn0 hn hi9
    unfold packGet.l5 packGet.b5
    by_cases hil : i < b.length
    · have hil' : (i : Int) < b.length := by omega
      have hix : ixOk b i = true := by simp [ixOk, hil]
      have e1 : IntKind.i64.wrap ((i : Int) + 1) = (i + 1 : Nat) := wrap_i64 (by omega) (by omega)
      rw [List.drop_eq_getElem_cons hil]
      have hc := hb _ (List.getElem_mem hil)
      simp only [hil', decide_true, cond_true, chk, hix, ixL_get hil]
      generalize b[i] = c at hc
      have hp := pow128_9 hi9
      have hle : ∀ q : Int, 0 ≤ q → q ≤ 127 → (i = 9 → q ≤ 1) → q * 128 ^ i + n < 18446744073709551616 := fun q h0 h1 h9 => by
        rcases Nat.lt_or_ge i 9 with h | h
        · have h8 : (128 : Int) ^ i ≤ 72057594037927936 := by
            have h1 : 128 ^ i ≤ 128 ^ 8 := Nat.pow_le_pow_right (by omega) (by omega)
            have e : (128 : Int) ^ i = ((128 ^ i : Nat) : Int) := by norm_cast
            rw [e]
            have : (128 : Nat) ^ 8 = 72057594037927936 := by decide
            omega
          have : q * 128 ^ i ≤ 127 * 72057594037927936 := Int.mul_le_mul h1 h8 (by omega) (by omega)
          omega
        · have : i = 9 := by omega
          subst this
          have := h9 rfl
          have : q * 128 ^ 9 ≤ 1 * 9223372036854775808 := Int.mul_le_mul this (by decide) (by decide) (by omega)
          omega
      have j9 : ∀ (c : Int), 0 ≤ c → c ≤ 255 → (i = 9 → c ≤ 1) → ∀ K0 K1, packGet.j9 fu K0 K1 at' n i c b b.length i = (if c ≥ 128 then K0 at' (n + (c - 128) * 128 ^ i) b b.length i else if c = 0 ∧ i > 0 then K1 0 0 2 else K1 (n + c * 128 ^ i) (at' + ((i : Int) + 1)) 0) := by
        intro c hc0 hc1 h9 K0 K1
        unfold packGet.j9 packGet.j50013
        have e2 : IntKind.u64.wrap (bAnd .u8 c 127) = c % 128 := by rw [byte_and c hc0 hc1]; exact wrap_u64 (by omega) (by omega)
        have e3 : IntKind.i64.wrap ((7 : Int) * i) = (7 * i : Nat) := by rw [wrap_i64 (by omega) (by omega)]; omega
        have hq := hle (c % 128) (by omega) (by omega) (fun h => by have := h9 h; omega)
        have hnn : 0 ≤ (c % 128) * 128 ^ i := Int.mul_nonneg (by omega) (by omega)
        have e4 : sShl .u64 (c % 128) ((7 * i : Nat) : Int) = (c % 128) * 128 ^ i := by
          have hpp : (2 : Int) ^ (7 * i) = 128 ^ i := by rw [pow128]; norm_cast
          rw [shl_eq _ (7 * i) (by omega) (by omega) (by rw [hpp]; omega), hpp]
        have e5 : bOr .u64 n ((c % 128) * 128 ^ i) = n + (c % 128) * 128 ^ i := by
          obtain ⟨N, rfl⟩ := Int.eq_ofNat_of_zero_le hn0
          obtain ⟨a, ha⟩ := Int.eq_ofNat_of_zero_le (show 0 ≤ c % 128 by omega)
          rw [ha, pow128] at hq ⊢
          rw [pow128] at hn
          have hq' : N + a * 2 ^ (7 * i) < 18446744073709551616 := by
            have : ((N + a * 2 ^ (7 * i) : Nat) : Int) < 18446744073709551616 := by rw [Int.natCast_add, Int.natCast_mul]; omega
            omega
          have := or_add N a (7 * i) (by omega) hq'
          rw [Int.natCast_add, Int.natCast_mul] at this
          exact this
        have hneg : (decide (((7 * i : Nat) : Int) < 0)) = false := decide_eq_false (by omega)
        have e6 : IntKind.i64.wrap (at' + i) = at' + i := wrap_i64 (by omega) (by omega)
        have e7 : IntKind.i64.wrap (at' + i + 1) = at' + ((i : Int) + 1) := by rw [wrap_i64 (by omega) (by omega)]; omega
        simp only [e2, e3, e4, e5, hneg, chk, Bool.not_false, cond_true, e6, e7]
        by_cases h128 : c ≥ 128
        · have : c % 128 = c - 128 := by omega
          simp only [h128, decide_true, cond_true, this, if_true]
        · have : c % 128 = c := by omega
          simp only [h128, decide_false, cond_false, this, if_false]
          by_cases h0 : c = 0
          · subst h0
            by_cases hi0 : i > 0
            · simp [hi0]
            · simp [hi0]
          · have h0' : (c == 0) = false := beq_false_of_ne h0
            simp [h0, h0']
      unfold get1
      by_cases h9 : i = 9 ∧ c > 1
      · have h9' : ((i : Int) == 9) = true := by rw [h9.1]; rfl
        have h1' : decide (c > 1) = true := decide_eq_true h9.2
        simp [h9', h1', if_pos h9, fin1]
      · have hside : i = 9 → c ≤ 1 := fun h => by
          by_cases hx : c > 1
          · exact absurd ⟨h, hx⟩ h9
          · omega
        rw [if_neg h9]
        have both : ∀ X Y : Option (Int × Int × Int × Unit), (cond ((i : Int) == 9) (cond (decide (c > 1)) X Y) Y) = Y := fun X Y => by
          cases hx : ((i : Int) == 9) with
          | false => rfl
          | true =>
            have : c ≤ 1 := hside (by have := eq_of_beq hx; omega)
            have hd : decide (c > 1) = false := decide_eq_false (by omega)
            simp only [cond_true, hd, cond_false]
        rw [j9 c hc.1 hc.2 hside, both]
        by_cases h128 : c ≥ 128
        · have hi8 : i ≤ 8 := by
            rcases Nat.lt_or_ge i 9 with h | h
            · omega
            · have := hside (by omega); omega
          rw [if_pos h128, if_pos h128]
          simp only [e1]
          have hq : (c - 128) * 128 ^ i + n < 128 ^ (i + 1) := by
            rw [Int.pow_succ]
            have : (c - 128) * 128 ^ i ≤ 127 * 128 ^ i := Int.mul_le_mul_of_nonneg_right (by omega) (by omega)
            omega
          exact ih (i + 1) _ (by omega) (by omega) (by have : 0 ≤ (c - 128) * 128 ^ i := Int.mul_nonneg (by omega) (by omega); omega) (by omega) (by omega)
        · rw [if_neg h128, if_neg h128]
          by_cases h0 : c = 0 ∧ i > 0
          · rw [if_pos h0, if_pos h0]; simp [fin1]
          · rw [if_neg h0, if_neg h0]; simp [fin1]
    · have hx : ¬ (i : Int) < b.length := by omega
      rw [List.drop_of_length_le (by omega)]
      simp [hx, get1, fin1]
theorem get1_err : ∀ (l : List Int) (i : Nat) (n : Int), (get1 l i n).2.2 ≠ 0 → (get1 l i n).1 = 0 ∧ (get1 l i n).2.1 = 0 := by
  intro l
  induction l with
  | nil => intro i n _; exact ⟨rfl, rfl⟩
  | cons c r ih =>
    intro i n
    unfold get1
    split
    · intro _; exact ⟨rfl, rfl⟩
    · split
      · exact ih _ _
      · split
        · intro _; exact ⟨rfl, rfl⟩
        · intro h; exact absurd rfl h
theorem packGet_eq (fu : Nat) (b : List Int) (hb : By b) (hl : b.length ≤ 100000) (hfu : b.length < fu) (at' : Int) : packGet fu b at' = some ((got b at').1, (got b at').2.1, (got b at').2.2, ()) := by
  unfold packGet got
  by_cases h1 : at' < 0
  · simp [h1]
  · by_cases h2 : at' > b.length
    · simp [h1, h2]
    · have hcut : cutOk b at' b.length = true := by simp [cutOk]; omega
      have e : cutL b at' b.length = b.drop at'.toNat := by
        unfold cutL
        rw [List.take_of_length_le]
        rw [List.length_drop]; omega
      have hd : By (b.drop at'.toNat) := fun x hx => hb x (List.mem_of_mem_drop hx)
      have hdl : (b.drop at'.toNat).length ≤ b.length := by rw [List.length_drop]; omega
      have hn : ¬ (at' < 0 ∨ at' > b.length) := by omega
      simp only [h1, h2, or_self, if_false, decide_false, cond_false, hcut, chk, cond_true, e]
      have := get_rounds fu (fun a c d => some (a, c, d, ())) (fun _ => some (0, 0, 3, ())) at' (b.drop at'.toNat) hd (by omega) (by omega) fu 0 0 (by omega) (by omega) (by omega) (by simp) (by omega)
      refine this.trans ?_
      rw [List.drop_zero]
      generalize hq : get1 (b.drop at'.toNat) 0 0 = q
      unfold fin1 from1
      by_cases h0 : q.2.2 = 0
      · simp [h0]
      · by_cases h3 : q.2.2 = 3
        · have hz := get1_err (b.drop at'.toNat) 0 0
          rw [hq] at hz
          simp [h3, hz h0]
        · have hz := get1_err (b.drop at'.toNat) 0 0
          rw [hq] at hz
          simp [h0, h3, hz h0]
theorem apOk1 {xs ys : List Int} (h : xs.length + ys.length ≤ 1000000) : apOk xs ys 1 = true := by
  unfold apOk
  exact decide_eq_true (Nat.le_trans (Nat.mul_le_mul_right 1 h) (by decide))
theorem u64Of {x : Int} (h : inR .u64 x) : 0 ≤ x ∧ x < 18446744073709551616 := by
  simp [inR, IntKind.min, IntKind.max, IntKind.signed, IntKind.bits] at h
  omega
theorem byOf {l : List Int} (h : (Kd.slice (.int .u8)).ok l) : By l := fun x hx => by
  have := h.2 x hx
  simp [Kd.ok, inR, IntKind.min, IntKind.max, IntKind.signed, IntKind.bits] at this
  omega
theorem wrap_u32 {x : Int} (h0 : 0 ≤ x) (h1 : x < 4294967296) : IntKind.u32.wrap x = x := by
  simp only [IntKind.wrap, IntKind.signed, IntKind.bits]
  simp
  omega
theorem u32Of {x : Int} (h : inR .u32 x) : 0 ≤ x ∧ x < 4294967296 := by
  simp [inR, IntKind.min, IntKind.max, IntKind.signed, IntKind.bits] at h
  omega
def may23 (b : S0) : Bool := decide (1 ≤ b.1 ∧ b.1 ≤ 65536 ∧ b.1 ≤ b.2.1 ∧ b.2.1 ≤ 1048576 ∧ 1 ≤ b.2.2.1 ∧ b.2.2.1 ≤ 64)
theorem backMay_eq (fu : Nat) (b : S0) : backMay fu b = some (may23 b, ()) := by
  unfold backMay may23
  by_cases h1 : 1 ≤ b.1 <;> by_cases h2 : b.1 ≤ 65536 <;> by_cases h3 : b.1 ≤ b.2.1 <;> by_cases h4 : b.2.1 ≤ 1048576 <;> by_cases h5 : 1 ≤ b.2.2.1 <;> by_cases h6 : b.2.2.1 ≤ 64 <;> simp [h1, h2, h3, h4, h5, h6]
theorem ref23May_eq (fu : Nat) (b : S0) : ref23May fu b = some (may23 b, ()) := by
  unfold ref23May may23
  have e1 : (b.1 > 0) = (1 ≤ b.1) := propext (by omega)
  have e2 : (b.2.2.1 > 0) = (1 ≤ b.2.2.1) := propext (by omega)
  simp only [e1, e2]
  by_cases h1 : 1 ≤ b.1 <;> by_cases h2 : b.1 ≤ 65536 <;> by_cases h3 : b.1 ≤ b.2.1 <;> by_cases h4 : b.2.1 ≤ 1048576 <;> by_cases h5 : 1 ≤ b.2.2.1 <;> by_cases h6 : b.2.2.1 ≤ 64 <;> simp [h1, h2, h3, h4, h5, h6]
def pause23 (b : S0) (n : Int) : Int := if may23 b = false ∨ n = 0 then 0 else min2 (b.1 * 2 ^ (min (n - 1).toNat 20)) b.2.1
theorem may23Of {b : S0} (h : may23 b = true) : 1 ≤ b.1 ∧ b.1 ≤ 65536 ∧ b.1 ≤ b.2.1 ∧ b.2.1 ≤ 1048576 ∧ 1 ≤ b.2.2.1 ∧ b.2.2.1 ≤ 64 := of_decide_eq_true h
theorem pow20 (m : Nat) : (1 : Int) ≤ 2 ^ (min m 20) ∧ (2 : Int) ^ (min m 20) ≤ 1048576 := by
  have h1 : (2 : Int) ^ (min m 20) ≤ 2 ^ 20 := by exact_mod_cast Nat.pow_le_pow_right (by omega) (Nat.min_le_right m 20)
  have h0 : (0 : Int) < 2 ^ (min m 20) := Int.pow_pos (by omega)
  constructor
  · omega
  · simpa using h1
theorem backPause_eq (fu : Nat) (b : S0) (n : Int) (hn : inR .u32 n) : backPause fu b n = some (pause23 b n, ()) := by
  unfold backPause pause23
  rw [backMay_eq]
  simp only [Option.bind_some]
  cases hm : may23 b with
  | false => simp
  | true =>
    obtain ⟨h1, h2, h3, h4, h5, h6⟩ := may23Of hm
    have hn' := u32Of hn
    by_cases h0 : n = 0
    · simp [h0]
    · have e1 : IntKind.u32.wrap (n - 1) = n - 1 := wrap_u32 (by omega) (by omega)
      have e2 : (0 : Int) ≤ min2 (n - 1) 20 := by unfold min2; split <;> omega
      have e3 : (min2 (n - 1) 20).toNat = min (n - 1).toNat 20 := by unfold min2; split <;> omega
      have e4 : IntKind.u64.wrap b.1 = b.1 := wrap_u64 (by omega) (by omega)
      have e5 : IntKind.u64.wrap b.2.1 = b.2.1 := wrap_u64 (by omega) (by omega)
      have hp := pow20 (n - 1).toNat
      have e6 : sShl .u64 b.1 (min2 (n - 1) 20) = b.1 * 2 ^ (min (n - 1).toNat 20) := by
        unfold sShl
        rw [e3]
        have : min (min (n - 1).toNat 20) IntKind.u64.bits = min (n - 1).toNat 20 := by simp only [IntKind.bits]; omega
        rw [this]
        refine wrap_u64 (Int.mul_nonneg (by omega) (by omega)) ?_
        calc b.1 * 2 ^ (min (n - 1).toNat 20) ≤ 65536 * 1048576 := Int.mul_le_mul h2 hp.2 (by omega) (by omega)
          _ < _ := by decide
      simp only [show (n == (0 : Int)) = false from beq_false_of_ne h0, e1, e4, e5, e6, chk, show decide (min2 (n - 1) 20 < 0) = false from decide_eq_false (by omega), Bool.not_true, Bool.not_false, cond_false, cond_true, h0, or_false, Bool.true_eq_false, if_false]
theorem over_eq (fu : Nat) (t : O1) : backTriesOver fu t = some ((decide (t.2.2.1 ≥ t.1.2.2.1), ()), (t, ())) := rfl
def due23 (t : O1) (now : Int) : Bool := decide (t.2.1 = true ∧ t.2.2.1 < t.1.2.2.1 ∧ t.2.2.2.1 ≤ now)
theorem due_eq (fu : Nat) (t : O1) (now : Int) : backTriesDue fu t now = some ((due23 t now, ()), (t, ())) := by
  unfold backTriesDue due23
  obtain ⟨b, p, c, nx, u⟩ := t
  simp only [over_eq, Option.bind_some]
  cases p with
  | false => simp
  | true =>
    have e : (c < b.2.2.1) = ¬ (b.2.2.1 ≤ c) := propext (by omega)
    by_cases h1 : b.2.2.1 ≤ c <;> by_cases h2 : nx ≤ now <;> simp [h1, h2, e]
def try23 (t : O1) (now : Int) : Bool × O1 :=
  if due23 t now then (true, (t.1, t.2.1, IntKind.u32.wrap (t.2.2.1 + 1), IntKind.u64.wrap (now + pause23 t.1 (IntKind.u32.wrap (t.2.2.1 + 1))), ())) else (false, t)
theorem try_eq (fu : Nat) (t : O1) (now : Int) : backTriesTry fu t now = some (((try23 t now).1, ()), ((try23 t now).2, ())) := by
  unfold backTriesTry try23
  simp only [due_eq, Option.bind_some, backPause_eq fu _ _ (inR_wrap .u32 _)]
  cases due23 t now <;> simp
theorem new_eq (fu : Nat) (b : S0) : backNew fu b = if may23 b then some ((some (b, false, (0 : Int), (0 : Int), ()), (0 : Int), ()), (())) else some ((none, (1 : Int), ()), (())) := by
  unfold backNew
  rw [backMay_eq]
  cases may23 b <;> simp
theorem cloneB_eq (fu : Nat) (b : List Int) (hl : b.length ≤ 500000) : slicesCloneDat fu b = some (b, ()) := by
  unfold slicesCloneDat
  have e : apOk ([] : List Int) b 1 = true := apOk1 (by simp; omega)
  cases b with
  | nil => unfold nilQ both; simp [chk, e]
  | cons x l => show chk (apOk [] (x :: l) 1) _ = _; rw [e]; rfl
theorem cloneH_eq (fu : Nat) (b : List S3) (hl : b.length ≤ 1000) : slicesCloneDatF46 fu b = some (b, ()) := by
  unfold slicesCloneDatF46
  have e : apOk ([] : List S3) b 24 = true := by
    unfold apOk
    exact decide_eq_true (Nat.le_trans (Nat.mul_le_mul_right 24 (show ([] : List S3).length + b.length ≤ 1000 by simp; omega)) (by decide))
  cases b with
  | nil => unfold nilQ both; simp [chk, e]
  | cons x l => show chk (apOk [] (x :: l) 24) _ = _; rw [e]; rfl
theorem match_eq (fu : Nat) (b : List Int) (hb : By b) (hl : b.length ≤ 2000) (hfu : 3000 ≤ fu) : ∃ m ok, clientMatch fu b = some (m, ok, ()) := by
  unfold clientMatch
  rw [packGet_eq fu b hb (by omega) (by omega)]
  simp only [Option.bind_some]
  cases h1 : ((got b 0).2.2 != (0 : Int)) with
  | true => exact ⟨_, _, rfl⟩
  | false =>
    simp only [cond_false]
    rw [packGet_eq fu b hb (by omega) (by omega)]
    simp only [Option.bind_some]
    cases h2 : ((got b (got b 0).2.1).2.2 == (0 : Int)) with
    | false => exact ⟨_, _, rfl⟩
    | true =>
      simp only [cond_true]
      cases h3 : ((got b (got b 0).2.1).2.1 == (b.length : Int)) with
      | false => exact ⟨_, _, rfl⟩
      | true =>
        simp only [cond_true]
        cases h4 : decide ((got b 0).1 ≤ (got b (got b 0).2.1).1) with
        | false => exact ⟨_, _, rfl⟩
        | true => exact ⟨_, _, rfl⟩
/-! ### What becomes of a client -/
abbrev Cl (s : Int) (pat : List Int) (q : Int) (b : S0) (t1 : Bool) (t2 t3 : Int) (ty th : Bool) (ep hs : Int) (pr pk fl : Bool) (hr : Int) (hd : List S3) : O4 := (s, pat, q, (b, t1, t2, t3, ()), ty, th, ep, hs, pr, pk, fl, hr, hd, ())
def hasC (c : O4) : Int := c.2.2.2.2.2.2.2.1
def promC (c : O4) : Bool := c.2.2.2.2.2.2.2.2.1
def hdC (c : O4) : List S3 := c.2.2.2.2.2.2.2.2.2.2.2.2.1
/-- No match is handed over. -/
def Kp0 (c : O4) (l : List S5) (c' : O4) : Prop :=
  c'.2.1 = c.2.1 ∧ hasC c' = hasC c ∧ hdC c' = hdC c ∧ (promC c = true → promC c' = true) ∧ (l = [] ∨ ∃ f, l = [f] ∧ (f.1 = 9 → f.2.2.2.1 = hasC c ∧ promC c' = true) ∧ (f.1 = 6 → f.2.2.2.1 = hasC c))
/-- One is. -/
def Kp1 (c : O4) (l : List S5) (c' : O4) : Prop :=
  c'.2.1 = c.2.1 ∧ ∃ N m f, hasC c ≤ N ∧ N < 1099511627776 ∧ (N = hasC c → promC c = false) ∧ hdC c' = hdC c ++ [(N, m, ())] ∧ hasC c' = N + 1 ∧ l = [f] ∧ f.1 ≠ 9 ∧ f.2.2.2.1 = N + 1
theorem deliver_ok (fu : Nat) (hfu : 3000 ≤ fu) (s : Int) (pat : List Int) (q : Int) (b : S0) (t1 : Bool) (t2 t3 : Int) (ty th : Bool) (ep hs : Int) (pr pk fl : Bool) (hr : Int) (hd : List S3) (k su e N M : Int) (by' : List Int)
    (hN : 0 ≤ N) (hb : By by') (hl : by'.length ≤ 2000) (hh : hd.length ≤ 1000) :
    ∃ l c', clientClientDeliver fu (Cl s pat q b t1 t2 t3 ty th ep hs pr pk fl hr hd) (k, su, e, N, M, by', ()) = some ((l, ()), (c', ())) ∧ (Kp0 (Cl s pat q b t1 t2 t3 ty th ep hs pr pk fl hr hd) l c' ∨ Kp1 (Cl s pat q b t1 t2 t3 ty th ep hs pr pk fl hr hd) l c') := by
  obtain ⟨m, ok, hm⟩ := match_eq fu by' hb hl hfu
  unfold clientClientDeliver
  simp only [hm, Option.bind_some, clientClientDeliver.j14003, clientClientDeliver.j37005, clientClientDeliver.j55007, clientClientDeliver.j11, clientClientSay]
  have ack : ∃ l c', some (([((6 : Int), s, ep, hs, (0 : Int), ([] : List Int), ())], ()), (Cl s pat q b t1 t2 t3 ty th ep hs pr pk fl hr hd, ())) = some ((l, ()), (c', ())) ∧ (Kp0 (Cl s pat q b t1 t2 t3 ty th ep hs pr pk fl hr hd) l c' ∨ Kp1 (Cl s pat q b t1 t2 t3 ty th ep hs pr pk fl hr hd) l c') :=
    ⟨_, _, rfl, .inl ⟨rfl, rfl, rfl, fun h => h, .inr ⟨_, rfl, (fun h => by cases h), fun _ => rfl⟩⟩⟩
  have nothing : ∃ l c', some ((([] : List S5), ()), (Cl s pat q b t1 t2 t3 ty th ep hs pr pk fl hr hd, ())) = some ((l, ()), (c', ())) ∧ (Kp0 (Cl s pat q b t1 t2 t3 ty th ep hs pr pk fl hr hd) l c' ∨ Kp1 (Cl s pat q b t1 t2 t3 ty th ep hs pr pk fl hr hd) l c') :=
    ⟨_, _, rfl, .inl ⟨rfl, rfl, rfl, fun h => h, .inl rfl⟩⟩
  by_cases h1 : N < hs
  · simp only [decide_eq_true h1, cond_true]; exact ack
  simp only [decide_eq_false h1, cond_false]
  by_cases h2 : M > hs
  · simp only [decide_eq_true h2, cond_true]; exact ack
  simp only [decide_eq_false h2, cond_false]
  have last : ∀ (_ : N = hs → pr = false), ∃ l c', (cond (!ok) (some ((([] : List S5), ()), (Cl s pat q b t1 t2 t3 ty th ep hs pr pk fl hr hd, ())))
      (cond (decide (N ≥ 1099511627776)) (some ((([] : List S5), ()), (Cl s pat q b t1 t2 t3 ty th ep hs pr pk fl hr hd, ())))
        (chk (apOk hd [(N, m, ())] 24) (some (([((6 : Int), s, ep, IntKind.u64.wrap (N + 1), (0 : Int), ([] : List Int), ())], ()), (Cl s pat q b t1 t2 t3 ty th ep (IntKind.u64.wrap (N + 1)) false pk fl hr (hd ++ [(N, m, ())]), ())))))) = some ((l, ()), (c', ())) ∧ (Kp0 (Cl s pat q b t1 t2 t3 ty th ep hs pr pk fl hr hd) l c' ∨ Kp1 (Cl s pat q b t1 t2 t3 ty th ep hs pr pk fl hr hd) l c') := fun hp => by
    cases ok with
    | false => exact nothing
    | true =>
      simp only [Bool.not_true, cond_false]
      by_cases h5 : N ≥ 1099511627776
      · simp only [decide_eq_true h5, cond_true]; exact nothing
      have ea : apOk hd [(N, m, ())] 24 = true := by
        unfold apOk
        exact decide_eq_true (Nat.le_trans (Nat.mul_le_mul_right 24 (show hd.length + [(N, m, ())].length ≤ 1001 by simp; omega)) (by decide))
      have ew : IntKind.u64.wrap (N + 1) = N + 1 := wrap_u64 (by omega) (by omega)
      simp only [decide_eq_false h5, cond_false, ea, chk, cond_true, ew]
      exact ⟨_, _, rfl, .inr ⟨rfl, N, m, _, by show hs ≤ N; omega, by omega, hp, rfl, rfl, rfl, (fun h => by cases h), rfl⟩⟩
  by_cases h3 : N = hs
  · subst h3
    simp only [beq_self_eq_true, cond_true]
    cases pr with
    | true =>
      simp only [cond_true]
      exact ⟨_, _, rfl, .inl ⟨rfl, rfl, rfl, fun h => h, .inr ⟨_, rfl, fun _ => ⟨rfl, rfl⟩, (fun h => by cases h)⟩⟩⟩
    | false =>
      simp only [cond_false]
      cases pk with
      | true =>
        simp only [cond_true]
        exact ⟨_, _, rfl, .inl ⟨rfl, rfl, rfl, fun h => h, .inr ⟨_, rfl, (fun h => by cases h), (fun h => by cases h)⟩⟩⟩
      | false =>
        simp only [cond_false]
        exact last fun _ => rfl
  · have e3 : (N == hs) = false := beq_eq_false_iff_ne.2 h3
    simp only [e3, cond_false]
    exact last fun h => (h3 h).elim
theorem hear_ok (fu : Nat) (hfu : 3000 ≤ fu) (s : Int) (pat : List Int) (q : Int) (b : S0) (t1 : Bool) (t2 t3 : Int) (ty th : Bool) (ep hs : Int) (pr pk fl : Bool) (hr : Int) (hd : List S3) (k su e N M : Int) (by' : List Int) (now : Int)
    (hN : 0 ≤ N) (hb : By by') (hl : by'.length ≤ 2000) (hh : hd.length ≤ 1000) :
    ∃ l c', clientClientHear fu (Cl s pat q b t1 t2 t3 ty th ep hs pr pk fl hr hd) (k, su, e, N, M, by', ()) now = some ((l, ()), (c', ())) ∧ (Kp0 (Cl s pat q b t1 t2 t3 ty th ep hs pr pk fl hr hd) l c' ∨ Kp1 (Cl s pat q b t1 t2 t3 ty th ep hs pr pk fl hr hd) l c') := by
  unfold clientClientHear
  simp only [clientClientHear.j54018, clientClientHear.j19, clientClientBegins, backTriesBegin, Option.bind_some]
  have j19 : ∀ (th : Bool) (ep : Int), ∃ l c', (cond (!th) (some ((([] : List S5), ()), (Cl s pat q b t1 t2 t3 ty th ep hs pr pk fl hr hd, ())))
      (cond (e != ep) (some ((([] : List S5), ()), (Cl s pat q b t1 t2 t3 ty th ep hs pr pk fl hr hd, ())))
        (cond (k == (2 : Int)) ((clientClientSay fu (Cl s pat q b t1 t2 t3 ty th ep hs pr pk fl now hd) 6 hs).bind fun r1 => some ((r1.1.1, ()), ((r1.2.1.1, r1.2.1.2.1, r1.2.1.2.2.1, (r1.2.1.2.2.2.1.1, r1.2.1.2.2.2.1.2.1, r1.2.1.2.2.2.1.2.2.1, r1.2.1.2.2.2.1.2.2.2.1, ()), r1.2.1.2.2.2.2.1, r1.2.1.2.2.2.2.2.1, r1.2.1.2.2.2.2.2.2.1, r1.2.1.2.2.2.2.2.2.2.1, r1.2.1.2.2.2.2.2.2.2.2.1, r1.2.1.2.2.2.2.2.2.2.2.2.1, r1.2.1.2.2.2.2.2.2.2.2.2.2.1, r1.2.1.2.2.2.2.2.2.2.2.2.2.2.1, r1.2.1.2.2.2.2.2.2.2.2.2.2.2.2.1, ()), ())))
          (cond (k == (5 : Int)) ((clientClientDeliver fu (Cl s pat q b t1 t2 t3 ty th ep hs pr pk fl now hd) (k, su, e, N, M, by', ())).bind fun r1 => some ((r1.1.1, ()), ((r1.2.1.1, r1.2.1.2.1, r1.2.1.2.2.1, (r1.2.1.2.2.2.1.1, r1.2.1.2.2.2.1.2.1, r1.2.1.2.2.2.1.2.2.1, r1.2.1.2.2.2.1.2.2.2.1, ()), r1.2.1.2.2.2.2.1, r1.2.1.2.2.2.2.2.1, r1.2.1.2.2.2.2.2.2.1, r1.2.1.2.2.2.2.2.2.2.1, r1.2.1.2.2.2.2.2.2.2.2.1, r1.2.1.2.2.2.2.2.2.2.2.2.1, r1.2.1.2.2.2.2.2.2.2.2.2.2.1, r1.2.1.2.2.2.2.2.2.2.2.2.2.2.1, r1.2.1.2.2.2.2.2.2.2.2.2.2.2.2.1, ()), ())))
            (cond (k == (8 : Int)) (cond (N != hs) ((clientClientSay fu (Cl s pat q b t1 t2 t3 ty th ep hs pr pk fl now hd) 6 hs).bind fun r1 => some ((r1.1.1, ()), ((r1.2.1.1, r1.2.1.2.1, r1.2.1.2.2.1, (r1.2.1.2.2.2.1.1, r1.2.1.2.2.2.1.2.1, r1.2.1.2.2.2.1.2.2.1, r1.2.1.2.2.2.1.2.2.2.1, ()), r1.2.1.2.2.2.2.1, r1.2.1.2.2.2.2.2.1, r1.2.1.2.2.2.2.2.2.1, r1.2.1.2.2.2.2.2.2.2.1, r1.2.1.2.2.2.2.2.2.2.2.1, r1.2.1.2.2.2.2.2.2.2.2.2.1, r1.2.1.2.2.2.2.2.2.2.2.2.2.1, r1.2.1.2.2.2.2.2.2.2.2.2.2.2.1, r1.2.1.2.2.2.2.2.2.2.2.2.2.2.2.1, ()), ())))
              ((clientClientSay fu (Cl s pat q b t1 t2 t3 ty th ep hs true pk fl now hd) 9 N).bind fun r1 => some ((r1.1.1, ()), ((r1.2.1.1, r1.2.1.2.1, r1.2.1.2.2.1, (r1.2.1.2.2.2.1.1, r1.2.1.2.2.2.1.2.1, r1.2.1.2.2.2.1.2.2.1, r1.2.1.2.2.2.1.2.2.2.1, ()), r1.2.1.2.2.2.2.1, r1.2.1.2.2.2.2.2.1, r1.2.1.2.2.2.2.2.2.1, r1.2.1.2.2.2.2.2.2.2.1, r1.2.1.2.2.2.2.2.2.2.2.1, r1.2.1.2.2.2.2.2.2.2.2.2.1, r1.2.1.2.2.2.2.2.2.2.2.2.2.1, r1.2.1.2.2.2.2.2.2.2.2.2.2.2.1, r1.2.1.2.2.2.2.2.2.2.2.2.2.2.2.1, ()), ()))))
              (cond (k == (17 : Int)) (some ((([] : List S5), ()), (Cl s pat q b t1 t2 t3 ty th ep hs pr pk true now hd, ()))) (some ((([] : List S5), ()), (Cl s pat q b t1 t2 t3 ty th ep hs pr pk fl now hd, ()))))))))) = some ((l, ()), (c', ())) ∧ (Kp0 (Cl s pat q b t1 t2 t3 ty th ep hs pr pk fl hr hd) l c' ∨ Kp1 (Cl s pat q b t1 t2 t3 ty th ep hs pr pk fl hr hd) l c') := fun th ep => by
    cases th with
    | false => exact ⟨_, _, rfl, .inl ⟨rfl, rfl, rfl, fun h => h, .inl rfl⟩⟩
    | true =>
      simp only [Bool.not_true, cond_false]
      cases (e != ep) with
      | true => exact ⟨_, _, rfl, .inl ⟨rfl, rfl, rfl, fun h => h, .inl rfl⟩⟩
      | false =>
        simp only [cond_false]
        cases (k == (2 : Int)) with
        | true => exact ⟨_, _, rfl, .inl ⟨rfl, rfl, rfl, fun h => h, .inr ⟨_, rfl, (fun h => by cases h), fun _ => rfl⟩⟩⟩
        | false =>
          simp only [cond_false]
          cases (k == (5 : Int)) with
          | true =>
            simp only [cond_true]
            obtain ⟨l, c', h1, h2⟩ := deliver_ok fu hfu s pat q b t1 t2 t3 ty true ep hs pr pk fl now hd k su e N M by' hN hb hl hh
            rw [h1]
            exact ⟨l, c', rfl, h2⟩
          | false =>
            simp only [cond_false]
            cases (k == (8 : Int)) with
            | true =>
              simp only [cond_true]
              by_cases h3 : N = hs
              · subst h3
                simp only [bne_self_eq_false, cond_false]
                exact ⟨_, _, rfl, .inl ⟨rfl, rfl, rfl, fun _ => rfl, .inr ⟨_, rfl, fun _ => ⟨rfl, rfl⟩, (fun h => by cases h)⟩⟩⟩
              · have : (N != hs) = true := bne_iff_ne.2 h3
                simp only [this, cond_true]
                exact ⟨_, _, rfl, .inl ⟨rfl, rfl, rfl, fun h => h, .inr ⟨_, rfl, (fun h => by cases h), fun _ => rfl⟩⟩⟩
            | false =>
              simp only [cond_false]
              cases (k == (17 : Int)) with
              | true => exact ⟨_, _, rfl, .inl ⟨rfl, rfl, rfl, fun h => h, .inl rfl⟩⟩
              | false => exact ⟨_, _, rfl, .inl ⟨rfl, rfl, rfl, fun h => h, .inl rfl⟩⟩
  cases decide (now > 1099511627776) with
  | true => exact ⟨_, _, rfl, .inl ⟨rfl, rfl, rfl, fun h => h, .inl rfl⟩⟩
  | false =>
    simp only [cond_false]
    by_cases h13 : k = 13
    · subst h13
      simp only [beq_self_eq_true, cond_true]
      exact ⟨_, _, rfl, .inl ⟨rfl, rfl, rfl, fun h => h, .inr ⟨_, rfl, (fun h => by cases h), (fun h => by cases h)⟩⟩⟩
    simp only [beq_eq_false_iff_ne.2 h13, cond_false]
    cases (k == (16 : Int)) with
    | true => exact ⟨_, _, rfl, .inl ⟨rfl, rfl, rfl, fun h => h, .inl rfl⟩⟩
    | false =>
      simp only [cond_false]
      cases (su != s) with
      | true => exact ⟨_, _, rfl, .inl ⟨rfl, rfl, rfl, fun h => h, .inl rfl⟩⟩
      | false =>
        simp only [cond_false]
        cases (k == (15 : Int)) with
        | true => exact ⟨_, _, rfl, .inl ⟨rfl, rfl, rfl, fun h => h, .inl rfl⟩⟩
        | false =>
          simp only [cond_false]
          by_cases h2 : k = 2
          · subst h2
            have j := j19
            simp only [beq_self_eq_true, cond_true] at j ⊢
            cases decide (e > ep) with
            | true => exact j true e
            | false => exact j th ep
          · have j := j19
            simp only [beq_eq_false_iff_ne.2 h2, cond_false] at j ⊢
            exact j th ep
/-! ### The others -/
def Kept (c c' : O4) : Prop := c'.2.1 = c.2.1 ∧ hasC c' = hasC c ∧ promC c' = promC c ∧ hdC c' = hdC c
theorem Kept.rf (c : O4) : Kept c c := ⟨rfl, rfl, rfl, rfl⟩
theorem begins_ok (fu : Nat) (c : O4) (now : Int) : ∃ c', clientClientBegins fu c now = some ((()), (c', ())) ∧ Kept c c' :=
  ⟨_, rfl, rfl, rfl, rfl, rfl⟩
theorem come_ok (fu : Nat) (c : O4) (now : Int) : ∃ c', clientClientCome fu c now = some ((()), (c', ())) ∧ Kept c c' := by
  unfold clientClientCome
  cases decide (now > (1099511627776 : Int)) with
  | true => exact ⟨_, rfl, rfl, rfl, rfl, rfl⟩
  | false =>
    simp only [cond_false]
    cases c.2.2.2.2.2.1 with
    | true => exact ⟨_, rfl, rfl, rfl, rfl, rfl⟩
    | false =>
      simp only [cond_false]
      cases c.2.2.2.2.1 with
      | false => exact ⟨_, rfl, rfl, rfl, rfl, rfl⟩
      | true =>
        simp only [cond_true, over_eq, Option.bind_some]
        cases (decide (c.2.2.2.1.2.2.1 ≥ c.2.2.2.1.1.2.2.1)) with
        | true => exact ⟨_, rfl, rfl, rfl, rfl, rfl⟩
        | false => exact ⟨_, rfl, rfl, rfl, rfl, rfl⟩
theorem picky_ok (fu : Nat) (c : O4) (on : Bool) : ∃ c', clientClientPicky fu c on = some ((()), (c', ())) ∧ Kept c c' :=
  ⟨_, rfl, rfl, rfl, rfl, rfl⟩
theorem sj_eq (fu : Nat) (k0 : Int → Bool → Int → (List Int) → Int → Bool → Bool → Int → Int → Bool → Bool → Bool → Int → (List S3) → S0 → Bool → Int → Int → Option (((List S5) × Unit) × (O4 × Unit))) (now : Int) (v : Bool) (s : Int) (p : List Int) (q : Int) (ty th : Bool) (ep hs : Int) (pr pk fl : Bool) (hr : Int) (hd : List S3) (b : S0) (t1 : Bool) (t2 t3 : Int) :
    ∃ v', clientClientSend.j13004 fu k0 now v s p q ty th ep hs pr pk fl hr hd b t1 t2 t3 = k0 now v' s p q ty th ep hs pr pk fl hr hd b t1 t2 t3 := by
  unfold clientClientSend.j13004
  cases v with
  | true => exact ⟨_, rfl⟩
  | false =>
    simp only [cond_false]
    cases th with
    | true => exact ⟨_, rfl⟩
    | false =>
      simp only [Bool.not_false, cond_true]
      cases ty with
      | false => exact ⟨_, rfl⟩
      | true =>
        simp only [cond_true, over_eq, Option.bind_some, backTriesNext]
        cases decide (t2 ≥ b.2.2.1) with
        | true => exact ⟨_, rfl⟩
        | false => exact ⟨_, rfl⟩
theorem s6_eq (fu : Nat) (k1 : (List S5) → Int → (List Int) → Int → Bool → Bool → Int → Int → Bool → Bool → Bool → Int → (List S3) → S0 → Bool → Int → Int → Option (((List S5) × Unit) × (O4 × Unit))) (now : Int) (s : Int) (p : List Int) (hp : p.length ≤ 500000) (q : Int) (ty th : Bool) (ep hs : Int) (pr pk fl : Bool) (hr : Int) (hd : List S3) (b : S0) (t1 : Bool) (t2 t3 : Int) :
    ∃ l b' t1' t2' t3', clientClientSend.j6 fu k1 now s p q ty th ep hs pr pk fl hr hd b t1 t2 t3 = k1 l s p q ty th ep hs pr pk fl hr hd b' t1' t2' t3' := by
  unfold clientClientSend.j6
  cases th with
  | true => exact ⟨_, _, _, _, _, rfl⟩
  | false =>
    simp only [cond_false, try_eq, Option.bind_some]
    cases (try23 (b, t1, t2, t3, ()) now).1 with
    | false => exact ⟨_, _, _, _, _, rfl⟩
    | true =>
      simp only [Bool.not_true, cond_false, cloneB_eq fu p hp, Option.bind_some]
      exact ⟨_, _, _, _, _, rfl⟩
theorem send_ok (fu : Nat) (c : O4) (now : Int) (hp : c.2.1.length ≤ 500000) : ∃ l c', clientClientSend fu c now = some ((l, ()), (c', ())) ∧ Kept c c' := by
  unfold clientClientSend
  cases decide (now > (1099511627776 : Int)) with
  | true => exact ⟨_, _, rfl, Kept.rf c⟩
  | false =>
    simp only [cond_false]
    cases c.2.2.2.2.2.1 with
    | true =>
      simp only [cond_true]
      obtain ⟨v', hv⟩ := sj_eq fu _ now _ _ _ _ _ _ _ _ _ _ _ _ _ _ _ _ _
      rw [hv]
      cases v' with
      | true =>
        simp only [cond_true, clientClientBegins, backTriesBegin, Option.bind_some]
        obtain ⟨l, b', t1', t2', t3', h6⟩ := s6_eq fu _ now _ c.2.1 hp _ _ _ _ _ _ _ _ _ _ _ _ _ _
        rw [h6]
        exact ⟨_, _, rfl, rfl, rfl, rfl, rfl⟩
      | false =>
        simp only [cond_false]
        obtain ⟨l, b', t1', t2', t3', h6⟩ := s6_eq fu _ now _ c.2.1 hp _ _ _ _ _ _ _ _ _ _ _ _ _ _
        rw [h6]
        exact ⟨_, _, rfl, rfl, rfl, rfl, rfl⟩
    | false =>
      simp only [cond_false]
      obtain ⟨v', hv⟩ := sj_eq fu _ now _ _ _ _ _ _ _ _ _ _ _ _ _ _ _ _ _
      rw [hv]
      cases v' with
      | true =>
        simp only [cond_true, clientClientBegins, backTriesBegin, Option.bind_some]
        obtain ⟨l, b', t1', t2', t3', h6⟩ := s6_eq fu _ now _ c.2.1 hp _ _ _ _ _ _ _ _ _ _ _ _ _ _
        rw [h6]
        exact ⟨_, _, rfl, rfl, rfl, rfl, rfl⟩
      | false =>
        simp only [cond_false]
        obtain ⟨l, b', t1', t2', t3', h6⟩ := s6_eq fu _ now _ c.2.1 hp _ _ _ _ _ _ _ _ _ _ _ _ _ _
        rw [h6]
        exact ⟨_, _, rfl, rfl, rfl, rfl, rfl⟩
theorem own_eq (fu : Nat) (f : S5) (hl : f.2.2.2.2.2.1.length ≤ 2000) : law25Own fu f = some (f, ()) := by
  unfold law25Own
  have e : apOk ([] : List Int) f.2.2.2.2.2.1 1 = true := apOk1 (by simp; omega)
  rw [e]
  rfl
/-! ### What is gone through -/
theorem cut2_ok (fu : Nat) (l : List S6) (k1 k2 : List S6 → Option ((List S6) × Unit)) (hk : ∀ x, k1 x = some (x, ())) (hk2 : ∀ x, k2 x = some (x, ())) :
    ∀ m i : Nat, i ≤ l.length → i ≤ 201 → (∀ x ∈ l.take i, x.2.2.1.2.2.2.2.2.1.length ≤ 2000) → 202 < m + i →
    ∃ l', law25Cut.l2 fu k1 k2 m l l (l.length : Int) (i : Int) = some (l', ()) ∧ l'.length ≤ 201 ∧ ∀ x ∈ l', x ∈ l ∧ x.2.2.1.2.2.2.2.2.1.length ≤ 2000
  | 0, i, _, _, _, hm => by omega
  | m + 1, i, hi, h2, ht, hm => by
    unfold law25Cut.l2 law25Cut.b2
    have hcut : ∃ l', k1 (cutL l 0 (i : Int)) = some (l', ()) ∧ l'.length ≤ 201 ∧ ∀ x ∈ l', x ∈ l ∧ x.2.2.1.2.2.2.2.2.1.length ≤ 2000 := by
      refine ⟨l.take i, by rw [hk]; simp [cutL], by simp [List.length_take]; omega, fun x hx => ⟨List.mem_of_mem_take hx, ht x hx⟩⟩
    have hcok : cutOk l 0 (i : Int) = true := by simp [cutOk]; omega
    by_cases h1 : i < l.length
    · have e1 : decide ((i : Int) < (l.length : Int)) = true := decide_eq_true (by omega)
      have e2 : ixOk l (i : Int) = true := by simp [ixOk]; omega
      simp only [e1, cond_true, e2, chk, hcok]
      by_cases h3 : i > 200
      · have e3 : decide ((i : Int) > 200) = true := decide_eq_true (by omega)
        simp only [e3, cond_true]
        exact hcut
      · have e3 : decide ((i : Int) > 200) = false := decide_eq_false (by omega)
        simp only [e3, cond_false]
        by_cases h4 : ((ixL ((0 : Int), (0 : Int), ((0 : Int), (0 : Int), (0 : Int), (0 : Int), (0 : Int), [], ()), false, ()) l (i : Int)).2.2.1.2.2.2.2.2.1.length : Int) > 2000
        · simp only [decide_eq_true h4, cond_true]
          exact hcut
        · simp only [decide_eq_false h4, cond_false]
          have ew : IntKind.i64.wrap ((i : Int) + 1) = ((i + 1 : Nat) : Int) := by rw [wrap_i64 (by omega) (by omega)]; rfl
          rw [ew]
          refine cut2_ok fu l k1 k2 hk hk2 m (i + 1) h1 (by omega) (fun x hx => ?_) (by omega)
          rw [List.take_succ_eq_append_getElem h1] at hx
          rcases List.mem_append.1 hx with hx | hx
          · exact ht x hx
          · rw [List.mem_singleton.1 hx]
            have : ixL ((0 : Int), (0 : Int), ((0 : Int), (0 : Int), (0 : Int), (0 : Int), (0 : Int), [], ()), false, ()) l (i : Int) = l[i] := by
              unfold ixL; rw [Int.toNat_natCast]; exact (List.getElem_eq_getD _).symm
            rw [this] at h4
            omega
    · have e1 : decide ((i : Int) < (l.length : Int)) = false := decide_eq_false (by omega)
      simp only [e1, cond_false]
      have : i = l.length := by omega
      refine ⟨l, hk2 l, by omega, fun x hx => ⟨hx, ht x ?_⟩⟩
      rw [this, List.take_length]; exact hx
theorem cut_ok (fu : Nat) (hfu : 300 ≤ fu) (l : List S6) : ∃ l', law25Cut fu l = some (l', ()) ∧ l'.length ≤ 201 ∧ ∀ x ∈ l', x ∈ l ∧ x.2.2.1.2.2.2.2.2.1.length ≤ 2000 :=
  cut2_ok fu l _ _ (fun _ => rfl) (fun _ => rfl) fu 0 (Nat.zero_le _) (by omega) (fun x hx => by simp at hx) (by omega)
theorem clientNew_eq (fu : Nat) (sub : Int) (b : S0) : ∃ t8, clientNew fu sub [] b = if may23 b then some ((some (sub, [], t8, (b, false, (0 : Int), (0 : Int), ()), false, false, (0 : Int), (0 : Int), false, false, false, (0 : Int), [], ()), (0 : Int), ()), (())) else some ((none, (1 : Int), ()), (())) := by
  refine ⟨IntKind.u64.wrap ((8 : Int) * IntKind.u64.wrap b.2.1), ?_⟩
  unfold clientNew
  rw [new_eq]
  cases may23 b with
  | false => rfl
  | true =>
    simp only [if_true, Option.bind_some, oc, cloneB_eq fu [] (by simp), bne_self_eq_false, cond_false]
    rfl
theorem fixed25o : law25Fixed 6000 = some (true, ()) := by
  unfold law25Fixed clientNew
  simp only [cloneB_eq 6000 [] (by simp)]
  kernel_rfl
theorem getD_l {α : Type} (a b : List α) (i : Nat) (z : α) (h : i < a.length) : (a ++ b).getD i z = a.getD i z := by
  simp [List.getD_eq_getElem?_getD, List.getElem?_append_left h]
theorem getD_e {α : Type} (a : List α) (x z : α) : (a ++ [x]).getD a.length z = x := by
  simp [List.getD_eq_getElem?_getD]
/-! ### What is dropped -/
theorem mget_mset (m : List (Int × Bool)) (n k : Int) (v : Bool) : mget (mset m n v) k = if k = n then v else mget m k := by
  induction m with
  | nil =>
    show cond (decide (k = n)) v (mget [] k) = _
    by_cases h : k = n <;> simp [h]
  | cons x r ih =>
    obtain ⟨a, u⟩ := x
    show mget (cond (decide (n = a)) ((n, v) :: r) ((a, u) :: mset r n v)) k = if k = n then v else cond (decide (k = a)) u (mget r k)
    by_cases h1 : n = a
    · subst h1
      simp only [decide_true, cond_true]
      show cond (decide (k = n)) v (mget r k) = _
      by_cases h2 : k = n <;> simp [h2]
    · simp only [decide_eq_false h1, cond_false]
      show cond (decide (k = a)) u (mget (mset r n v) k) = _
      rw [ih]
      by_cases h2 : k = n
      · have : k ≠ a := fun e => h1 (h2.symm.trans e)
        simp [h2, decide_eq_false h1]
      · by_cases h3 : k = a
        · simp [h3]
          exact fun e => (h1 e.symm).elim
        · simp [h2, h3]
abbrev z3 : S3 := ((0 : Int), ((0 : Int), (0 : Int), ()), ())
structure Inv (p : List Int) (hs : Int) (pr : Bool) (hd : List S3) (dm : List (Int × Bool)) (n : Nat) : Prop where
  pat : p = []
  up : ∀ i j, i < j → j < hd.length → (hd.getD i z3).1 < (hd.getD j z3).1
  lt : ∀ x ∈ hd, 0 ≤ x.1 ∧ x.1 < hs
  top : 0 ≤ hs ∧ hs ≤ 1099511627776
  none : hd = [] → hs = 0
  last : 0 < hd.length → hs = (hd.getD (hd.length - 1) z3).1 + 1
  few : hd.length ≤ n
  dr : ∀ N, mget dm N = true → (∀ x ∈ hd, x.1 ≠ N) ∧ N ≤ hs ∧ (N = hs → pr = true)
def dmOf (dm : List (Int × Bool)) : List S5 → List (Int × Bool)
  | [] => dm
  | f :: r => dmOf (cond (f.1 == (9 : Int)) (mset dm f.2.2.2.1 true) dm) r
theorem Inv.kept {p hs pr hd dm n} (h : Inv p hs pr hd dm n) {p' hs' pr' hd'} (h1 : p' = p) (h2 : hs' = hs) (h3 : pr' = pr) (h4 : hd' = hd) : Inv p' hs' pr' hd' dm (n + 1) := by
  subst h1; subst h2; subst h3; subst h4
  exact { h with few := Nat.le_succ_of_le h.few }
theorem Inv.heard {c c' : O4} {l : List S5} {dm n} (h : Inv c.2.1 (hasC c) (promC c) (hdC c) dm n) (hk : Kp0 c l c' ∨ Kp1 c l c') :
    Inv c'.2.1 (hasC c') (promC c') (hdC c') (dmOf dm l) (n + 1) ∧ (l = [] ∨ ∃ f, l = [f] ∧ (f.1 = 6 → f.2.2.2.1 = hasC c')) := by
  rcases hk with ⟨k1, k2, k3, k4, k5⟩ | ⟨k1, N, m, f, k2, k3, k4, k5, k6, k7, k8, k9⟩
  · have base : Inv c'.2.1 (hasC c') (promC c') (hdC c') dm (n + 1) := by
      rw [k1, k2, k3]
      exact { h with few := Nat.le_succ_of_le h.few, dr := fun N hN => ⟨(h.dr N hN).1, (h.dr N hN).2.1, fun e => k4 ((h.dr N hN).2.2 e)⟩ }
    rcases k5 with rfl | ⟨f, rfl, g1, g2⟩
    · exact ⟨base, .inl rfl⟩
    · refine ⟨?_, .inr ⟨f, rfl, fun e => (g2 e).trans k2.symm⟩⟩
      show Inv _ _ _ _ (cond (f.1 == (9 : Int)) (mset dm f.2.2.2.1 true) dm) _
      by_cases e9 : f.1 = 9
      · rw [beq_iff_eq.2 e9]
        obtain ⟨q1, q2⟩ := g1 e9
        refine { base with dr := fun M hM => ?_ }
        simp only [cond_true] at hM
        rw [mget_mset] at hM
        by_cases e : M = f.2.2.2.1
        · refine ⟨fun x hx => ?_, by rw [e, q1, k2]; exact Int.le_refl _, fun _ => q2⟩
          have := (base.lt x hx).2
          rw [e, q1, ← k2]; omega
        · rw [if_neg e] at hM
          exact base.dr M hM
      · rw [beq_eq_false_iff_ne.2 e9]
        exact base
  · refine ⟨?_, .inr ⟨f, k7, fun _ => k9.trans k6.symm⟩⟩
    rw [k7]
    show Inv _ _ _ _ (cond (f.1 == (9 : Int)) (mset dm f.2.2.2.1 true) dm) _
    rw [beq_eq_false_iff_ne.2 k8, k1, k5, k6]
    have ht := h.top
    refine ⟨h.pat, fun i j hij hj => ?_, fun x hx => ?_, by omega, fun e => by simp at e, fun _ => ?_, by simp; exact h.few, fun M hM => ?_⟩
    · simp only [List.length_append, List.length_cons, List.length_nil] at hj
      have ei : ((hdC c ++ [(N, m, ())]).getD i z3) = (hdC c).getD i z3 := by
        exact getD_l _ _ _ _ (by omega)
      rw [ei]
      by_cases e : j < (hdC c).length
      · rw [getD_l _ _ _ _ e]
        exact h.up i j hij e
      · have : j = (hdC c).length := by omega
        subst this
        rw [getD_e]
        show ((hdC c).getD i z3).1 < N
        have hm : (hdC c).getD i z3 ∈ hdC c := by
          rw [List.getD_eq_getElem?_getD, List.getElem?_eq_getElem hij]; exact List.getElem_mem hij
        have := (h.lt _ hm).2
        omega
    · rcases List.mem_append.1 hx with hx | hx
      · have := h.lt x hx; omega
      · rw [List.mem_singleton.1 hx]; show 0 ≤ N ∧ N < N + 1; omega
    · simp only [List.length_append, List.length_cons, List.length_nil, Nat.zero_add, Nat.add_sub_cancel]
      rw [getD_e]
    · simp only [cond_false] at hM
      obtain ⟨q1, q2, q3⟩ := h.dr M hM
      have hMN : M ≠ N := fun e => by
        have e1 : M = hasC c := by omega
        have := q3 e1
        rw [k4 (by omega)] at this
        exact absurd this (by decide)
      refine ⟨fun x hx => ?_, by omega, fun e => by omega⟩
      rcases List.mem_append.1 hx with hx | hx
      · exact q1 x hx
      · rw [List.mem_singleton.1 hx]; exact fun e => hMN e.symm
/-! ### The law's own loops -/
theorem j14_eq (fu : Nat) (k0 : (List S6) → Int → Int → (List S5) → Int → Int → Int → (List Int) → Int → Bool → Bool → Int → Int → Bool → Bool → Bool → Int → (List S3) → S0 → Bool → Int → Int → (List (Int × Bool)) → Option (Bool × Unit)) (k1 : Bool → Option (Bool × Unit)) (v : List S6) (v2 v3 : Int) (l : List S5) (v5 v6 : Int) (s : Int) (p : List Int) (q : Int) (ty th : Bool) (ep hs : Int) (pr pk fl : Bool) (hr : Int) (hd : List S3) (b : S0) (t1 : Bool) (t2 t3 : Int) (dm : List (Int × Bool)) (f : S5) (hf : f.1 = 6 → f.2.2.2.1 = hs) :
    law25ClientOnce.j14 fu k0 k1 v v2 v3 l v5 v6 s p q ty th ep hs pr pk fl hr hd b t1 t2 t3 dm f = k0 v v2 v3 l v5 v6 s p q ty th ep hs pr pk fl hr hd b t1 t2 t3 dm := by
  unfold law25ClientOnce.j14
  by_cases h : f.1 = 6
  · rw [beq_iff_eq.2 h]
    simp only [cond_true, clientClientHas, Option.bind_some, hf h, bne_self_eq_false, cond_false]
  · rw [beq_eq_false_iff_ne.2 h]
    rfl
theorem l10_eq (fu : Nat) (k1 : Bool → Option (Bool × Unit)) (k5 : (List S6) → Int → Int → Int → (List Int) → Int → Bool → Bool → Int → Int → Bool → Bool → Bool → Int → (List S3) → S0 → Bool → Int → Int → (List (Int × Bool)) → Option (Bool × Unit)) (m : Nat) (hm : 2 ≤ m) (v : List S6) (v2 v3 : Int) (l : List S5) (s : Int) (p : List Int) (q : Int) (ty th : Bool) (ep hs : Int) (pr pk fl : Bool) (hr : Int) (hd : List S3) (b : S0) (t1 : Bool) (t2 t3 : Int) (dm : List (Int × Bool)) (hl : l = [] ∨ ∃ f, l = [f] ∧ (f.1 = 6 → f.2.2.2.1 = hs)) :
    law25ClientOnce.l10 fu k1 k5 m v v2 v3 l (l.length : Int) 0 s p q ty th ep hs pr pk fl hr hd b t1 t2 t3 dm = k5 v v2 v3 s p q ty th ep hs pr pk fl hr hd b t1 t2 t3 (dmOf dm l) := by
  obtain ⟨m, rfl⟩ : ∃ m', m = m' + 2 := ⟨m - 2, by omega⟩
  rcases hl with rfl | ⟨f, rfl, hf⟩
  · unfold law25ClientOnce.l10 law25ClientOnce.b10
    rfl
  · unfold law25ClientOnce.l10 law25ClientOnce.b10
    have e0 : decide ((0 : Int) < (([f] : List S5).length : Int)) = true := rfl
    have e1 : ixOk [f] (0 : Int) = true := rfl
    have e2 : ixL ((0 : Int), (0 : Int), (0 : Int), (0 : Int), (0 : Int), ([] : List Int), ()) [f] (0 : Int) = f := rfl
    simp only [e0, e1, e2, cond_true, chk]
    have e3 : ∀ dm', law25ClientOnce.l10 fu k1 k5 (m + 1) v v2 v3 [f] (([f] : List S5).length : Int) (IntKind.i64.wrap (0 + 1)) s p q ty th ep hs pr pk fl hr hd b t1 t2 t3 dm' = k5 v v2 v3 s p q ty th ep hs pr pk fl hr hd b t1 t2 t3 dm' := fun dm' => by
      unfold law25ClientOnce.l10 law25ClientOnce.b10
      rfl
    by_cases h9 : f.1 = 9
    · have : dmOf dm [f] = mset dm f.2.2.2.1 true := by
        show cond (f.1 == (9 : Int)) _ _ = _; rw [beq_iff_eq.2 h9]; rfl
      rw [beq_iff_eq.2 h9, this]
      simp only [cond_true]
      rw [j14_eq fu _ _ _ _ _ _ _ _ _ _ _ _ _ _ _ _ _ _ _ _ _ _ _ _ _ _ hf]
      exact e3 _
    · have : dmOf dm [f] = dm := by
        show cond (f.1 == (9 : Int)) _ _ = _; rw [beq_eq_false_iff_ne.2 h9]; rfl
      rw [beq_eq_false_iff_ne.2 h9, this]
      simp only [cond_false]
      rw [j14_eq fu _ _ _ _ _ _ _ _ _ _ _ _ _ _ _ _ _ _ _ _ _ _ _ _ _ _ hf]
      exact e3 _
theorem ix3 (h : List S3) (i : Nat) : ixL ((0 : Int), ((0 : Int), (0 : Int), ()), ()) h (i : Int) = h.getD i z3 := by
  unfold ixL; rw [Int.toNat_natCast]
theorem ok3 (h : List S3) (i : Nat) (hi : i < h.length) : ixOk h (i : Int) = true := by simp [ixOk]; omega
theorem l25_eq (fu : Nat) (k1 : Bool → Option (Bool × Unit)) (k7 : (List S3) → (List S6) → Int → Int → Int → (List Int) → Int → Bool → Bool → Int → Int → Bool → Bool → Bool → Int → (List S3) → S0 → Bool → Int → Int → (List (Int × Bool)) → Option (Bool × Unit)) (h : List S3) (hh : h.length ≤ 1000) (v : List S6) (v2 v3 : Int) (s : Int) (p : List Int) (q : Int) (ty th : Bool) (ep hs : Int) (pr pk fl : Bool) (hr : Int) (hd : List S3) (b : S0) (t1 : Bool) (t2 t3 : Int) (dm : List (Int × Bool))
    (hup : ∀ i j, i < j → j < h.length → (h.getD i z3).1 < (h.getD j z3).1) (hdm : ∀ x ∈ h, mget dm x.1 = false) :
    ∀ m i : Nat, i ≤ h.length → h.length < m + i → law25ClientOnce.l25 fu k1 k7 m h v v2 v3 h (h.length : Int) (i : Int) s p q ty th ep hs pr pk fl hr hd b t1 t2 t3 dm = k7 h v v2 v3 s p q ty th ep hs pr pk fl hr hd b t1 t2 t3 dm
  | 0, i, hi, hm => by omega
  | m + 1, i, hi, hm => by
    unfold law25ClientOnce.l25 law25ClientOnce.b25
    by_cases h1 : i < h.length
    · have e1 : decide ((i : Int) < (h.length : Int)) = true := decide_eq_true (by omega)
      have hmem : h.getD i z3 ∈ h := by rw [List.getD_eq_getElem?_getD, List.getElem?_eq_getElem h1]; exact List.getElem_mem h1
      have ew : IntKind.i64.wrap ((i : Int) + 1) = ((i + 1 : Nat) : Int) := by rw [wrap_i64 (by omega) (by omega)]; rfl
      have nx := l25_eq fu k1 k7 h hh v v2 v3 s p q ty th ep hs pr pk fl hr hd b t1 t2 t3 dm hup hdm m (i + 1) h1 (by omega)
      simp only [e1, cond_true, ok3 h i h1, chk, ix3, hdm _ hmem, cond_false, ew, nx]
      by_cases h2 : 0 < i
      · have e2 : decide ((i : Int) > 0) = true := decide_eq_true (by omega)
        have ew2 : IntKind.i64.wrap ((i : Int) - 1) = ((i - 1 : Nat) : Int) := by rw [wrap_i64 (by omega) (by omega)]; omega
        have e3 : decide ((h.getD i z3).1 ≤ (h.getD (i - 1) z3).1) = false := decide_eq_false (by have := hup (i - 1) i (by omega) h1; omega)
        simp only [e2, cond_true, ew2, ok3 h (i - 1) (by omega), ix3, e3, cond_false]
      · have e2 : decide ((i : Int) > 0) = false := decide_eq_false (by omega)
        simp only [e2, cond_false]
    · have e1 : decide ((i : Int) < (h.length : Int)) = false := decide_eq_false (by omega)
      simp only [e1, cond_false]
theorem j23_eq (fu : Nat) (hfu : 1100 ≤ fu) (k0 : (List S6) → Int → Int → Int → (List Int) → Int → Bool → Bool → Int → Int → Bool → Bool → Bool → Int → (List S3) → S0 → Bool → Int → Int → (List (Int × Bool)) → Option (Bool × Unit)) (k1 : Bool → Option (Bool × Unit)) (v : List S6) (v2 v3 : Int) (s : Int) (p : List Int) (q : Int) (ty th : Bool) (ep hs : Int) (pr pk fl : Bool) (hr : Int) (hd : List S3) (b : S0) (t1 : Bool) (t2 t3 : Int) (dm : List (Int × Bool)) (n : Nat) (hn : n ≤ 1000) (hi : Inv p hs pr hd dm n) :
    law25ClientOnce.j23 fu k0 k1 v v2 v3 s p q ty th ep hs pr pk fl hr hd b t1 t2 t3 dm = k0 v v2 v3 s p q ty th ep hs pr pk fl hr hd b t1 t2 t3 dm := by
  have hl : hd.length ≤ 1000 := Nat.le_trans hi.few hn
  unfold law25ClientOnce.j23 clientClientHanded
  simp only [cloneH_eq fu hd hl, Option.bind_some]
  have hz := fun k7 => l25_eq fu k1 k7 hd hl v v2 v3 s p q ty th ep hs pr pk fl hr hd b t1 t2 t3 dm hi.up (fun x hx => by
    cases hg : mget dm x.1 with
    | false => rfl
    | true => exact ((hi.dr _ hg).1 x hx rfl).elim) fu 0 (Nat.zero_le _) (by omega)
  rw [show ((0 : Nat) : Int) = (0 : Int) from rfl] at hz
  rw [hz]
  have ht := hi.top
  by_cases h0 : 0 < hd.length
  · have e1 : decide ((hd.length : Int) > 0) = true := decide_eq_true (by omega)
    have ew : IntKind.i64.wrap ((hd.length : Int) - 1) = ((hd.length - 1 : Nat) : Int) := by rw [wrap_i64 (by omega) (by omega)]; omega
    have e2 : ((hd.length : Int) == (0 : Int)) = false := beq_eq_false_iff_ne.2 (by omega)
    have hla := hi.last h0
    have ew2 : IntKind.u64.wrap ((hd.getD (hd.length - 1) z3).1 + 1) = hs := by rw [← hla]; exact wrap_u64 (by omega) (by omega)
    simp only [e1, cond_true, clientClientHas, Option.bind_some, ew, ok3 hd (hd.length - 1) (by omega), chk, ix3, ew2, bne_self_eq_false, cond_false, e2]
  · have hnil : hd = [] := List.eq_nil_of_length_eq_zero (by omega)
    have e0 := hi.none hnil
    subst hnil
    subst e0
    rfl
theorem l6_eq (fu : Nat) (hfu : 3000 ≤ fu) (k1 : Bool → Option (Bool × Unit)) (k2 : Unit → Option (Bool × Unit)) (v : List S6) (hv : v.length ≤ 201) (hok : ∀ x ∈ v, x.2.2.1.2.2.2.2.2.1.length ≤ 2000 ∧ 0 ≤ x.2.2.1.2.2.2.1 ∧ By x.2.2.1.2.2.2.2.2.1) :
    ∀ (m i : Nat) (s : Int) (p : List Int) (q : Int) (ty th : Bool) (ep hs : Int) (pr pk fl : Bool) (hr : Int) (hd : List S3) (b : S0) (t1 : Bool) (t2 t3 : Int) (dm : List (Int × Bool)), i ≤ v.length → v.length < m + i → Inv p hs pr hd dm i →
    law25ClientOnce.l6 fu k1 k2 m v (v.length : Int) (i : Int) s p q ty th ep hs pr pk fl hr hd b t1 t2 t3 dm = k2 () := by
  intro m
  induction m with
  | zero => intro i s p q ty th ep hs pr pk fl hr hd b t1 t2 t3 dm h1 h2 hi; omega
  | succ m ih =>
    intro i s p q ty th ep hs pr pk fl hr hd b t1 t2 t3 dm hi hm inv
    unfold law25ClientOnce.l6 law25ClientOnce.b6
    by_cases h1 : i < v.length
    · have e1 : decide ((i : Int) < (v.length : Int)) = true := decide_eq_true (by omega)
      have e2 : ixOk v (i : Int) = true := by simp [ixOk]; omega
      obtain ⟨o, ho⟩ : ∃ o, o = ixL ((0 : Int), (0 : Int), ((0 : Int), (0 : Int), (0 : Int), (0 : Int), (0 : Int), ([] : List Int), ()), false, ()) v (i : Int) := ⟨_, rfl⟩
      have hmem : o ∈ v := by
        rw [ho]; unfold ixL; rw [Int.toNat_natCast, List.getD_eq_getElem?_getD, List.getElem?_eq_getElem h1]; exact List.getElem_mem h1
      obtain ⟨o1, o2, o3⟩ := hok o hmem
      have ew : IntKind.i64.wrap ((i : Int) + 1) = ((i + 1 : Nat) : Int) := by rw [wrap_i64 (by omega) (by omega)]; rfl
      simp only [e1, cond_true, e2, chk, ← ho]
      have go : ∀ (c : O4) (dm' : List (Int × Bool)), Inv c.2.1 (hasC c) (promC c) (hdC c) dm' (i + 1) →
          law25ClientOnce.l6 fu k1 k2 m v (v.length : Int) (IntKind.i64.wrap ((i : Int) + 1)) c.1 c.2.1 c.2.2.1 c.2.2.2.2.1 c.2.2.2.2.2.1 c.2.2.2.2.2.2.1 c.2.2.2.2.2.2.2.1 c.2.2.2.2.2.2.2.2.1 c.2.2.2.2.2.2.2.2.2.1 c.2.2.2.2.2.2.2.2.2.2.1 c.2.2.2.2.2.2.2.2.2.2.2.1 c.2.2.2.2.2.2.2.2.2.2.2.2.1 c.2.2.2.1.1 c.2.2.2.1.2.1 c.2.2.2.1.2.2.1 c.2.2.2.1.2.2.2.1 dm' = k2 () := fun c dm' hc => by
        rw [ew]
        exact ih (i + 1) _ _ _ _ _ _ _ _ _ _ _ _ _ _ _ _ dm' h1 (by omega) hc
      have kept : ∀ c', Kept (Cl s p q b t1 t2 t3 ty th ep hs pr pk fl hr hd) c' → Inv c'.2.1 (hasC c') (promC c') (hdC c') dm (i + 1) := fun c' hk => inv.kept hk.1 hk.2.1 hk.2.2.1 hk.2.2.2
      cases o.1 == (0 : Int) with
      | true =>
        simp only [cond_true]
        obtain ⟨c', hc, hk⟩ := come_ok fu (Cl s p q b t1 t2 t3 ty th ep hs pr pk fl hr hd) o.2.1
        rw [hc]
        simp only [Option.bind_some]
        refine Eq.trans (j23_eq fu (by omega) _ _ _ _ _ _ _ _ _ _ _ _ _ _ _ _ _ _ _ _ _ _ (i + 1) (by omega) (kept c' hk)) ?_
        exact go c' dm (kept c' hk)
      | false =>
        simp only [cond_false]
        cases o.1 == (1 : Int) with
        | true =>
          simp only [cond_true]
          obtain ⟨l, c', hc, hk⟩ := send_ok fu (Cl s p q b t1 t2 t3 ty th ep hs pr pk fl hr hd) o.2.1 (by rw [show (Cl s p q b t1 t2 t3 ty th ep hs pr pk fl hr hd).2.1 = p from rfl, inv.pat]; simp)
          rw [hc]
          simp only [Option.bind_some]
          refine Eq.trans (j23_eq fu (by omega) _ _ _ _ _ _ _ _ _ _ _ _ _ _ _ _ _ _ _ _ _ _ (i + 1) (by omega) (kept c' hk)) ?_
          exact go c' dm (kept c' hk)
        | false =>
          simp only [cond_false]
          cases o.1 == (2 : Int) with
          | true =>
            simp only [cond_true]
            obtain ⟨c', hc, hk⟩ := picky_ok fu (Cl s p q b t1 t2 t3 ty th ep hs pr pk fl hr hd) o.2.2.2.1
            rw [hc]
            simp only [Option.bind_some]
            refine Eq.trans (j23_eq fu (by omega) _ _ _ _ _ _ _ _ _ _ _ _ _ _ _ _ _ _ _ _ _ _ (i + 1) (by omega) (kept c' hk)) ?_
            exact go c' dm (kept c' hk)
          | false =>
            simp only [cond_false, own_eq fu o.2.2.1 o1, Option.bind_some]
            obtain ⟨l, c', hc, hk⟩ := hear_ok fu hfu s p q b t1 t2 t3 ty th ep hs pr pk fl hr hd o.2.2.1.1 o.2.2.1.2.1 o.2.2.1.2.2.1 o.2.2.1.2.2.2.1 o.2.2.1.2.2.2.2.1 o.2.2.1.2.2.2.2.2.1 o.2.1 o2 o3 o1 (Nat.le_trans inv.few (by omega))
            have hc' : clientClientHear fu (Cl s p q b t1 t2 t3 ty th ep hs pr pk fl hr hd) o.2.2.1 o.2.1 = some ((l, ()), (c', ())) := hc
            rw [hc']
            simp only [Option.bind_some]
            obtain ⟨g1, g2⟩ := Inv.heard (c := Cl s p q b t1 t2 t3 ty th ep hs pr pk fl hr hd) inv hk
            refine Eq.trans (l10_eq fu _ _ fu (by omega) v _ _ l _ _ _ _ _ _ _ _ _ _ _ _ _ _ _ _ dm g2) ?_
            refine Eq.trans (j23_eq fu (by omega) _ _ _ _ _ _ _ _ _ _ _ _ _ _ _ _ _ _ _ _ _ _ (i + 1) (by omega) g1) ?_
            exact go c' _ g1
    · have e1 : decide ((i : Int) < (v.length : Int)) = false := decide_eq_false (by omega)
      simp only [e1, cond_false]
/-- THE LAW. -/
theorem lawClientOnce (sub : Int) (b : S0) (ops : List S6) (h : okAll law25ClientOnce.con.ps (sub, b, ops, ())) : law25ClientOnce 6000 sub b ops = some (true, ()) := by
  unfold law25ClientOnce
  obtain ⟨t8, hn⟩ := clientNew_eq 6000 sub b
  rw [hn]
  cases hm : may23 b with
  | false =>
    simp only [Bool.false_eq_true, if_false, Option.bind_some, oc, fixed25o, cond_true, ref23May_eq, hm]
    rfl
  | true =>
    simp only [if_true, Option.bind_some, oc, bne_self_eq_false, cond_false]
    obtain ⟨l, hl, hl1, hl2⟩ := cut_ok 6000 (by omega) ops
    rw [hl]
    simp only [Option.bind_some]
    have hx := l6_eq 6000 (by omega) (fun vq7 => some (vq7, ())) (fun (_ : Unit) => (law25Fixed 6000).bind fun r8 => some (r8.1, ())) l hl1 (fun x hx => by
      obtain ⟨q1, q2⟩ := hl2 x hx
      have := h.2.2.1.2 x q1
      exact ⟨q2, (u64Of this.2.2.1.2.2.2.1).1, byOf this.2.2.1.2.2.2.2.2.1⟩) 6000 0 sub [] t8 false false 0 0 false false false 0 [] b false 0 0 [] (Nat.zero_le _) (by omega)
      ⟨rfl, fun i j _ hj => by simp at hj, fun x hx => by simp at hx, by omega, fun _ => rfl, fun h => by simp at h, Nat.zero_le _, fun N hN => by simp [mget] at hN⟩
    refine Eq.trans hx ?_
    rw [fixed25o]
    rfl

end Go.Shal.Pr
