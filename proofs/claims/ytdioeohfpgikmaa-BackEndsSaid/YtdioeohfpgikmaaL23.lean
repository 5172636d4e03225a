/- The plain law of backoffs' pauses: what the printed functions compute is the document's. No condition but that the arguments fit their types. By an AI agent. -/
import Derived.Test.YtdioeohfpgikmaaGen
set_option linter.unusedVariables false
namespace Go.Shal.Pr
open Go Go.Shal Go.Proofs

theorem wrap_u64 {x : Int} (h0 : 0 ≤ x) (h1 : x < 18446744073709551616) : IntKind.u64.wrap x = x := by
  simp only [IntKind.wrap, IntKind.signed, IntKind.bits]
  simp
  omega
theorem wrap_u32 {x : Int} (h0 : 0 ≤ x) (h1 : x < 4294967296) : IntKind.u32.wrap x = x := by
  simp only [IntKind.wrap, IntKind.signed, IntKind.bits]
  simp
  omega
theorem u32Of {x : Int} (h : inR .u32 x) : 0 ≤ x ∧ x < 4294967296 := by
  simp [inR, IntKind.min, IntKind.max, IntKind.signed, IntKind.bits] at h
  omega

def may23 (b : S0) : Bool := decide (1 ≤ b.1 ∧ b.1 ≤ 65536 ∧ b.1 ≤ b.2.1 ∧ b.2.1 ≤ 1048576 ∧ 1 ≤ b.2.2.1 ∧ b.2.2.1 ≤ 64)
theorem backMay_eq (fu : Nat) (b : S0) : backMay fu b = some (may23 b, ()) := by
  unfold backMay may23
  by_cases h1 : 1 ≤ b.1 <;> by_cases h2 : b.1 ≤ 65536 <;> by_cases h3 : b.1 ≤ b.2.1 <;> by_cases h4 : b.2.1 ≤ 1048576 <;> by_cases h5 : 1 ≤ b.2.2.1 <;> by_cases h6 : b.2.2.1 ≤ 64 <;> simp [h1, h2, h3, h4, h5, h6]
theorem ref23May_eq (fu : Nat) (b : S0) : ref23May fu b = some (may23 b, ()) := by
  unfold ref23May may23
  have e1 : (b.1 > 0) = (1 ≤ b.1) := propext (by omega)
  have e2 : (b.2.2.1 > 0) = (1 ≤ b.2.2.1) := propext (by omega)
  simp only [e1, e2]
  by_cases h1 : 1 ≤ b.1 <;> by_cases h2 : b.1 ≤ 65536 <;> by_cases h3 : b.1 ≤ b.2.1 <;> by_cases h4 : b.2.1 ≤ 1048576 <;> by_cases h5 : 1 ≤ b.2.2.1 <;> by_cases h6 : b.2.2.1 ≤ 64 <;> simp [h1, h2, h3, h4, h5, h6]

/-- A pause. -/
def pause23 (b : S0) (n : Int) : Int := if may23 b = false ∨ n = 0 then 0 else min2 (b.1 * 2 ^ (min (n - 1).toNat 20)) b.2.1
theorem may23Of {b : S0} (h : may23 b = true) : 1 ≤ b.1 ∧ b.1 ≤ 65536 ∧ b.1 ≤ b.2.1 ∧ b.2.1 ≤ 1048576 ∧ 1 ≤ b.2.2.1 ∧ b.2.2.1 ≤ 64 := of_decide_eq_true h

theorem pow20 (m : Nat) : (1 : Int) ≤ 2 ^ (min m 20) ∧ (2 : Int) ^ (min m 20) ≤ 1048576 := by
  have h1 : (2 : Int) ^ (min m 20) ≤ 2 ^ 20 := by exact_mod_cast Nat.pow_le_pow_right (by omega) (Nat.min_le_right m 20)
  have h0 : (0 : Int) < 2 ^ (min m 20) := Int.pow_pos (by omega)
  constructor
  · omega
  · simpa using h1

theorem backPause_eq (fu : Nat) (b : S0) (n : Int) (hn : inR .u32 n) : backPause fu b n = some (pause23 b n, ()) := by
  unfold backPause pause23
  rw [backMay_eq]
  simp only [Option.bind_some]
  cases hm : may23 b with
  | false => simp
  | true =>
    obtain ⟨h1, h2, h3, h4, h5, h6⟩ := may23Of hm
    have hn' := u32Of hn
    by_cases h0 : n = 0
    · simp [h0]
    · have e1 : IntKind.u32.wrap (n - 1) = n - 1 := wrap_u32 (by omega) (by omega)
      have e2 : (0 : Int) ≤ min2 (n - 1) 20 := by unfold min2; split <;> omega
      have e3 : (min2 (n - 1) 20).toNat = min (n - 1).toNat 20 := by unfold min2; split <;> omega
      have e4 : IntKind.u64.wrap b.1 = b.1 := wrap_u64 (by omega) (by omega)
      have e5 : IntKind.u64.wrap b.2.1 = b.2.1 := wrap_u64 (by omega) (by omega)
      have hp := pow20 (n - 1).toNat
      have e6 : sShl .u64 b.1 (min2 (n - 1) 20) = b.1 * 2 ^ (min (n - 1).toNat 20) := by
        unfold sShl
        rw [e3]
        have : min (min (n - 1).toNat 20) IntKind.u64.bits = min (n - 1).toNat 20 := by simp only [IntKind.bits]; omega
        rw [this]
        refine wrap_u64 (Int.mul_nonneg (by omega) (by omega)) ?_
        calc b.1 * 2 ^ (min (n - 1).toNat 20) ≤ 65536 * 1048576 := Int.mul_le_mul h2 hp.2 (by omega) (by omega)
          _ < _ := by decide
      simp only [show (n == (0 : Int)) = false from beq_false_of_ne h0, e1, e4, e5, e6, chk, show decide (min2 (n - 1) 20 < 0) = false from decide_eq_false (by omega), Bool.not_true, Bool.not_false, cond_false, cond_true, h0, or_false, Bool.true_eq_false, if_false]

/-- The reference's rounds. -/
theorem ref_rounds (fu : Nat) (b : S0) (hm : may23 b = true) (n : Int) (hn : inR .u32 n) (k2 : Int → S0 → Option (Int × Unit)) : ∀ (m : Nat) (i : Int), 1 ≤ i → i ≤ n → i - 1 + m ≥ 22 → i ≤ 22 →
    (∀ j : Nat, (j : Int) < i - 1 → b.1 * 2 ^ j < b.2.1) →
    ∃ p, ref23Pause.l5 fu k2 m n (b.1 * 2 ^ (i - 1).toNat) i b = k2 p b ∧ min2 p b.2.1 = min2 (b.1 * 2 ^ (min (n - 1).toNat 20)) b.2.1 := by
  obtain ⟨h1, h2, h3, h4, h5, h6⟩ := may23Of hm
  have hn' := u32Of hn
  have small : ∀ j : Nat, b.1 * 2 ^ j < b.2.1 → j < 20 := fun j hj => by
    rcases Nat.lt_or_ge j 20 with h | h
    · exact h
    · have : (2 : Int) ^ 20 ≤ 2 ^ j := by exact_mod_cast Nat.pow_le_pow_right (by omega) h
      have : (1 : Int) * 2 ^ 20 ≤ b.1 * 2 ^ j := Int.mul_le_mul h1 this (by decide) (by omega)
      omega
  have big : ∀ j : Nat, b.2.1 ≤ b.1 * 2 ^ j → ∀ l, j ≤ l → b.2.1 ≤ b.1 * 2 ^ l := fun j hj l hl => by
    have : (2 : Int) ^ j ≤ 2 ^ l := by exact_mod_cast Nat.pow_le_pow_right (by omega) hl
    have : b.1 * 2 ^ j ≤ b.1 * 2 ^ l := Int.mul_le_mul_of_nonneg_left this (by omega)
    omega
  have m2 : ∀ x : Int, b.2.1 ≤ x → min2 x b.2.1 = b.2.1 := fun x hx => by unfold min2; split <;> omega
  intro m
  induction m with
  | zero => intro i _ _ h _ hlt; exfalso; have := small 21; have := small 20; have := hlt 20 (by omega); have := small 20 this; omega
  | succ m ih =>
    intro i hi1 hin hm' hi22 hlt
    have e5 : IntKind.u64.wrap b.2.1 = b.2.1 := wrap_u64 (by omega) (by omega)
    unfold ref23Pause.l5 ref23Pause.b5
    rw [e5]
    by_cases hlast : i < n
    · by_cases hp : b.1 * 2 ^ (i - 1).toNat < b.2.1
      · have hs := small _ hp
        have e2 : IntKind.u64.wrap (2 * (b.1 * 2 ^ (i - 1).toNat)) = b.1 * 2 ^ (i + 1 - 1).toNat := by
          rw [show (i + 1 - 1).toNat = (i - 1).toNat + 1 by omega, Int.pow_succ]
          rw [wrap_u64 (Int.mul_nonneg (by omega) (Int.mul_nonneg (by omega) (Int.le_of_lt (Int.pow_pos (by omega))))) (by omega)]
          rw [Int.mul_comm 2, Int.mul_assoc]
        have e3 : IntKind.u32.wrap (i + 1) = i + 1 := wrap_u32 (by omega) (by omega)
        simp only [hlast, hp, decide_true, cond_true, e2, e3]
        refine ih (i + 1) (by omega) (by omega) (by omega) (by omega) fun j hj => ?_
        by_cases hjj : (j : Int) < i - 1
        · exact hlt j hjj
        · have : j = (i - 1).toNat := by omega
          rw [this]; exact hp
      · simp only [hlast, hp, decide_true, decide_false, cond_true, cond_false]
        refine ⟨_, rfl, ?_⟩
        have hk : (i - 1).toNat ≤ 20 := by
          rcases Nat.lt_or_ge 20 (i - 1).toNat with h | h
          · have := small 20 (hlt 20 (by omega)); omega
          · exact h
        rw [m2 (b.1 * 2 ^ (i - 1).toNat) (by omega), m2 (b.1 * 2 ^ (min (n - 1).toNat 20)) (big (i - 1).toNat (by omega) _ (by omega))]
    · have : i = n := by omega
      subst this
      simp only [hlast, decide_false, cond_false]
      refine ⟨_, rfl, ?_⟩
      have hk : (i - 1).toNat ≤ 20 := by
        rcases Nat.lt_or_ge 20 (i - 1).toNat with h | h
        · have := small 20 (hlt 20 (by omega)); omega
        · exact h
      rw [Nat.min_eq_left hk]

theorem ref23Pause_eq (fu : Nat) (hfu : 22 ≤ fu) (b : S0) (n : Int) (hn : inR .u32 n) : ref23Pause fu b n = some (pause23 b n, ()) := by
  unfold ref23Pause pause23
  rw [ref23May_eq]
  simp only [Option.bind_some]
  cases hm : may23 b with
  | false => simp
  | true =>
    have hn' := u32Of hn
    obtain ⟨h1, h2, h3, h4, h5, h6⟩ := may23Of hm
    by_cases h0 : n = 0
    · simp [h0]
    · have e4 : IntKind.u64.wrap b.1 = b.1 := wrap_u64 (by omega) (by omega)
      have e5 : IntKind.u64.wrap b.2.1 = b.2.1 := wrap_u64 (by omega) (by omega)
      obtain ⟨p, hp1, hp2⟩ := ref_rounds fu b hm n hn (fun pb c0b => some (min2 pb (IntKind.u64.wrap c0b.2.1), ())) fu 1 (by omega) (by omega) (by omega) (by omega) (fun j hj => by omega)
      simp only [show (1 - 1 : Int).toNat = 0 by rfl, Int.pow_zero, Int.mul_one] at hp1
      simp only [show (n == (0 : Int)) = false from beq_false_of_ne h0, e4, hp1, e5, hp2, Bool.not_true, cond_false, h0, or_false, Bool.true_eq_false, if_false]

/-- The sum of so many pauses. -/
def sum23 (b : S0) : Nat → Int
  | 0 => 0
  | k + 1 => IntKind.u64.wrap (sum23 b k + pause23 b (k + 1 : Nat))
theorem inR_nat {k : Nat} (h : k < 4294967296) : inR .u32 (k : Int) := by
  simp [inR, IntKind.min, IntKind.max, IntKind.signed, IntKind.bits]
  omega
theorem back_rounds (fu : Nat) (b : S0) (t : Nat) (ht : b.2.2.1 = t) (htl : t ≤ 64) (k2 : Int → Option (Int × Unit)) : ∀ (m k : Nat), k ≤ t → t < k + m →
    backAll.l5 fu k2 m (sum23 b k) t k b = k2 (sum23 b t) := by
  intro m
  induction m with
  | zero => intro k h1 h2; omega
  | succ m ih =>
    intro k h1 h2
    unfold backAll.l5 backAll.b5
    by_cases hk : k < t
    · have e3 : IntKind.u32.wrap ((k : Int) + 1) = (k + 1 : Nat) := by rw [wrap_u32 (by omega) (by omega)]; rfl
      have hlt : (k : Int) < t := by omega
      simp only [hlt, decide_true, cond_true, e3, backPause_eq fu b _ (inR_nat (show k + 1 < 4294967296 by omega)), Option.bind_some]
      exact ih (k + 1) (by omega) (by omega)
    · have : k = t := by omega
      subst this
      simp
theorem ref_all_rounds (fu : Nat) (hfu : 22 ≤ fu) (b : S0) (hm : may23 b = true) (t : Nat) (ht : b.2.2.1 = t) (htl : t ≤ 64) (k2 : Int → Option (Int × Unit)) : ∀ (m k : Nat), k ≤ t → t < k + m →
    ref23All.l3 fu k2 m (sum23 b k) (k + 1 : Nat) b = k2 (sum23 b t) := by
  intro m
  induction m with
  | zero => intro k h1 h2; omega
  | succ m ih =>
    intro k h1 h2
    unfold ref23All.l3 ref23All.b3
    rw [ref23May_eq, ht]
    simp only [Option.bind_some, hm, cond_true]
    by_cases hk : k < t
    · have hle : ((k + 1 : Nat) : Int) ≤ t := by omega
      have e3 : IntKind.u32.wrap (((k + 1 : Nat) : Int) + 1) = (k + 1 + 1 : Nat) := by rw [wrap_u32 (by omega) (by omega)]; rfl
      simp only [hle, decide_true, cond_true, ref23Pause_eq fu hfu b _ (inR_nat (show k + 1 < 4294967296 by omega)), Option.bind_some, e3]
      exact ih (k + 1) (by omega) (by omega)
    · have : k = t := by omega
      subst this
      have hle : ¬ ((k + 1 : Nat) : Int) ≤ k := by omega
      simp only [hle, decide_false, cond_false]
def all23 (b : S0) : Int := if may23 b then sum23 b b.2.2.1.toNat else 0
theorem backAll_eq (fu : Nat) (hfu : 70 ≤ fu) (b : S0) : backAll fu b = some (all23 b, ()) := by
  unfold backAll all23
  rw [backMay_eq]
  simp only [Option.bind_some]
  cases hm : may23 b with
  | false => simp
  | true =>
    obtain ⟨h1, h2, h3, h4, h5, h6⟩ := may23Of hm
    obtain ⟨t, ht⟩ : ∃ t : Nat, b.2.2.1 = t := ⟨b.2.2.1.toNat, by omega⟩
    have := back_rounds fu b t ht (by omega) (fun sumb => some (sumb, ())) fu 0 (by omega) (by omega)
    simp only [sum23] at this
    rw [ht]
    simp
    exact this
theorem ref23All_eq (fu : Nat) (hfu : 70 ≤ fu) (b : S0) : ref23All fu b = some (all23 b, ()) := by
  unfold ref23All all23
  cases hm : may23 b with
  | false =>
    obtain ⟨fu, rfl⟩ : ∃ k, fu = k + 1 := ⟨fu - 1, by omega⟩
    unfold ref23All.l3 ref23All.b3
    simp [ref23May_eq, hm]
  | true =>
    obtain ⟨h1, h2, h3, h4, h5, h6⟩ := may23Of hm
    obtain ⟨t, ht⟩ : ∃ t : Nat, b.2.2.1 = t := ⟨b.2.2.1.toNat, by omega⟩
    have := ref_all_rounds fu (by omega) b hm t ht (by omega) (fun sumb => some (sumb, ())) fu 0 (by omega) (by omega)
    simp only [sum23] at this
    rw [ht]
    simp
    exact this

theorem min2_mono {x y z : Int} (h : x ≤ y) : min2 x z ≤ min2 y z := by unfold min2; split <;> split <;> omega
theorem pause_mono (b : S0) (n : Int) (hn : 0 ≤ n) : pause23 b (n + 1) ≥ pause23 b n := by
  unfold pause23
  cases hm : may23 b with
  | false => simp
  | true =>
    obtain ⟨h1, h2, h3, h4, h5, h6⟩ := may23Of hm
    simp only [show ¬ (true = false ∨ n + 1 = 0) by simp; omega, if_false]
    by_cases h0 : n = 0
    · subst h0
      simp
      unfold min2
      have := (pow20 0).1
      split
      · omega
      · omega
    · simp only [show ¬ (true = false ∨ n = 0) by simp; exact h0, if_false]
      refine min2_mono (Int.mul_le_mul_of_nonneg_left ?_ (by omega))
      exact_mod_cast Nat.pow_le_pow_right (by omega) (by omega)

theorem fixed23 (fu : Nat) (hfu : 70 ≤ fu) : law23Fixed fu = some (true, ()) := by
  unfold law23Fixed
  simp only [backPause_eq fu _ 1 (by unfold inR; decide), backPause_eq fu _ 2 (by unfold inR; decide), backPause_eq fu _ 3 (by unfold inR; decide), backPause_eq fu _ 4 (by unfold inR; decide), backAll_eq fu hfu, Option.bind_some]
  rw [show pause23 ((2 : Int), (5 : Int), (4 : Int), ()) 1 = 2 by decide +kernel, show pause23 ((2 : Int), (5 : Int), (4 : Int), ()) 2 = 4 by decide +kernel, show pause23 ((2 : Int), (5 : Int), (4 : Int), ()) 3 = 5 by decide +kernel, show pause23 ((2 : Int), (5 : Int), (4 : Int), ()) 4 = 5 by decide +kernel, show all23 ((2 : Int), (5 : Int), (4 : Int), ()) = 16 by decide +kernel]
  rfl

/-- THE LAW. -/
theorem lawBackPauses (b : S0) (n : Int) (h : okAll law23BackPauses.con.ps (b, n, ())) : law23BackPauses 100 b n = some (true, ()) := by
  have hn : inR .u32 n := h.2.1
  clear h
  have hn' := u32Of hn
  unfold law23BackPauses
  simp only [fixed23 100 (by omega), backMay_eq, ref23May_eq, backPause_eq 100 b n hn, ref23Pause_eq 100 (by omega) b n hn, backAll_eq 100 (by omega), ref23All_eq 100 (by omega), Option.bind_some, beq_self_eq_true, cond_true]
  by_cases h : n = 4294967295
  · simp [h]
  · have e : IntKind.u32.wrap (n + 1) = n + 1 := wrap_u32 (by omega) (by omega)
    have hn1 : inR .u32 (n + 1) := by
      have := inR_wrap .u32 (n + 1)
      rwa [e] at this
    have hmono : decide (pause23 b (n + 1) ≥ pause23 b n) = true := decide_eq_true (pause_mono b n (by omega))
    simp only [show (n == (4294967295 : Int)) = false from beq_false_of_ne h, cond_false, e, backPause_eq 100 b (n + 1) hn1, Option.bind_some, hmono]

/-- THE LAW. -/
theorem lawBackNil (now : Int) (_ : okAll law23BackNil.con.ps (now, ())) : law23BackNil 100 now = some (true, ()) := by
  unfold law23BackNil
  simp only [fixed23 100 (by omega)]
  rfl

theorem over_eq (fu : Nat) (t : O1) : backTriesOver fu t = some ((decide (t.2.2.1 ≥ t.1.2.2.1), ()), (t, ())) := rfl
def due23 (t : O1) (now : Int) : Bool := decide (t.2.1 = true ∧ t.2.2.1 < t.1.2.2.1 ∧ t.2.2.2.1 ≤ now)
theorem due_eq (fu : Nat) (t : O1) (now : Int) : backTriesDue fu t now = some ((due23 t now, ()), (t, ())) := by
  unfold backTriesDue due23
  obtain ⟨b, p, c, nx, u⟩ := t
  simp only [over_eq, Option.bind_some]
  cases p with
  | false => simp
  | true =>
    have e : (c < b.2.2.1) = ¬ (b.2.2.1 ≤ c) := propext (by omega)
    by_cases h1 : b.2.2.1 ≤ c <;> by_cases h2 : nx ≤ now <;> simp [h1, h2, e]
theorem refDue_eq (fu : Nat) (t : S2) (now : Int) : ref23TriesDue fu t now = some (due23 t now, ()) := by
  unfold ref23TriesDue due23
  obtain ⟨b, p, c, nx, u⟩ := t
  cases p with
  | false => simp
  | true =>
    have e : (c < b.2.2.1) = ¬ (b.2.2.1 ≤ c) := propext (by omega)
    by_cases h1 : b.2.2.1 ≤ c <;> by_cases h2 : nx ≤ now <;> simp [h1, h2, e]
/-- A try. -/
def try23 (t : O1) (now : Int) : Bool × O1 :=
  if due23 t now then (true, (t.1, t.2.1, IntKind.u32.wrap (t.2.2.1 + 1), IntKind.u64.wrap (now + pause23 t.1 (IntKind.u32.wrap (t.2.2.1 + 1))), ())) else (false, t)
theorem try_eq (fu : Nat) (t : O1) (now : Int) : backTriesTry fu t now = some (((try23 t now).1, ()), ((try23 t now).2, ())) := by
  unfold backTriesTry try23
  simp only [due_eq, Option.bind_some, backPause_eq fu _ _ (inR_wrap .u32 _)]
  cases due23 t now <;> simp
theorem refTry_eq (fu : Nat) (hfu : 22 ≤ fu) (t : S2) (now : Int) : ref23TriesTry fu t now = some ((try23 t now).1, (try23 t now).2, ()) := by
  unfold ref23TriesTry try23
  simp only [refDue_eq, Option.bind_some, ref23Pause_eq fu hfu _ _ (inR_wrap .u32 _)]
  cases due23 t now <;> simp

theorem j20_eq (fu : Nat) k0 k1 (v : List S3) (x2 x3 : Int) (b : S0) (c : Bool) (cx2 cx3 : Int) (e : S3) (h : cx2 ≤ b.2.2.1) :
    law23BackPlays.j20 fu k0 k1 v x2 x3 b b c cx2 cx3 (b, c, cx2, cx3, ()) e = k0 v x2 x3 b b c cx2 cx3 (b, c, cx2, cx3, ()) := by
  unfold law23BackPlays.j20
  have e1 : decide (cx2 ≥ b.2.2.1) = (cx2 == b.2.2.1) := by
    by_cases h2 : cx2 = b.2.2.1
    · simp [h2]
    · rw [beq_false_of_ne h2]; exact decide_eq_false (by omega)
  simp [due_eq, refDue_eq, over_eq, backTriesCount, backTriesNext, e1]
theorem plays_rounds (fu : Nat) (hfu : 22 ≤ fu) (k1 : Bool → Option (Bool × Unit)) (k2 : Unit → Option (Bool × Unit)) (v : List S3) (b : S0) (hm : may23 b = true) : ∀ (m : Nat) (i : Int) (c : Bool) (cx2 cx3 : Int),
    0 ≤ i → i ≤ 301 → 302 ≤ i + m → 0 ≤ cx2 → cx2 ≤ b.2.2.1 →
    law23BackPlays.l8 fu k1 k2 m v v.length i b b c cx2 cx3 (b, c, cx2, cx3, ()) = k2 () := by
  obtain ⟨h1, h2, h3, h4, h5, h6⟩ := may23Of hm
  intro m
  induction m with
  | zero => intro i c cx2 cx3 hi0 hi hm; omega
  | succ m ih =>
    intro i c cx2 cx3 hi0 hi hmi hc0 hc
    unfold law23BackPlays.l8 law23BackPlays.b8
    by_cases hl : i < v.length
    · have hix : ixOk v i = true := by simp [ixOk, hi0, hl]
      simp only [hl, decide_true, cond_true, hix, chk]
      by_cases h300 : i > 300
      · simp [h300]
      · have ew : IntKind.i64.wrap (i + 1) = i + 1 := by
          simp only [IntKind.wrap, IntKind.signed, IntKind.bits]
          simp
          omega
        simp only [h300, decide_false, cond_false]
        cases hk0 : ((ixL ((0 : Int), (0 : Int), ()) v i).1 == (0 : Int)) with
        | true =>
          simp only [cond_true, backTriesBegin, Option.bind_some]
          rw [j20_eq fu _ _ v _ _ b true 0 _ _ (by omega)]
          rw [ew]
          exact ih (i + 1) true 0 _ (by omega) (by omega) (by omega) (by omega) (by omega)
        | false =>
          simp only [cond_false]
          cases hk1 : ((ixL ((0 : Int), (0 : Int), ()) v i).1 == (1 : Int)) with
          | true =>
            simp only [cond_true, refTry_eq fu hfu, try_eq, Option.bind_some, beq_self_eq_true, Bool.not_true, cond_false]
            unfold try23
            cases hd : due23 (b, c, cx2, cx3, ()) (ixL ((0 : Int), (0 : Int), ()) v i).2.1 with
            | false =>
              simp only [Bool.false_eq_true, if_false]
              rw [j20_eq fu _ _ v _ _ b c cx2 cx3 _ hc]
              rw [ew]
              exact ih (i + 1) c cx2 cx3 (by omega) (by omega) (by omega) hc0 hc
            | true =>
              have hd' := of_decide_eq_true hd
              have hlt : cx2 < b.2.2.1 := hd'.2.1
              have e2 : IntKind.u32.wrap (cx2 + 1) = cx2 + 1 := wrap_u32 (by omega) (by omega)
              simp only [if_true, e2]
              rw [j20_eq fu _ _ v _ _ b c (cx2 + 1) _ _ (by omega)]
              rw [ew]
              exact ih (i + 1) c (cx2 + 1) _ (by omega) (by omega) (by omega) (by omega) (by omega)
          | false =>
            simp only [cond_false]
            rw [j20_eq fu _ _ v _ _ b c cx2 cx3 _ hc]
            rw [ew]
            exact ih (i + 1) c cx2 cx3 (by omega) (by omega) (by omega) hc0 hc
    · simp [hl]
theorem new_eq (fu : Nat) (b : S0) : backNew fu b = if may23 b then some ((some (b, false, (0 : Int), (0 : Int), ()), (0 : Int), ()), (())) else some ((none, (1 : Int), ()), (())) := by
  unfold backNew
  rw [backMay_eq]
  cases may23 b <;> simp

/-- THE LAW. -/
theorem lawBackPlays (b : S0) (ops : List S3) (_ : okAll law23BackPlays.con.ps (b, ops, ())) : law23BackPlays 400 b ops = some (true, ()) := by
  unfold law23BackPlays
  rw [new_eq, fixed23 400 (by omega), ref23May_eq]
  cases hm : may23 b with
  | false => simp [oc]
  | true =>
    have := plays_rounds 400 (by omega) (fun vq7 => some (vq7, ())) (fun (_ : Unit) => some (true, ())) ops b hm 400 0 false 0 0 (by omega) (by omega) (by omega) (by omega) (by have := may23Of hm; omega)
    simpa [oc] using this

/-- Where so many tries of a run have led. -/
theorem ends_rounds (fu : Nat) (k1 : Bool → Option (Bool × Unit)) (k2 : Int → Int → S0 → S0 → Bool → Int → Int → Option (Bool × Unit)) (b : S0) (hm : may23 b = true) (begin : Int) (hb0 : 0 ≤ begin) (hb1 : begin < 4294967296) (t : Nat) (ht : b.2.2.1 = t) : ∀ (m k : Nat) (nx : Int),
    k ≤ t → t < k + m → nx = begin + sum23 b k → 0 ≤ sum23 b k → sum23 b k ≤ k * 1048576 →
    law23BackEnds.l10 fu k1 k2 m begin nx t k b b true k nx = k2 begin (begin + sum23 b t) b b true t (begin + sum23 b t) := by
  obtain ⟨h1, h2, h3, h4, h5, h6⟩ := may23Of hm
  intro m
  induction m with
  | zero => intro k nx h1 h2; omega
  | succ m ih =>
    intro k nx hk hkm hnx hs0 hs1
    unfold law23BackEnds.l10 law23BackEnds.b10
    by_cases hlt : k < t
    · have e1 : decide ((k : Int) < t) = true := decide_eq_true (by omega)
      have e2 : decide ((k : Int) ≥ b.2.2.1) = false := decide_eq_false (by omega)
      have e3 : IntKind.u32.wrap ((k : Int) + 1) = (k + 1 : Nat) := by rw [wrap_u32 (by omega) (by omega)]; rfl
      have d1 : due23 (b, true, (k : Int), nx, ()) nx = true := decide_eq_true ⟨rfl, by show (k : Int) < b.2.2.1; omega, Int.le_refl _⟩
      have hp0 : 1 ≤ pause23 b (k + 1 : Nat) ∧ pause23 b (k + 1 : Nat) ≤ 1048576 := by
        unfold pause23
        rw [if_neg (by simp [hm]; omega)]
        have hq := pow20 (((k + 1 : Nat) : Int) - 1).toNat
        unfold min2
        have : b.1 * 1 ≤ b.1 * 2 ^ min (((k + 1 : Nat) : Int) - 1).toNat 20 := Int.mul_le_mul_of_nonneg_left hq.1 (by omega)
        split <;> omega
      have e4 : IntKind.u64.wrap (nx + pause23 b (k + 1 : Nat)) = nx + pause23 b (k + 1 : Nat) := wrap_u64 (by omega) (by omega)
      have e5 : sum23 b (k + 1) = sum23 b k + pause23 b (k + 1 : Nat) := by
        rw [sum23, wrap_u64 (by omega) (by omega)]
      have t1 : try23 (b, true, (k : Int), nx, ()) nx = (true, (b, true, ((k + 1 : Nat) : Int), nx + pause23 b (k + 1 : Nat), ())) := by
        unfold try23
        rw [if_pos d1]
        simp only [e3, e4]
      have d2 : due23 (b, true, ((k + 1 : Nat) : Int), nx + pause23 b (k + 1 : Nat), ()) nx = false := decide_eq_false (by rintro ⟨_, _, h⟩; have h' : nx + pause23 b (k + 1 : Nat) ≤ nx := h; omega)
      have t2 : try23 (b, true, ((k + 1 : Nat) : Int), nx + pause23 b (k + 1 : Nat), ()) nx = (false, (b, true, ((k + 1 : Nat) : Int), nx + pause23 b (k + 1 : Nat), ())) := by
        unfold try23
        rw [if_neg (by rw [d2]; decide)]
      have hn := ih (k + 1) (nx + pause23 b (k + 1 : Nat)) (by omega) (by omega) (by omega) (by omega) (by omega)
      simp only [e1, cond_true, over_eq, e2, Option.bind_some, cond_false, due_eq, d1, Bool.not_true, try_eq, t1, t2, backTriesNext, e3]
      by_cases hnow : nx > begin
      · have e6 : IntKind.u64.wrap (nx - 1) = nx - 1 := wrap_u64 (by omega) (by omega)
        have d3 : due23 (b, true, (k : Int), nx, ()) (nx - 1) = false := decide_eq_false (by rintro ⟨_, _, h⟩; simp at h; omega)
        simp only [hnow, decide_true, cond_true, e6, d3, cond_false]
        exact hn
      · simp only [hnow, decide_false, cond_false]
        exact hn
    · have : k = t := by omega
      subst this
      simp [hnx]

/-- THE LAW. -/
theorem lawBackEnds (b : S0) (at' : Int) (h : okAll law23BackEnds.con.ps (b, at', ())) : law23BackEnds 100 b at' = some (true, ()) := by
  have ha : 0 ≤ at' ∧ at' < 4294967296 := u32Of h.2.1
  unfold law23BackEnds
  rw [new_eq, fixed23 100 (by omega), ref23May_eq]
  cases hm : may23 b with
  | false => simp [oc]
  | true =>
    obtain ⟨h1, h2, h3, h4, h5, h6⟩ := may23Of hm
    obtain ⟨t, ht⟩ : ∃ t : Nat, b.2.2.1 = t := ⟨b.2.2.1.toNat, by omega⟩
    have e1 : IntKind.u64.wrap at' = at' := wrap_u64 (by omega) (by omega)
    have t0 : try23 (b, false, (0 : Int), (0 : Int), ()) at' = (false, (b, false, (0 : Int), (0 : Int), ())) := by
      unfold try23
      rw [if_neg]
      simp [due23]
    have sb : ∀ k : Nat, k ≤ t → 0 ≤ sum23 b k ∧ sum23 b k ≤ k * 1048576 := by
      intro k
      induction k with
      | zero => intro _; simp [sum23]
      | succ k ih =>
        intro hk
        have ⟨i1, i2⟩ := ih (by omega)
        have hp0 : 0 ≤ pause23 b (k + 1 : Nat) ∧ pause23 b (k + 1 : Nat) ≤ 1048576 := by
          unfold pause23
          rw [if_neg (by simp [hm]; omega)]
          have hq := pow20 (((k + 1 : Nat) : Int) - 1).toNat
          unfold min2
          have : b.1 * 1 ≤ b.1 * 2 ^ min (((k + 1 : Nat) : Int) - 1).toNat 20 := Int.mul_le_mul_of_nonneg_left hq.1 (by omega)
          split <;> omega
        have e5 : sum23 b (k + 1) = sum23 b k + pause23 b (k + 1 : Nat) := by
          rw [sum23, wrap_u64 (by omega) (by omega)]
        rw [e5]
        omega
    have s := sb t (Nat.le_refl t)
    have d2 : due23 (b, true, (t : Int), at' + sum23 b t, ()) (at' + sum23 b t) = false := decide_eq_false (by rintro ⟨_, h, _⟩; simp at h; omega)
    have t2 : try23 (b, true, (t : Int), at' + sum23 b t, ()) (at' + sum23 b t) = (false, (b, true, (t : Int), at' + sum23 b t, ())) := by
      unfold try23
      rw [if_neg (by rw [d2]; decide)]
    have ea : all23 b = sum23 b t := by unfold all23; rw [if_pos hm, ht]; rfl
    have e3 : IntKind.u64.wrap (at' + sum23 b t) = at' + sum23 b t := wrap_u64 (by omega) (by omega)
    simp only [oc, if_true, Option.bind_some, e1, try_eq, t0, cond_false, backTriesBegin, ht, show ((0 : Int) != 0) = false from rfl]
    rw [show (0 : Int) = ((0 : Nat) : Int) from rfl, ends_rounds 100 _ _ b hm at' ha.1 ha.2 t ht 100 0 at' (by omega) (by omega) (by simp [sum23]) (by simp [sum23]) (by simp [sum23])]
    simp [over_eq, ht, t2, backAll_eq, ea, e3, backTriesCount]
end Go.Shal.Pr
