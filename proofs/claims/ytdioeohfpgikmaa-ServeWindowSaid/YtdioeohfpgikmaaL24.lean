/- The plain laws of sessions: what the printed functions compute is the document's. No condition but that the arguments fit their types. By an AI agent. -/
import Derived.Test.YtdioeohfpgikmaaGen24
set_option linter.unusedVariables false
namespace Go.Shal.Pr
open Go Go.Shal Go.Proofs
theorem wrap_u64 {x : Int} (h0 : 0 ≤ x) (h1 : x < 18446744073709551616) : IntKind.u64.wrap x = x := by
  simp only [IntKind.wrap, IntKind.signed, IntKind.bits]
  simp
  omega
theorem wrap_u32 {x : Int} (h0 : 0 ≤ x) (h1 : x < 4294967296) : IntKind.u32.wrap x = x := by
  simp only [IntKind.wrap, IntKind.signed, IntKind.bits]
  simp
  omega
theorem u32Of {x : Int} (h : inR .u32 x) : 0 ≤ x ∧ x < 4294967296 := by
  simp [inR, IntKind.min, IntKind.max, IntKind.signed, IntKind.bits] at h
  omega
def may23 (b : S0) : Bool := decide (1 ≤ b.1 ∧ b.1 ≤ 65536 ∧ b.1 ≤ b.2.1 ∧ b.2.1 ≤ 1048576 ∧ 1 ≤ b.2.2.1 ∧ b.2.2.1 ≤ 64)
theorem backMay_eq (fu : Nat) (b : S0) : backMay fu b = some (may23 b, ()) := by
  unfold backMay may23
  by_cases h1 : 1 ≤ b.1 <;> by_cases h2 : b.1 ≤ 65536 <;> by_cases h3 : b.1 ≤ b.2.1 <;> by_cases h4 : b.2.1 ≤ 1048576 <;> by_cases h5 : 1 ≤ b.2.2.1 <;> by_cases h6 : b.2.2.1 ≤ 64 <;> simp [h1, h2, h3, h4, h5, h6]
theorem ref23May_eq (fu : Nat) (b : S0) : ref23May fu b = some (may23 b, ()) := by
  unfold ref23May may23
  have e1 : (b.1 > 0) = (1 ≤ b.1) := propext (by omega)
  have e2 : (b.2.2.1 > 0) = (1 ≤ b.2.2.1) := propext (by omega)
  simp only [e1, e2]
  by_cases h1 : 1 ≤ b.1 <;> by_cases h2 : b.1 ≤ 65536 <;> by_cases h3 : b.1 ≤ b.2.1 <;> by_cases h4 : b.2.1 ≤ 1048576 <;> by_cases h5 : 1 ≤ b.2.2.1 <;> by_cases h6 : b.2.2.1 ≤ 64 <;> simp [h1, h2, h3, h4, h5, h6]
def pause23 (b : S0) (n : Int) : Int := if may23 b = false ∨ n = 0 then 0 else min2 (b.1 * 2 ^ (min (n - 1).toNat 20)) b.2.1
theorem may23Of {b : S0} (h : may23 b = true) : 1 ≤ b.1 ∧ b.1 ≤ 65536 ∧ b.1 ≤ b.2.1 ∧ b.2.1 ≤ 1048576 ∧ 1 ≤ b.2.2.1 ∧ b.2.2.1 ≤ 64 := of_decide_eq_true h
theorem pow20 (m : Nat) : (1 : Int) ≤ 2 ^ (min m 20) ∧ (2 : Int) ^ (min m 20) ≤ 1048576 := by
  have h1 : (2 : Int) ^ (min m 20) ≤ 2 ^ 20 := by exact_mod_cast Nat.pow_le_pow_right (by omega) (Nat.min_le_right m 20)
  have h0 : (0 : Int) < 2 ^ (min m 20) := Int.pow_pos (by omega)
  constructor
  · omega
  · simpa using h1
theorem backPause_eq (fu : Nat) (b : S0) (n : Int) (hn : inR .u32 n) : backPause fu b n = some (pause23 b n, ()) := by
  unfold backPause pause23
  rw [backMay_eq]
  simp only [Option.bind_some]
  cases hm : may23 b with
  | false => simp
  | true =>
    obtain ⟨h1, h2, h3, h4, h5, h6⟩ := may23Of hm
    have hn' := u32Of hn
    by_cases h0 : n = 0
    · simp [h0]
    · have e1 : IntKind.u32.wrap (n - 1) = n - 1 := wrap_u32 (by omega) (by omega)
      have e2 : (0 : Int) ≤ min2 (n - 1) 20 := by unfold min2; split <;> omega
      have e3 : (min2 (n - 1) 20).toNat = min (n - 1).toNat 20 := by unfold min2; split <;> omega
      have e4 : IntKind.u64.wrap b.1 = b.1 := wrap_u64 (by omega) (by omega)
      have e5 : IntKind.u64.wrap b.2.1 = b.2.1 := wrap_u64 (by omega) (by omega)
      have hp := pow20 (n - 1).toNat
      have e6 : sShl .u64 b.1 (min2 (n - 1) 20) = b.1 * 2 ^ (min (n - 1).toNat 20) := by
        unfold sShl
        rw [e3]
        have : min (min (n - 1).toNat 20) IntKind.u64.bits = min (n - 1).toNat 20 := by simp only [IntKind.bits]; omega
        rw [this]
        refine wrap_u64 (Int.mul_nonneg (by omega) (by omega)) ?_
        calc b.1 * 2 ^ (min (n - 1).toNat 20) ≤ 65536 * 1048576 := Int.mul_le_mul h2 hp.2 (by omega) (by omega)
          _ < _ := by decide
      simp only [show (n == (0 : Int)) = false from beq_false_of_ne h0, e1, e4, e5, e6, chk, show decide (min2 (n - 1) 20 < 0) = false from decide_eq_false (by omega), Bool.not_true, Bool.not_false, cond_false, cond_true, h0, or_false, Bool.true_eq_false, if_false]
theorem ref_rounds (fu : Nat) (b : S0) (hm : may23 b = true) (n : Int) (hn : inR .u32 n) (k2 : Int → S0 → Option (Int × Unit)) : ∀ (m : Nat) (i : Int), 1 ≤ i → i ≤ n → i - 1 + m ≥ 22 → i ≤ 22 →
    (∀ j : Nat, (j : Int) < i - 1 → b.1 * 2 ^ j < b.2.1) →
    ∃ p, ref23Pause.l5 fu k2 m n (b.1 * 2 ^ (i - 1).toNat) i b = k2 p b ∧ min2 p b.2.1 = min2 (b.1 * 2 ^ (min (n - 1).toNat 20)) b.2.1 := by
  obtain ⟨h1, h2, h3, h4, h5, h6⟩ := may23Of hm
  have hn' := u32Of hn
  have small : ∀ j : Nat, b.1 * 2 ^ j < b.2.1 → j < 20 := fun j hj => by
    rcases Nat.lt_or_ge j 20 with h | h
    · exact h
    · have : (2 : Int) ^ 20 ≤ 2 ^ j := by exact_mod_cast Nat.pow_le_pow_right (by omega) h
      have : (1 : Int) * 2 ^ 20 ≤ b.1 * 2 ^ j := Int.mul_le_mul h1 this (by decide) (by omega)
      omega
  have big : ∀ j : Nat, b.2.1 ≤ b.1 * 2 ^ j → ∀ l, j ≤ l → b.2.1 ≤ b.1 * 2 ^ l := fun j hj l hl => by
    have : (2 : Int) ^ j ≤ 2 ^ l := by exact_mod_cast Nat.pow_le_pow_right (by omega) hl
    have : b.1 * 2 ^ j ≤ b.1 * 2 ^ l := Int.mul_le_mul_of_nonneg_left this (by omega)
    omega
  have m2 : ∀ x : Int, b.2.1 ≤ x → min2 x b.2.1 = b.2.1 := fun x hx => by unfold min2; split <;> omega
  intro m
  induction m with
  | zero => intro i _ _ h _ hlt; exfalso; have := small 21; have := small 20; have := hlt 20 (by omega); have := small 20 this; omega
  | succ m ih =>
    intro i hi1 hin hm' hi22 hlt
    have e5 : IntKind.u64.wrap b.2.1 = b.2.1 := wrap_u64 (by omega) (by omega)
    unfold ref23Pause.l5 ref23Pause.b5
    rw [e5]
    by_cases hlast : i < n
    · by_cases hp : b.1 * 2 ^ (i - 1).toNat < b.2.1
      · have hs := small _ hp
        have e2 : IntKind.u64.wrap (2 * (b.1 * 2 ^ (i - 1).toNat)) = b.1 * 2 ^ (i + 1 - 1).toNat := by
          rw [show (i + 1 - 1).toNat = (i - 1).toNat + 1 by omega, Int.pow_succ]
          rw [wrap_u64 (Int.mul_nonneg (by omega) (Int.mul_nonneg (by omega) (Int.le_of_lt (Int.pow_pos (by omega))))) (by omega)]
          rw [Int.mul_comm 2, Int.mul_assoc]
        have e3 : IntKind.u32.wrap (i + 1) = i + 1 := wrap_u32 (by omega) (by omega)
        simp only [hlast, hp, decide_true, cond_true, e2, e3]
        refine ih (i + 1) (by omega) (by omega) (by omega) (by omega) fun j hj => ?_
        by_cases hjj : (j : Int) < i - 1
        · exact hlt j hjj
        · have : j = (i - 1).toNat := by omega
          rw [this]; exact hp
      · simp only [hlast, hp, decide_true, decide_false, cond_true, cond_false]
        refine ⟨_, rfl, ?_⟩
        have hk : (i - 1).toNat ≤ 20 := by
          rcases Nat.lt_or_ge 20 (i - 1).toNat with h | h
          · have := small 20 (hlt 20 (by omega)); omega
          · exact h
        rw [m2 (b.1 * 2 ^ (i - 1).toNat) (by omega), m2 (b.1 * 2 ^ (min (n - 1).toNat 20)) (big (i - 1).toNat (by omega) _ (by omega))]
    · have : i = n := by omega
      subst this
      simp only [hlast, decide_false, cond_false]
      refine ⟨_, rfl, ?_⟩
      have hk : (i - 1).toNat ≤ 20 := by
        rcases Nat.lt_or_ge 20 (i - 1).toNat with h | h
        · have := small 20 (hlt 20 (by omega)); omega
        · exact h
      rw [Nat.min_eq_left hk]
theorem ref23Pause_eq (fu : Nat) (hfu : 22 ≤ fu) (b : S0) (n : Int) (hn : inR .u32 n) : ref23Pause fu b n = some (pause23 b n, ()) := by
  unfold ref23Pause pause23
  rw [ref23May_eq]
  simp only [Option.bind_some]
  cases hm : may23 b with
  | false => simp
  | true =>
    have hn' := u32Of hn
    obtain ⟨h1, h2, h3, h4, h5, h6⟩ := may23Of hm
    by_cases h0 : n = 0
    · simp [h0]
    · have e4 : IntKind.u64.wrap b.1 = b.1 := wrap_u64 (by omega) (by omega)
      have e5 : IntKind.u64.wrap b.2.1 = b.2.1 := wrap_u64 (by omega) (by omega)
      obtain ⟨p, hp1, hp2⟩ := ref_rounds fu b hm n hn (fun pb c0b => some (min2 pb (IntKind.u64.wrap c0b.2.1), ())) fu 1 (by omega) (by omega) (by omega) (by omega) (fun j hj => by omega)
      simp only [show (1 - 1 : Int).toNat = 0 by rfl, Int.pow_zero, Int.mul_one] at hp1
      simp only [show (n == (0 : Int)) = false from beq_false_of_ne h0, e4, hp1, e5, hp2, Bool.not_true, cond_false, h0, or_false, Bool.true_eq_false, if_false]
def sum23 (b : S0) : Nat → Int
  | 0 => 0
  | k + 1 => IntKind.u64.wrap (sum23 b k + pause23 b (k + 1 : Nat))
theorem inR_nat {k : Nat} (h : k < 4294967296) : inR .u32 (k : Int) := by
  simp [inR, IntKind.min, IntKind.max, IntKind.signed, IntKind.bits]
  omega
theorem ref_all_rounds (fu : Nat) (hfu : 22 ≤ fu) (b : S0) (hm : may23 b = true) (t : Nat) (ht : b.2.2.1 = t) (htl : t ≤ 64) (k2 : Int → Option (Int × Unit)) : ∀ (m k : Nat), k ≤ t → t < k + m →
    ref23All.l3 fu k2 m (sum23 b k) (k + 1 : Nat) b = k2 (sum23 b t) := by
  intro m
  induction m with
  | zero => intro k h1 h2; omega
  | succ m ih =>
    intro k h1 h2
    unfold ref23All.l3 ref23All.b3
    rw [ref23May_eq, ht]
    simp only [Option.bind_some, hm, cond_true]
    by_cases hk : k < t
    · have hle : ((k + 1 : Nat) : Int) ≤ t := by omega
      have e3 : IntKind.u32.wrap (((k + 1 : Nat) : Int) + 1) = (k + 1 + 1 : Nat) := by rw [wrap_u32 (by omega) (by omega)]; rfl
      simp only [hle, decide_true, cond_true, ref23Pause_eq fu hfu b _ (inR_nat (show k + 1 < 4294967296 by omega)), Option.bind_some, e3]
      exact ih (k + 1) (by omega) (by omega)
    · have : k = t := by omega
      subst this
      have hle : ¬ ((k + 1 : Nat) : Int) ≤ k := by omega
      simp only [hle, decide_false, cond_false]
def all23 (b : S0) : Int := if may23 b then sum23 b b.2.2.1.toNat else 0
theorem ref23All_eq (fu : Nat) (hfu : 70 ≤ fu) (b : S0) : ref23All fu b = some (all23 b, ()) := by
  unfold ref23All all23
  cases hm : may23 b with
  | false =>
    obtain ⟨fu, rfl⟩ : ∃ k, fu = k + 1 := ⟨fu - 1, by omega⟩
    unfold ref23All.l3 ref23All.b3
    simp [ref23May_eq, hm]
  | true =>
    obtain ⟨h1, h2, h3, h4, h5, h6⟩ := may23Of hm
    obtain ⟨t, ht⟩ : ∃ t : Nat, b.2.2.1 = t := ⟨b.2.2.1.toNat, by omega⟩
    have := ref_all_rounds fu (by omega) b hm t ht (by omega) (fun sumb => some (sumb, ())) fu 0 (by omega) (by omega)
    simp only [sum23] at this
    rw [ht]
    simp
    exact this
theorem over_eq (fu : Nat) (t : O1) : backTriesOver fu t = some ((decide (t.2.2.1 ≥ t.1.2.2.1), ()), (t, ())) := rfl
def due23 (t : O1) (now : Int) : Bool := decide (t.2.1 = true ∧ t.2.2.1 < t.1.2.2.1 ∧ t.2.2.2.1 ≤ now)
theorem due_eq (fu : Nat) (t : O1) (now : Int) : backTriesDue fu t now = some ((due23 t now, ()), (t, ())) := by
  unfold backTriesDue due23
  obtain ⟨b, p, c, nx, u⟩ := t
  simp only [over_eq, Option.bind_some]
  cases p with
  | false => simp
  | true =>
    have e : (c < b.2.2.1) = ¬ (b.2.2.1 ≤ c) := propext (by omega)
    by_cases h1 : b.2.2.1 ≤ c <;> by_cases h2 : nx ≤ now <;> simp [h1, h2, e]
theorem refDue_eq (fu : Nat) (t : S5) (now : Int) : ref23TriesDue fu t now = some (due23 t now, ()) := by
  unfold ref23TriesDue due23
  obtain ⟨b, p, c, nx, u⟩ := t
  cases p with
  | false => simp
  | true =>
    have e : (c < b.2.2.1) = ¬ (b.2.2.1 ≤ c) := propext (by omega)
    by_cases h1 : b.2.2.1 ≤ c <;> by_cases h2 : nx ≤ now <;> simp [h1, h2, e]
def try23 (t : O1) (now : Int) : Bool × O1 :=
  if due23 t now then (true, (t.1, t.2.1, IntKind.u32.wrap (t.2.2.1 + 1), IntKind.u64.wrap (now + pause23 t.1 (IntKind.u32.wrap (t.2.2.1 + 1))), ())) else (false, t)
theorem try_eq (fu : Nat) (t : O1) (now : Int) : backTriesTry fu t now = some (((try23 t now).1, ()), ((try23 t now).2, ())) := by
  unfold backTriesTry try23
  simp only [due_eq, Option.bind_some, backPause_eq fu _ _ (inR_wrap .u32 _)]
  cases due23 t now <;> simp
theorem refTry_eq (fu : Nat) (hfu : 22 ≤ fu) (t : S5) (now : Int) : ref23TriesTry fu t now = some ((try23 t now).1, (try23 t now).2, ()) := by
  unfold ref23TriesTry try23
  simp only [refDue_eq, Option.bind_some, ref23Pause_eq fu hfu _ _ (inR_wrap .u32 _)]
  cases due23 t now <;> simp
theorem new_eq (fu : Nat) (b : S0) : backNew fu b = if may23 b then some ((some (b, false, (0 : Int), (0 : Int), ()), (0 : Int), ()), (())) else some ((none, (1 : Int), ()), (())) := by
  unfold backNew
  rw [backMay_eq]
  cases may23 b <;> simp
theorem min2_eq (x y : Int) : min2 x y = min x y := by unfold min2; split <;> omega
theorem max2_eq (x y : Int) : max2 x y = max x y := by unfold max2; split <;> omega

/-- A session. -/
structure Se where
  b : S0
  w : Int
  p : Bool
  k : Int
  x : Int
  o : Bool
  ep : Int
  cur : Int
  en : Int
  ma : Int
  dr : Bool
  sa : Int
def Se.t (s : Se) : S6 := (s.b, s.w, (s.b, s.p, s.k, s.x, ()), s.o, s.ep, s.cur, s.en, s.ma, s.dr, s.sa, ())
structure Se.Ok (s : Se) : Prop where
  may : may23 s.b = true
  w : 1 ≤ s.w ∧ s.w ≤ 64
  k : 0 ≤ s.k ∧ s.k ≤ s.b.2.2.1
  c : 0 ≤ s.cur ∧ s.cur ≤ s.ma ∧ s.ma ≤ s.en ∧ s.en ≤ 1099511627776

theorem isOpen_eq (fu : Nat) (s : Se) : serveSessionIsOpen fu s.t = some ((s.o, ()), (s.t, ())) := rfl
def fr (n : Int) : S3 := ((5 : Int), (0 : Int), (0 : Int), n, (0 : Int), [], ())
def drp (n : Int) : S3 := ((8 : Int), (0 : Int), (0 : Int), n, (0 : Int), [], ())

def Se.begins (s : Se) (at' : Int) : Se := { s with p := true, k := 0, x := at' }
def Se.opens (s : Se) (ep cur en now : Int) : Int × Se :=
  if ep ≤ s.ep then (15, s) else if cur > en ∨ en > 1099511627776 ∨ now > 1099511627776 then (5, s)
  else (0, { s with o := true, ep := ep, cur := cur, en := en, ma := cur, dr := false, p := true, k := 0, x := now })
theorem open_eq (fu : Nat) (s : Se) (ep cur en now : Int) : serveSessionOpen fu s.t ep cur en now = some (((s.opens ep cur en now).1, ()), ((s.opens ep cur en now).2.t, ())) := by
  unfold serveSessionOpen Se.opens
  by_cases h1 : ep ≤ s.ep
  · simp [Se.t, h1]
  · by_cases h2 : cur > en
    · simp [Se.t, h1, h2]
    · by_cases h3 : en > 1099511627776
      · simp [Se.t, h1, h2, h3]
      · by_cases h4 : now > 1099511627776
        · simp [Se.t, h1, h2, h3, h4]
        · simp [Se.t, h1, h2, h3, h4, backTriesBegin]
theorem refOpen_eq (fu : Nat) (s : Se) (ep cur en now : Int) : ref24SessionOpen fu s.t ep cur en now = some ((s.opens ep cur en now).1, (s.opens ep cur en now).2.t, ()) := by
  unfold ref24SessionOpen Se.opens
  by_cases h1 : ep ≤ s.ep
  · simp [Se.t, h1]
  · by_cases h2 : cur > en
    · simp [Se.t, h1, h2]
    · by_cases h3 : en > 1099511627776
      · simp [Se.t, h1, h2, h3]
      · by_cases h4 : now > 1099511627776
        · simp [Se.t, h1, h2, h3, h4]
        · simp [Se.t, h1, h2, h3, h4, ref24SessionBegins]
theorem Se.Ok.opens {s : Se} (h : s.Ok) {ep cur en now : Int} (hc : 0 ≤ cur) : (s.opens ep cur en now).2.Ok := by
  unfold Se.opens
  split
  · exact h
  · split
    · exact h
    · have := may23Of h.may
      exact ⟨h.may, h.w, ⟨by show (0 : Int) ≤ 0; omega, by show (0 : Int) ≤ s.b.2.2.1; omega⟩, by show 0 ≤ cur ∧ cur ≤ cur ∧ cur ≤ en ∧ en ≤ 1099511627776; omega⟩

def Se.move (s : Se) (n now : Int) : Bool × Se :=
  if s.o = false ∨ n ≤ s.cur ∨ n > s.en ∨ now > 1099511627776 then (false, s)
  else (true, { s with cur := n, dr := false, ma := max s.ma n, p := true, k := 0, x := if s.ma > n then IntKind.u64.wrap (now + IntKind.u64.wrap s.b.1) else now })
theorem move_eq (fu : Nat) (s : Se) (n now : Int) : serveSessionMove fu s.t n now = some (((s.move n now).1, ()), ((s.move n now).2.t, ())) := by
  unfold serveSessionMove Se.move
  cases ho : s.o with
  | false => simp [serveSessionIsOpen, Se.t, ho]
  | true =>
    by_cases h1 : n ≤ s.cur
    · simp [serveSessionIsOpen, ho, Se.t, h1]
    · by_cases h2 : n > s.en
      · simp [serveSessionIsOpen, ho, Se.t, h1, h2]
      · by_cases h3 : now > 1099511627776
        · simp [serveSessionIsOpen, ho, Se.t, h1, h2, h3]
        · by_cases h4 : s.ma > n
          · simp [serveSessionIsOpen, ho, Se.t, h1, h2, h3, h4, serveSessionMove.j6, backTriesBegin, max2_eq]
          · simp [serveSessionIsOpen, ho, Se.t, h1, h2, h3, h4, serveSessionMove.j6, backTriesBegin, max2_eq]
theorem refMove_eq (fu : Nat) (s : Se) (n now : Int) : ref24SessionMove fu s.t n now = some ((s.move n now).1, (s.move n now).2.t, ()) := by
  unfold ref24SessionMove Se.move
  cases ho : s.o with
  | false => simp [ho, Se.t]
  | true =>
    by_cases h1 : n ≤ s.cur
    · simp [ho, Se.t, h1]
    · by_cases h2 : n > s.en
      · simp [ho, Se.t, h1, h2]
      · by_cases h3 : now > 1099511627776
        · simp [ho, Se.t, h1, h2, h3]
        · by_cases h4 : s.ma > n
          · have e : max s.ma n = s.ma := by omega
            simp [ho, Se.t, h1, h2, h3, h4, ref24SessionBegins, e]
          · have e : max s.ma n = n := by omega
            simp [ho, Se.t, h1, h2, h3, h4, ref24SessionBegins, e]
theorem Se.Ok.move {s : Se} (h : s.Ok) {n now : Int} : (s.move n now).2.Ok := by
  unfold Se.move
  split
  · exact h
  · have := may23Of h.may
    have := h.c
    refine ⟨h.may, h.w, ⟨by show (0 : Int) ≤ 0; omega, by show (0 : Int) ≤ s.b.2.2.1; omega⟩, ?_⟩
    show 0 ≤ n ∧ n ≤ max s.ma n ∧ max s.ma n ≤ s.en ∧ s.en ≤ 1099511627776
    omega

/-- So many frames. -/
def run (a : Int) : Nat → List S3
  | 0 => []
  | k + 1 => fr a :: run (a + 1) k
def Se.lim (s : Se) : Int := min s.en (s.cur + s.w)
theorem Se.Ok.lim {s : Se} (h : s.Ok) : IntKind.u64.wrap (s.cur + s.w) = s.cur + s.w := by
  have := h.c; have := h.w
  exact wrap_u64 (by omega) (by omega)
theorem run_len (k : Nat) : ∀ a, (run a k).length = k := by
  induction k with
  | zero => intro a; rfl
  | succ k ih => intro a; simp [run, ih]
def Se.fill (s : Se) : List S3 × Se := if s.ma > s.cur then (run s.ma (s.lim - s.ma).toNat, { s with ma := max s.ma s.lim }) else ([], s)
theorem Se.Ok.fill {s : Se} (h : s.Ok) : s.fill.2.Ok := by
  unfold Se.fill
  split
  · refine ⟨h.may, h.w, h.k, ?_⟩
    have := h.c
    show 0 ≤ s.cur ∧ s.cur ≤ max s.ma (min s.en (s.cur + s.w)) ∧ max s.ma (min s.en (s.cur + s.w)) ≤ s.en ∧ s.en ≤ 1099511627776
    omega
  · exact h
theorem apOk_small {α : Type} {xs ys : List α} (h : xs.length + ys.length ≤ 1000) : apOk xs ys 56 = true := by
  unfold apOk
  exact decide_eq_true (Nat.le_trans (Nat.mul_le_mul_right 56 h) (by decide))
theorem serve_fill (fu : Nat) k2 : ∀ (m : Nat) (s : Se) (out : List S3), s.Ok → s.ma > s.cur → (s.lim - s.ma).toNat < m → out.length + (s.lim - s.ma).toNat ≤ 900 →
    serveSessionSend.l14 fu k2 m out s.b s.w s.o s.ep s.cur s.en s.ma s.dr s.sa s.b s.p s.k s.x =
      k2 (out ++ s.fill.1) s.b s.w s.o s.ep s.cur s.en s.fill.2.ma s.dr s.sa s.b s.p s.k s.x := by
  intro m
  induction m with
  | zero => intro s out _ _ h; omega
  | succ m ih =>
    intro s out hs hm hk hl
    have hc := hs.c
    unfold serveSessionSend.l14 serveSessionSend.b14
    simp only [hm, decide_true, cond_true, hs.lim, min2_eq]
    unfold Se.fill
    rw [if_pos hm]
    by_cases h : s.ma < min s.en (s.cur + s.w)
    · have e : (s.lim - s.ma).toNat = (s.lim - (s.ma + 1)).toNat + 1 := by unfold Se.lim; omega
      have e1 : IntKind.u64.wrap (s.ma + 1) = s.ma + 1 := wrap_u64 (by omega) (by omega)
      have hs' : ({ s with ma := s.ma + 1 } : Se).Ok := ⟨hs.may, hs.w, hs.k, by show 0 ≤ s.cur ∧ s.cur ≤ s.ma + 1 ∧ s.ma + 1 ≤ s.en ∧ s.en ≤ 1099511627776; omega⟩
      have hm' : s.ma + 1 > s.cur := by omega
      have := ih { s with ma := s.ma + 1 } (out ++ [fr s.ma]) hs' hm' (by show (s.lim - (s.ma + 1)).toNat < m; omega) (by show (out ++ [fr s.ma]).length + (s.lim - (s.ma + 1)).toNat ≤ 900; simp; omega)
      unfold Se.fill at this
      simp only [hm', if_true] at this
      rw [chk, apOk_small (by simp; omega)]
      simp only [h, decide_true, cond_true, e1]
      refine this.trans ?_
      have e2 : max (s.ma + 1) s.lim = max s.ma s.lim := by unfold Se.lim; omega
      rw [e]
      simp only [List.append_assoc, run]
      show k2 (out ++ fr s.ma :: run (s.ma + 1) (s.lim - (s.ma + 1)).toNat) s.b s.w s.o s.ep s.cur s.en (max (s.ma + 1) s.lim) s.dr s.sa s.b s.p s.k s.x = _
      rw [e2]
    · have e : (s.lim - s.ma).toNat = 0 := by unfold Se.lim; omega
      have e2 : max s.ma s.lim = s.ma := by unfold Se.lim; omega
      simp only [h, decide_false, cond_false, e, e2, run, List.append_nil]
theorem ref_fill (fu : Nat) k2 (b1 : S6) : ∀ (m : Nat) (s : Se) (out : List S3), s.Ok → s.ma > s.cur → (s.lim - s.ma).toNat < m → out.length + (s.lim - s.ma).toNat ≤ 900 →
    ref24SessionSend.l18 fu k2 m out s.t b1 = k2 (out ++ s.fill.1) s.fill.2.t b1 := by
  intro m
  induction m with
  | zero => intro s out _ _ h; omega
  | succ m ih =>
    intro s out hs hm hk hl
    have hc := hs.c
    unfold ref24SessionSend.l18 ref24SessionSend.b18
    simp only [Se.t, hs.lim]
    unfold Se.fill
    rw [if_pos hm]
    by_cases h : s.ma < min s.en (s.cur + s.w)
    · have e : (s.lim - s.ma).toNat = (s.lim - (s.ma + 1)).toNat + 1 := by unfold Se.lim; omega
      have e1 : IntKind.u64.wrap (s.ma + 1) = s.ma + 1 := wrap_u64 (by omega) (by omega)
      have hs' : ({ s with ma := s.ma + 1 } : Se).Ok := ⟨hs.may, hs.w, hs.k, by show 0 ≤ s.cur ∧ s.cur ≤ s.ma + 1 ∧ s.ma + 1 ≤ s.en ∧ s.en ≤ 1099511627776; omega⟩
      have hm' : s.ma + 1 > s.cur := by omega
      have := ih { s with ma := s.ma + 1 } (out ++ [fr s.ma]) hs' hm' (by show (s.lim - (s.ma + 1)).toNat < m; omega) (by show (out ++ [fr s.ma]).length + (s.lim - (s.ma + 1)).toNat ≤ 900; simp; omega)
      unfold Se.fill at this
      simp only [hm', if_true] at this
      have h1 : s.ma < s.en := by omega
      have h2 : s.ma < s.cur + s.w := by omega
      rw [chk, apOk_small (by simp; omega)]
      simp only [h1, h2, decide_true, cond_true, e1]
      refine this.trans ?_
      have e2 : max (s.ma + 1) s.lim = max s.ma s.lim := by unfold Se.lim; omega
      rw [e]
      simp only [List.append_assoc, run]
      show k2 (out ++ fr s.ma :: run (s.ma + 1) (s.lim - (s.ma + 1)).toNat) (Se.t { s with ma := max (s.ma + 1) s.lim }) b1 = _
      rw [e2]
      rfl
    · have e : (s.lim - s.ma).toNat = 0 := by unfold Se.lim; omega
      have e2 : max s.ma s.lim = s.ma := by unfold Se.lim; omega
      simp only [e, e2, run, List.append_nil]
      by_cases h1 : s.ma < s.en
      · have h2 : ¬ s.ma < s.cur + s.w := by omega
        simp only [h1, h2, decide_true, decide_false, cond_true, cond_false]
      · simp only [h1, decide_false, cond_false]

/-- What is sent, and the session behind it. -/
def Se.sends (s : Se) (now : Int) : List S3 × Se :=
  if s.o = false ∨ s.cur ≥ s.en ∨ now > 1099511627776 then ([], s) else
  let s1 : Se := if s.dr = false ∧ s.k ≥ s.b.2.2.1 ∧ s.x ≤ now then { s with dr := true, sa := now } else s
  if s1.dr = true then (if s1.sa ≤ now then ([drp s.cur], { s1 with sa := IntKind.u64.wrap (now + IntKind.u64.wrap s.b.1) }) else ([], s1)) else
  if due23 (s.b, s.p, s.k, s.x, ()) now then
    let s2 : Se := { s with k := IntKind.u32.wrap (s.k + 1), x := IntKind.u64.wrap (now + pause23 s.b (IntKind.u32.wrap (s.k + 1))), ma := max s.ma (s.cur + 1) }
    (fr s.cur :: s2.fill.1, s2.fill.2)
  else s.fill
theorem Se.Ok.sends {s : Se} (h : s.Ok) (now : Int) : (s.sends now).2.Ok := by
  unfold Se.sends
  have hc := h.c
  have hm := may23Of h.may
  split
  · exact h
  · rename_i h0
    have hlt : s.cur < s.en := by
      by_cases hx : s.cur < s.en
      · exact hx
      · exact absurd (.inr (.inl (by omega))) h0
    generalize hs1 : (if s.dr = false ∧ s.k ≥ s.b.2.2.1 ∧ s.x ≤ now then ({ s with dr := true, sa := now } : Se) else s) = s1
    have h1 : s1.Ok := by
      rw [← hs1]
      split
      · exact ⟨h.may, h.w, h.k, h.c⟩
      · exact h
    dsimp only
    split
    · split
      · exact ⟨h1.may, h1.w, h1.k, h1.c⟩
      · exact h1
    · split
      · rename_i hd
        have hd' := of_decide_eq_true hd
        have hk : s.k < s.b.2.2.1 := hd'.2.1
        have hk0 := h.k
        have e2 : IntKind.u32.wrap (s.k + 1) = s.k + 1 := wrap_u32 (by omega) (by omega)
        refine Se.Ok.fill ⟨h.may, h.w, ?_, ?_⟩
        · show 0 ≤ IntKind.u32.wrap (s.k + 1) ∧ IntKind.u32.wrap (s.k + 1) ≤ s.b.2.2.1
          rw [e2]; omega
        · show 0 ≤ s.cur ∧ s.cur ≤ max s.ma (s.cur + 1) ∧ max s.ma (s.cur + 1) ≤ s.en ∧ s.en ≤ 1099511627776
          omega
      · exact Se.Ok.fill h

theorem lim_small {s : Se} (h : s.Ok) : (s.lim - s.ma).toNat ≤ 64 := by
  have := h.c; have := h.w
  unfold Se.lim
  omega
theorem serve_j14 (fu : Nat) (hfu : 70 ≤ fu) k1 (s : Se) (out : List S3) (hs : s.Ok) (ho : out.length ≤ 2) :
    serveSessionSend.j14 fu k1 out s.b s.w s.o s.ep s.cur s.en s.ma s.dr s.sa s.b s.p s.k s.x = k1 (out ++ s.fill.1) s.b s.w s.o s.ep s.cur s.en s.fill.2.ma s.dr s.sa s.b s.p s.k s.x := by
  unfold serveSessionSend.j14
  have hl := lim_small hs
  by_cases h : s.ma > s.cur
  · rw [serve_fill fu _ fu s out hs h (by omega) (by omega)]
  · obtain ⟨fu, rfl⟩ : ∃ k, fu = k + 1 := ⟨fu - 1, by omega⟩
    unfold serveSessionSend.l14 serveSessionSend.b14 Se.fill
    simp [h]
theorem ref_j17 (fu : Nat) (hfu : 70 ≤ fu) k1 (b1 : S6) (s : Se) (out : List S3) (hs : s.Ok) (ho : out.length ≤ 2) :
    ref24SessionSend.j17 fu k1 out s.t b1 = k1 (out ++ s.fill.1) s.fill.2.t := by
  unfold ref24SessionSend.j17
  have hl := lim_small hs
  by_cases h : s.ma > s.cur
  · have h' : s.t.2.2.2.2.2.2.2.1 > s.t.2.2.2.2.2.1 := h
    simp only [h', decide_true, cond_true]
    rw [ref_fill fu _ b1 fu s out hs h (by omega) (by omega)]
  · have h' : ¬ s.t.2.2.2.2.2.2.2.1 > s.t.2.2.2.2.2.1 := h
    simp only [h', decide_false, cond_false]
    unfold Se.fill
    simp [h]
/-- A sending behind the question whether it drops. -/
def Se.sends2 (s : Se) (now : Int) : List S3 × Se :=
  if s.dr = true then (if s.sa ≤ now then ([drp s.cur], { s with sa := IntKind.u64.wrap (now + IntKind.u64.wrap s.b.1) }) else ([], s)) else
  if due23 (s.b, s.p, s.k, s.x, ()) now then
    let s2 : Se := { s with k := IntKind.u32.wrap (s.k + 1), x := IntKind.u64.wrap (now + pause23 s.b (IntKind.u32.wrap (s.k + 1))), ma := max s.ma (s.cur + 1) }
    (fr s.cur :: s2.fill.1, s2.fill.2)
  else s.fill
theorem fill_sa (s : Se) : s.fill.2.sa = s.sa := by unfold Se.fill; split <;> rfl
theorem fill_k (s : Se) : s.fill.2.k = s.k := by unfold Se.fill; split <;> rfl
theorem fill_x (s : Se) : s.fill.2.x = s.x := by unfold Se.fill; split <;> rfl
theorem fill_rest (s : Se) : s.fill.2 = { s with ma := s.fill.2.ma } := by unfold Se.fill; split <;> rfl
theorem serve_j5 (fu : Nat) (hfu : 70 ≤ fu) (now : Int) (s : Se) (hs : s.Ok) (hlt : s.cur < s.en) (k1 : List S3 → S0 → Int → Bool → Int → Int → Int → Int → Bool → Int → S0 → Bool → Int → Int → Option (((List S3) × Unit) × (O2 × Unit))) :
    serveSessionSend.j5 fu k1 now s.b s.w s.o s.ep s.cur s.en s.ma s.dr s.sa s.b s.p s.k s.x =
      k1 (s.sends2 now).1 s.b s.w s.o s.ep s.cur s.en (s.sends2 now).2.ma s.dr (s.sends2 now).2.sa s.b s.p (s.sends2 now).2.k (s.sends2 now).2.x := by
  unfold serveSessionSend.j5 Se.sends2
  have hc := hs.c
  have hm := may23Of hs.may
  cases hd : s.dr with
  | true =>
    by_cases h1 : s.sa ≤ now
    · simp [h1, apOk_small, chk, drp]
    · simp [h1]
  | false =>
    simp only [try_eq, Option.bind_some, cond_false, Bool.false_eq_true, if_false]
    unfold try23
    cases hu : due23 (s.b, s.p, s.k, s.x, ()) now with
    | false =>
      simp only [Bool.false_eq_true, if_false, cond_false]
      have := serve_j14 fu hfu k1 s [] hs (by simp)
      rw [hd] at this
      refine this.trans ?_
      rw [fill_rest s]
      rfl
    | true =>
      have hd' := of_decide_eq_true hu
      have hk : s.k < s.b.2.2.1 := hd'.2.1
      have hk0 := hs.k
      have e2 : IntKind.u32.wrap (s.k + 1) = s.k + 1 := wrap_u32 (by omega) (by omega)
      have e3 : IntKind.u64.wrap (s.cur + 1) = s.cur + 1 := wrap_u64 (by omega) (by omega)
      have hs2 : ({ s with k := IntKind.u32.wrap (s.k + 1), x := IntKind.u64.wrap (now + pause23 s.b (IntKind.u32.wrap (s.k + 1))), ma := max s.ma (s.cur + 1) } : Se).Ok := by
        refine ⟨hs.may, hs.w, ?_, ?_⟩
        · show 0 ≤ IntKind.u32.wrap (s.k + 1) ∧ IntKind.u32.wrap (s.k + 1) ≤ s.b.2.2.1
          rw [e2]; omega
        · show 0 ≤ s.cur ∧ s.cur ≤ max s.ma (s.cur + 1) ∧ max s.ma (s.cur + 1) ≤ s.en ∧ s.en ≤ 1099511627776
          omega
      simp only [if_true, cond_true, e3, max2_eq, chk]
      rw [apOk_small (by simp)]
      have := serve_j14 fu hfu k1 _ [fr s.cur] hs2 (by simp)
      simp only [hd] at this
      simp only [cond_true]
      refine this.trans ?_
      simp only [fill_sa, fill_k, fill_x, List.cons_append, List.nil_append]
theorem ref_j7 (fu : Nat) (hfu : 70 ≤ fu) (now : Int) (s : Se) (hs : s.Ok) (hlt : s.cur < s.en) (b1 : S6) (k1 : List S3 → S6 → Option ((List S3) × S6 × Unit)) :
    ref24SessionSend.j7 fu k1 now [] s.t b1 = k1 (s.sends2 now).1 (s.sends2 now).2.t := by
  unfold ref24SessionSend.j7 Se.sends2
  have hc := hs.c
  have hm := may23Of hs.may
  have hk0 := hs.k
  obtain ⟨b, w, p, k, x, o, ep, cur, en, ma, dr, sa⟩ := s
  cases dr with
  | true =>
    by_cases h1 : sa ≤ now
    · simp [Se.t, h1, apOk_small, chk, drp]
    · simp [Se.t, h1]
  | false =>
    simp only at hc hm hk0
    simp only [Se.t, refTry_eq fu (show 22 ≤ fu by omega), Option.bind_some, cond_false, Bool.false_eq_true, if_false]
    unfold try23
    cases hu : due23 (b, p, k, x, ()) now with
    | false =>
      simp only [Bool.false_eq_true, if_false, cond_false]
      exact ref_j17 fu hfu k1 b1 ⟨b, w, p, k, x, o, ep, cur, en, ma, false, sa⟩ [] hs (by simp)
    | true =>
      have hd' := of_decide_eq_true hu
      have hk : k < b.2.2.1 := hd'.2.1
      have hlt' : cur < en := hlt
      have e2 : IntKind.u32.wrap (k + 1) = k + 1 := wrap_u32 (by omega) (by omega)
      have e3 : IntKind.u64.wrap (cur + 1) = cur + 1 := wrap_u64 (by omega) (by omega)
      have hs2 : (⟨b, w, p, IntKind.u32.wrap (k + 1), IntKind.u64.wrap (now + pause23 b (IntKind.u32.wrap (k + 1))), o, ep, cur, en, max ma (cur + 1), false, sa⟩ : Se).Ok := by
        refine ⟨hs.may, hs.w, ?_, ?_⟩
        · show 0 ≤ IntKind.u32.wrap (k + 1) ∧ IntKind.u32.wrap (k + 1) ≤ b.2.2.1
          rw [e2]; omega
        · show 0 ≤ cur ∧ cur ≤ max ma (cur + 1) ∧ max ma (cur + 1) ≤ en ∧ en ≤ 1099511627776
          omega
      simp only [if_true, cond_true, e3, max2_eq, chk]
      rw [apOk_small (by simp)]
      exact ref_j17 fu hfu k1 b1 _ [fr cur] hs2 (by simp)
theorem sends_eq2 (s : Se) (now : Int) (h : ¬ (s.o = false ∨ s.cur ≥ s.en ∨ now > 1099511627776)) :
    s.sends now = (if s.dr = false ∧ s.k ≥ s.b.2.2.1 ∧ s.x ≤ now then ({ s with dr := true, sa := now } : Se) else s).sends2 now := by
  unfold Se.sends
  rw [if_neg h]
  unfold Se.sends2
  by_cases h1 : s.dr = false ∧ s.k ≥ s.b.2.2.1 ∧ s.x ≤ now
  · rw [if_pos h1]; try simp
  · rw [if_neg h1]
theorem sends2_rest (s : Se) (now : Int) : (s.sends2 now).2 = { s with ma := (s.sends2 now).2.ma, sa := (s.sends2 now).2.sa, k := (s.sends2 now).2.k, x := (s.sends2 now).2.x } := by
  unfold Se.sends2
  split
  · split <;> rfl
  · split
    · dsimp only
      rw [fill_rest]
    · rw [fill_rest]
theorem send_eq (fu : Nat) (hfu : 70 ≤ fu) (s : Se) (hs : s.Ok) (now : Int) : serveSessionSend fu s.t now = some (((s.sends now).1, ()), ((s.sends now).2.t, ())) := by
  unfold serveSessionSend
  by_cases h : s.o = false ∨ s.cur ≥ s.en ∨ now > 1099511627776
  · unfold Se.sends
    rw [if_pos h]
    cases ho : s.o with
    | false => simp [serveSessionIsOpen, Se.t, ho]
    | true =>
      by_cases h1 : s.cur ≥ s.en
      · simp [serveSessionIsOpen, Se.t, ho, h1]
      · have h2 : now > 1099511627776 := by
          rcases h with h | h | h
          · rw [h] at ho; cases ho
          · exact absurd h h1
          · exact h
        simp [serveSessionIsOpen, Se.t, ho, h2]
  · rw [sends_eq2 s now h]
    have ho : s.o = true := by cases hx : s.o with | true => rfl | false => exact absurd (.inl hx) h
    have h1 : ¬ s.en ≤ s.cur := fun hx => h (.inr (.inl hx))
    have h2 : ¬ 1099511627776 < now := fun hx => h (.inr (.inr hx))
    have hlt : s.cur < s.en := by omega
    cases hd : s.dr with
    | true =>
      have := serve_j5 fu hfu now s hs hlt (fun vq6 b0q6 c0q6 c0q6x2 c0q6x3 c0q6x4 c0q6x5 c0q6x6 c0q6x7 c0q6x8 b1q6 c1q6 c1q6x2 c1q6x3 => some ((vq6, ()), ((b0q6, c0q6, (b1q6, c1q6, c1q6x2, c1q6x3, ()), c0q6x2, c0q6x3, c0q6x4, c0q6x5, c0q6x6, c0q6x7, c0q6x8, ()), ())))
      rw [if_neg (by simp)]
      simp only [ho, hd] at this
      simp only [serveSessionIsOpen, Option.bind_some, Se.t, ho, Bool.not_true, cond_false, ge_iff_le, h1, decide_false, gt_iff_lt, h2, hd]
      simp only [serveSessionSend.j45004, cond_false]
      rw [this, sends2_rest s now]
      simp [ho, hd]
    | false =>
      by_cases hk : s.k ≥ s.b.2.2.1
      · by_cases hx : s.x ≤ now
        · have := serve_j5 fu hfu now { s with dr := true, sa := now } ⟨hs.may, hs.w, hs.k, hs.c⟩ hlt (fun vq6 b0q6 c0q6 c0q6x2 c0q6x3 c0q6x4 c0q6x5 c0q6x6 c0q6x7 c0q6x8 b1q6 c1q6 c1q6x2 c1q6x3 => some ((vq6, ()), ((b0q6, c0q6, (b1q6, c1q6, c1q6x2, c1q6x3, ()), c0q6x2, c0q6x3, c0q6x4, c0q6x5, c0q6x6, c0q6x7, c0q6x8, ()), ())))
          rw [if_pos ⟨rfl, hk, hx⟩]
          simp only [ho] at this
          simp only [serveSessionIsOpen, Option.bind_some, Se.t, ho, Bool.not_true, cond_false, ge_iff_le, h1, decide_false, gt_iff_lt, h2, hd, Bool.not_false, cond_true, over_eq, hk, decide_true, backTriesNext, hx]
          have hk' : s.b.2.2.1 ≤ s.k := hk
          simp only [serveSessionSend.j45004, cond_true]
          have hr := sends2_rest { s with dr := true, sa := now } now
          simp only [ho] at hr
          rw [this, hr]
        · have := serve_j5 fu hfu now s hs hlt (fun vq6 b0q6 c0q6 c0q6x2 c0q6x3 c0q6x4 c0q6x5 c0q6x6 c0q6x7 c0q6x8 b1q6 c1q6 c1q6x2 c1q6x3 => some ((vq6, ()), ((b0q6, c0q6, (b1q6, c1q6, c1q6x2, c1q6x3, ()), c0q6x2, c0q6x3, c0q6x4, c0q6x5, c0q6x6, c0q6x7, c0q6x8, ()), ())))
          rw [if_neg (fun h => hx h.2.2)]
          have hk' : s.b.2.2.1 ≤ s.k := hk
          simp only [ho, hd] at this
          simp only [serveSessionIsOpen, Option.bind_some, Se.t, ho, Bool.not_true, cond_false, ge_iff_le, h1, decide_false, gt_iff_lt, h2, hd, Bool.not_false, cond_true, over_eq, hk', decide_true, backTriesNext, hx]
          simp only [serveSessionSend.j45004, cond_false]
          rw [this, sends2_rest s now]
          simp [ho, hd]
      · have := serve_j5 fu hfu now s hs hlt (fun vq6 b0q6 c0q6 c0q6x2 c0q6x3 c0q6x4 c0q6x5 c0q6x6 c0q6x7 c0q6x8 b1q6 c1q6 c1q6x2 c1q6x3 => some ((vq6, ()), ((b0q6, c0q6, (b1q6, c1q6, c1q6x2, c1q6x3, ()), c0q6x2, c0q6x3, c0q6x4, c0q6x5, c0q6x6, c0q6x7, c0q6x8, ()), ())))
        rw [if_neg (fun h => hk h.2.1)]
        have hk' : ¬ s.b.2.2.1 ≤ s.k := hk
        simp only [ho, hd] at this
        simp only [serveSessionIsOpen, Option.bind_some, Se.t, ho, Bool.not_true, cond_false, ge_iff_le, h1, decide_false, gt_iff_lt, h2, hd, Bool.not_false, cond_true, over_eq, hk']
        simp only [serveSessionSend.j45004, cond_false]
        rw [this, sends2_rest s now]
        simp [ho, hd]

theorem refSend_eq (fu : Nat) (hfu : 70 ≤ fu) (s : Se) (hs : s.Ok) (now : Int) : ref24SessionSend fu s.t now = some ((s.sends now).1, (s.sends now).2.t, ()) := by
  unfold ref24SessionSend
  by_cases h : s.o = false ∨ s.cur ≥ s.en ∨ now > 1099511627776
  · unfold Se.sends
    rw [if_pos h]
    cases ho : s.o with
    | false => simp [Se.t, ho]
    | true =>
      by_cases h1 : s.cur ≥ s.en
      · simp [Se.t, ho, h1]
      · have h2 : now > 1099511627776 := by
          rcases h with h | h | h
          · rw [h] at ho; cases ho
          · exact absurd h h1
          · exact h
        simp [Se.t, ho, h2]
  · rw [sends_eq2 s now h]
    have hkb := hs.k
    have hwb := hs.w
    have ho : s.o = true := by cases hx : s.o with | true => rfl | false => exact absurd (.inl hx) h
    have h1 : ¬ s.en ≤ s.cur := fun hx => h (.inr (.inl hx))
    have h2 : ¬ 1099511627776 < now := fun hx => h (.inr (.inr hx))
    have hlt : s.cur < s.en := by omega
    have hj := ref_j7 fu hfu now s hs hlt (((0 : Int), (0 : Int), (0 : Int), ()), (0 : Int), (((0 : Int), (0 : Int), (0 : Int), ()), false, (0 : Int), (0 : Int), ()), false, (0 : Int), (0 : Int), (0 : Int), (0 : Int), false, (0 : Int), ()) (fun v c => some (v, c, ()))
    have hj1 := ref_j7 fu hfu now { s with dr := true, sa := now } ⟨hs.may, hs.w, hs.k, hs.c⟩ hlt (((0 : Int), (0 : Int), (0 : Int), ()), (0 : Int), (((0 : Int), (0 : Int), (0 : Int), ()), false, (0 : Int), (0 : Int), ()), false, (0 : Int), (0 : Int), (0 : Int), (0 : Int), false, (0 : Int), ()) (fun v c => some (v, c, ()))
    clear hs
    obtain ⟨b, w, p, k, x, o, ep, cur, en, ma, dr, sa⟩ := s
    simp only at ho h1 h2 hkb
    subst ho
    cases dr with
    | true =>
      rw [if_neg (by simp)]
      simp only [Se.t, Bool.not_true, cond_false, ge_iff_le, h1, decide_false, gt_iff_lt, h2]
      simp only [ref24SessionSend.j45005, cond_false]
      exact hj
    | false =>
      by_cases hk : k ≥ b.2.2.1
      · have hke : (k == b.2.2.1) = true := by rw [show k = b.2.2.1 by omega]; exact beq_self_eq_true _
        by_cases hx : x ≤ now
        · rw [if_pos ⟨rfl, hk, hx⟩]
          simp only [Se.t, Bool.not_true, cond_false, ge_iff_le, h1, decide_false, gt_iff_lt, h2, Bool.not_false, cond_true, hke, hx, decide_true]
          simp only [ref24SessionSend.j45005, cond_true]
          exact hj1
        · rw [if_neg (fun h => hx h.2.2)]
          simp only [Se.t, Bool.not_true, cond_false, ge_iff_le, h1, decide_false, gt_iff_lt, h2, Bool.not_false, cond_true, hke, hx]
          simp only [ref24SessionSend.j45005, cond_false]
          exact hj
      · have hke : (k == b.2.2.1) = false := beq_false_of_ne (by omega)
        rw [if_neg (fun h => hk h.2.1)]
        simp only [Se.t, Bool.not_true, cond_false, ge_iff_le, h1, decide_false, gt_iff_lt, h2, Bool.not_false, cond_true, hke]
        simp only [ref24SessionSend.j45005, cond_false]
        exact hj

/-- Rows of frames equal themselves. -/
theorem same_eq (fu : Nat) (e : S3) : ref20Same fu e e = some (true, ()) := by unfold ref20Same; simp
theorem same_rounds (fu : Nat) k1 k2 (a : List S3) (ha : a.length < 100000) : ∀ (m : Nat) (i : Nat), i ≤ a.length → a.length < i + m → ref20SameAll.l4 fu k1 k2 m a a a.length i = k2 () := by
  intro m
  induction m with
  | zero => intro i h1 h2; omega
  | succ m ih =>
    intro i h1 h2
    unfold ref20SameAll.l4 ref20SameAll.b4
    by_cases h : i < a.length
    · have hl : (i : Int) < a.length := by omega
      have hix : ixOk a i = true := by simp [ixOk, h]
      have e1 : IntKind.i64.wrap ((i : Int) + 1) = (i + 1 : Nat) := by
        simp only [IntKind.wrap, IntKind.signed, IntKind.bits]
        simp
        omega
      simp only [hl, decide_true, cond_true, chk, hix, same_eq, Option.bind_some, Bool.not_true, cond_false, e1]
      exact ih (i + 1) (by omega) (by omega)
    · have : i = a.length := by omega
      subst this
      simp
theorem sameAll_eq (fu : Nat) (a : List S3) (ha : a.length < fu) (hb : a.length < 100000) : ref20SameAll fu a a = some (true, ()) := by
  unfold ref20SameAll
  have := same_rounds fu (fun vq3 => some (vq3, ())) (fun (_ : Unit) => some (true, ())) a hb fu 0 (by omega) (by omega)
  simpa using this
theorem fill_len {s : Se} (h : s.Ok) : s.fill.1.length ≤ 64 := by
  have := lim_small h
  unfold Se.fill
  split
  · rw [run_len]; exact this
  · simp
theorem sends_len {s : Se} (h : s.Ok) (now : Int) : (s.sends now).1.length ≤ 65 := by
  unfold Se.sends
  split
  · simp
  · rename_i h0
    dsimp only
    generalize hs1 : (if s.dr = false ∧ s.k ≥ s.b.2.2.1 ∧ s.x ≤ now then ({ s with dr := true, sa := now } : Se) else s) = s1
    split
    · split <;> simp
    · split
      · rename_i hd
        have hd' := of_decide_eq_true hd
        have hc := h.c
        have hm := may23Of h.may
        have hlt : s.cur < s.en := by
          by_cases hx : s.cur < s.en
          · exact hx
          · exact absurd (.inr (.inl (by omega))) h0
        have hk : s.k < s.b.2.2.1 := hd'.2.1
        have hk0 := h.k
        have e2 : IntKind.u32.wrap (s.k + 1) = s.k + 1 := wrap_u32 (by omega) (by omega)
        have := fill_len (s := { s with k := IntKind.u32.wrap (s.k + 1), x := IntKind.u64.wrap (now + pause23 s.b (IntKind.u32.wrap (s.k + 1))), ma := max s.ma (s.cur + 1) }) (by
          refine ⟨h.may, h.w, ?_, ?_⟩
          · show 0 ≤ IntKind.u32.wrap (s.k + 1) ∧ IntKind.u32.wrap (s.k + 1) ≤ s.b.2.2.1
            rw [e2]; omega
          · show 0 ≤ s.cur ∧ s.cur ≤ max s.ma (s.cur + 1) ∧ max s.ma (s.cur + 1) ≤ s.en ∧ s.en ≤ 1099511627776
            omega)
        simp only [List.length_cons]
        omega
      · have := fill_len h; omega
def Se.nack (s : Se) (ep n now : Int) : Se := if s.o = true ∧ ep = s.ep ∧ n = s.cur ∧ n < s.ma ∧ s.dr = false then { s with dr := true, sa := now } else s
/-- An operation. -/
def Se.step (s : Se) (o : S4) : Se :=
  if o.1 = 0 then (s.opens o.2.1 o.2.2.1 o.2.2.2.1 o.2.2.2.2.1).2
  else if o.1 = 1 then { s with o := false }
  else if o.1 = 2 then (if s.o = true ∧ o.2.2.1 ≤ 1099511627776 then { s with en := max s.en o.2.2.1 } else s)
  else if o.1 = 3 then (s.move o.2.2.1 o.2.2.2.2.1).2
  else if o.1 = 4 then (s.sends o.2.2.2.2.1).2
  else if o.1 = 5 then s
  else if o.1 = 6 then s
  else s.nack o.2.1 o.2.2.1 o.2.2.2.2.1
theorem Se.Ok.step {s : Se} (h : s.Ok) (o : S4) (ho : 0 ≤ o.2.2.1) : (s.step o).Ok := by
  unfold Se.step
  split
  · exact h.opens ho
  · split
    · exact ⟨h.may, h.w, h.k, h.c⟩
    · split
      · split
        · rename_i h1
          refine ⟨h.may, h.w, h.k, ?_⟩
          have := h.c
          show 0 ≤ s.cur ∧ s.cur ≤ s.ma ∧ s.ma ≤ max s.en o.2.2.1 ∧ max s.en o.2.2.1 ≤ 1099511627776
          omega
        · exact h
      · split
        · exact h.move
        · split
          · exact h.sends _
          · split
            · exact h
            · split
              · exact h
              · unfold Se.nack
                split
                · exact ⟨h.may, h.w, h.k, h.c⟩
                · exact h
theorem nack_eq (fu : Nat) (s : Se) (ep n now : Int) :
    serveSessionNack fu s.t ep n now = some ((decide (s.o = true ∧ ep = s.ep ∧ n = s.cur ∧ n < s.ma ∧ s.dr = false), ()), ((s.nack ep n now).t, ())) := by
  unfold serveSessionNack Se.nack
  obtain ⟨b, w, p, k, x, o, e, cur, en, ma, dr, sa⟩ := s
  cases o with
  | false => simp [serveSessionIsOpen, Se.t]
  | true =>
    by_cases h1 : ep = e
    · by_cases h2 : n = cur
      · by_cases h3 : n < ma
        · have h3' : ¬ ma ≤ n := by omega
          subst h1 h2
          cases dr <;> simp [serveSessionIsOpen, Se.t, h3, h3']
        · have h3' : ma ≤ n := by omega
          subst h1 h2
          simp [serveSessionIsOpen, Se.t, h3, h3']
      · subst h1
        have h2' : (n != cur) = true := bne_iff_ne.2 h2
        simp [serveSessionIsOpen, Se.t, h2, h2']
    · have h1' : (ep != e) = true := bne_iff_ne.2 h1
      simp [serveSessionIsOpen, Se.t, h1, h1']
theorem grow_eq (fu : Nat) (s : Se) (n : Int) : serveSessionGrow fu s.t n = some ((()), ((if s.o = true ∧ n ≤ 1099511627776 then { s with en := max s.en n } else s : Se).t, ())) := by
  unfold serveSessionGrow
  obtain ⟨b, w, p, k, x, o, e, cur, en, ma, dr, sa⟩ := s
  cases o with
  | false => simp [serveSessionIsOpen, Se.t, serveSessionGrow.j10001]
  | true => by_cases h : n ≤ 1099511627776 <;> simp [serveSessionIsOpen, Se.t, serveSessionGrow.j10001, h, max2_eq]
theorem do_eq (fu : Nat) (hfu : 70 ≤ fu) (s : Se) (hs : s.Ok) (o : S4) : law24Do fu s.t s.t o = some ((true, (s.step o).t, ()), ((s.step o).t, ())) := by
  unfold law24Do Se.step
  obtain ⟨kd, ep, n, m, now, u⟩ := o
  by_cases h0 : kd = 0
  · simp [h0, refOpen_eq, open_eq]
  · by_cases h1 : kd = 1
    · simp [h1, serveSessionShut, Se.t]
    · by_cases h2 : kd = 2
      · have hso : s.t.2.2.2.1 = s.o := rfl
        subst h2
        simp only [grow_eq, Option.bind_some, hso, show ((2 : Int) == 0) = false from rfl, show ((2 : Int) == 1) = false from rfl, show ((2 : Int) == 2) = true from rfl, cond_true, cond_false, law24Do.j64012]
        obtain ⟨b, w, p, k, x, o, e, cur, en, ma, dr, sa⟩ := s
        cases o with
        | false => simp [Se.t]
        | true => by_cases h : n ≤ 1099511627776 <;> simp [Se.t, h, max2_eq]
      · by_cases h3 : kd = 3
        · simp [h3, refMove_eq, move_eq]
        · by_cases h4 : kd = 4
          · have hl := sends_len hs now
            subst h4
            simp [refSend_eq fu hfu s hs, send_eq fu hfu s hs, sameAll_eq fu (s.sends now).1 (by omega) (by omega)]
          · by_cases h5 : kd = 5
            · subst h5
              obtain ⟨b, w, p, k, x, o, e, cur, en, ma, dr, sa⟩ := s
              cases o with
              | false => simp [serveSessionAcks, serveSessionIsOpen, Se.t]
              | true =>
                by_cases ha : ep = e
                · by_cases hb : cur < n <;> by_cases hc : n ≤ ma <;> simp [serveSessionAcks, serveSessionIsOpen, Se.t, ha, hb, hc]
                · have ha' : (ep == e) = false := beq_false_of_ne ha
                  simp [serveSessionAcks, serveSessionIsOpen, Se.t, ha']
            · by_cases h6 : kd = 6
              · subst h6
                obtain ⟨b, w, p, k, x, o, e, cur, en, ma, dr, sa⟩ := s
                cases o with
                | false => simp [serveSessionDrops, serveSessionIsOpen, Se.t]
                | true =>
                  by_cases ha : ep = e
                  · cases dr <;> simp [serveSessionDrops, serveSessionIsOpen, Se.t, ha]
                  · have ha' : (ep == e) = false := beq_false_of_ne ha
                    simp [serveSessionDrops, serveSessionIsOpen, Se.t, ha']
              · have nk := nack_eq fu s ep n now
                have hk : ∀ j : Int, kd ≠ j → (kd == j) = false := fun j h => beq_false_of_ne h
                simp only [hk 0 h0, hk 1 h1, hk 2 h2, hk 3 h3, hk 4 h4, hk 5 h5, hk 6 h6, cond_false, h0, h1, h2, h3, h4, h5, h6, if_false]
                obtain ⟨b, w, p, k, x, o, e, cur, en, ma, dr, sa⟩ := s
                simp only [Se.t] at nk
                simp only [Se.t, law24Do.j25, nk, Option.bind_some]
                unfold Se.nack
                cases o with
                | false => simp
                | true =>
                  by_cases ha : ep = e
                  · by_cases hb : n = cur
                    · by_cases hc : n < ma
                      · subst ha hb
                        cases dr <;> simp [hc]
                      · subst ha hb
                        simp [hc]
                    · have hb' : (n == cur) = false := beq_false_of_ne hb
                      simp [ha, hb, hb']
                  · have ha' : (ep == e) = false := beq_false_of_ne ha
                    simp [ha, ha']
theorem servenew_eq (fu : Nat) (b : S0) (w : Int) : serveNew fu b w = if may23 b = true ∧ 1 ≤ w ∧ w ≤ 64 then some ((some (b, IntKind.u64.wrap w, (b, false, (0 : Int), (0 : Int), ()), false, (0 : Int), (0 : Int), (0 : Int), (0 : Int), false, (0 : Int), ()), (0 : Int), ()), (())) else some ((none, (1 : Int), ()), (())) := by
  unfold serveNew
  rw [new_eq]
  cases hm : may23 b with
  | false => simp [oc]
  | true =>
    by_cases h1 : w < 1
    · have h1' : ¬ 1 ≤ w := by omega
      simp [oc, h1, h1']
    · have h1' : 1 ≤ w := by omega
      by_cases h2 : 64 < w
      · have h2' : ¬ w ≤ 64 := by omega
        simp [oc, h1, h1', h2, h2']
      · have h2' : w ≤ 64 := by omega
        simp [oc, h1, h1', h2, h2']
theorem refMay24_eq (fu : Nat) (b : S0) (w : Int) : ref24May fu b w = some (decide (may23 b = true ∧ 1 ≤ w ∧ w ≤ 64), ()) := by
  unfold ref24May
  rw [ref23May_eq]
  have e1 : (w > 0) = (1 ≤ w) := propext (by omega)
  have e2 : (w < 65) = (w ≤ 64) := propext (by omega)
  simp only [e1, e2]
  cases may23 b <;> by_cases h1 : 1 ≤ w <;> by_cases h2 : w ≤ 64 <;> simp [h1, h2]
/-- At the beginning. -/
def Se.new (b : S0) (w : Int) : Se := ⟨b, w, false, 0, 0, false, 0, 0, 0, 0, false, 0⟩
theorem Se.Ok.new {b : S0} {w : Int} (h : may23 b = true ∧ 1 ≤ w ∧ w ≤ 64) : (Se.new b w).Ok := by
  have := may23Of h.1
  exact ⟨h.1, h.2, by show (0 : Int) ≤ 0 ∧ (0 : Int) ≤ b.2.2.1; omega, by simp [Se.new]⟩
theorem cut_eq (fu : Nat) (l : List S4) : law24Cut fu l = some (l.take 150, ()) := by
  unfold law24Cut
  rw [min2_eq]
  have h : cutOk l 0 (min (l.length : Int) 150) = true := by simp [cutOk]; omega
  have e : cutL l 0 (min (l.length : Int) 150) = l.take 150 := by
    unfold cutL
    simp
    omega
  simp only [h, chk, cond_true, e]
theorem wrap_i64 {x : Int} (h0 : 0 ≤ x) (h1 : x < 9223372036854775808) : IntKind.i64.wrap x = x := by
  simp only [IntKind.wrap, IntKind.signed, IntKind.bits]
  simp
  omega
theorem cursor_eq (fu : Nat) (s : Se) : serveSessionCursor fu s.t = some (((if s.o = true then s.cur else 0), ()), (s.t, ())) := by
  unfold serveSessionCursor
  obtain ⟨b, w, p, k, x, o, ep, cur, en, ma, dr, sa⟩ := s
  cases o <;> simp [serveSessionIsOpen, Se.t]
theorem dropping_eq (fu : Nat) (s : Se) : serveSessionDropping fu s.t = some ((s.o && s.dr, ()), (s.t, ())) := by
  unfold serveSessionDropping
  obtain ⟨b, w, p, k, x, o, ep, cur, en, ma, dr, sa⟩ := s
  cases o <;> simp [serveSessionIsOpen, Se.t]
theorem epoch_eq (fu : Nat) (s : Se) : serveSessionEpoch fu s.t = some ((s.ep, ()), (s.t, ())) := rfl
theorem j17_eq (fu : Nat) k0 k1 (v : List S4) (x2 x3 : Int) (s : Se) :
    law24ServePlays.j17 fu k0 k1 (if s.o = true then s.cur else 0) (s.o && s.dr) v x2 x3 s.b s.w s.o s.ep s.cur s.en s.ma s.dr s.sa s.b s.p s.k s.x s.t =
      k0 v x2 x3 s.b s.w s.o s.ep s.cur s.en s.ma s.dr s.sa s.b s.p s.k s.x s.t := by
  unfold law24ServePlays.j17
  have h1 := isOpen_eq fu s
  have h2 := epoch_eq fu s
  have h3 := cursor_eq fu s
  have h4 := dropping_eq fu s
  have h5 : s.t.2.2.2.1 = s.o := rfl
  have h6 : s.t.2.2.2.2.1 = s.ep := rfl
  rw [show (s.b, s.w, (s.b, s.p, s.k, s.x, ()), s.o, s.ep, s.cur, s.en, s.ma, s.dr, s.sa, ()) = s.t from rfl]
  simp only [h1, h2, h3, h4, h5, h6, Option.bind_some, beq_self_eq_true, Bool.not_true, cond_false, bne_self_eq_false]
  rfl
theorem plays_rounds (fu : Nat) (hfu : 70 ≤ fu) (k1 : Bool → Option (Bool × Unit)) (k2 : Unit → Option (Bool × Unit)) (v : List S4) (hv : v.length ≤ 150) (hn : ∀ o ∈ v, 0 ≤ o.2.2.1) : ∀ (m i : Nat) (s : Se), s.Ok → i ≤ v.length → v.length < i + m →
    law24ServePlays.l8 fu k1 k2 m v v.length i s.b s.w s.o s.ep s.cur s.en s.ma s.dr s.sa s.b s.p s.k s.x s.t = k2 () := by
  intro m
  induction m with
  | zero => intro i s _ h1 h2; omega
  | succ m ih =>
    intro i s hs h1 h2
    unfold law24ServePlays.l8 law24ServePlays.b8
    by_cases hl : i < v.length
    · have hl' : (i : Int) < v.length := by omega
      have hix : ixOk v i = true := by simp [ixOk, hl]
      have hmem : ixL ((0 : Int), (0 : Int), (0 : Int), (0 : Int), (0 : Int), ()) v i ∈ v := by
        unfold ixL
        simp only [Int.toNat_natCast, List.getD_eq_getElem?_getD, List.getElem?_eq_getElem hl, Option.getD_some]
        exact List.getElem_mem hl
      have e1 : IntKind.i64.wrap ((i : Int) + 1) = (i + 1 : Nat) := wrap_i64 (by omega) (by omega)
      rw [show (s.b, s.w, (s.b, s.p, s.k, s.x, ()), s.o, s.ep, s.cur, s.en, s.ma, s.dr, s.sa, ()) = s.t from rfl]
      simp only [hl', decide_true, cond_true, chk, hix, do_eq fu hfu s hs, Option.bind_some, Bool.not_true, cond_false]
      generalize hs' : s.step (ixL ((0 : Int), (0 : Int), (0 : Int), (0 : Int), (0 : Int), ()) v i) = s'
      have hk : s'.Ok := by rw [← hs']; exact hs.step _ (hn _ hmem)
      have hi := ih (i + 1) s' hk (by omega) (by omega)
      cases ho : s'.t.2.2.2.1 with
      | false =>
        have ho' : s'.o = false := ho
        have hj := j17_eq fu (fun vq13 vq13x2 vq13x3 b1q13 c1q13 c1q13x2 c1q13x3 c1q13x4 c1q13x5 c1q13x6 c1q13x7 c1q13x8 b2q13 c2q13 c2q13x2 c2q13x3 b3q13 => 
            let t3 := IntKind.i64.wrap (vq13x3 + (1 : Int))
            law24ServePlays.l8 fu k1 k2 m vq13 vq13x2 t3 b1q13 c1q13 c1q13x2 c1q13x3 c1q13x4 c1q13x5 c1q13x6 c1q13x7 c1q13x8 b2q13 c2q13 c2q13x2 c2q13x3 b3q13) (fun q => k1 q) v v.length i s'
        rw [if_neg (by rw [ho']; decide), ho', Bool.false_and] at hj
        simp only [Bool.not_false, cond_true]
        have e2 := e1
        simp only [e1, ho'] at hj hi
        exact hj.trans hi
      | true =>
        have ho' : s'.o = true := ho
        have hj := j17_eq fu (fun vq13 vq13x2 vq13x3 b1q13 c1q13 c1q13x2 c1q13x3 c1q13x4 c1q13x5 c1q13x6 c1q13x7 c1q13x8 b2q13 c2q13 c2q13x2 c2q13x3 b3q13 => 
            let t3 := IntKind.i64.wrap (vq13x3 + (1 : Int))
            law24ServePlays.l8 fu k1 k2 m vq13 vq13x2 t3 b1q13 c1q13 c1q13x2 c1q13x3 c1q13x4 c1q13x5 c1q13x6 c1q13x7 c1q13x8 b2q13 c2q13 c2q13x2 c2q13x3 b3q13) (fun q => k1 q) v v.length i s'
        rw [if_pos ho', ho', Bool.true_and] at hj
        simp only [Bool.not_true, cond_false]
        simp only [e1, ho'] at hj hi
        exact hj.trans hi
    · have : i = v.length := by omega
      subst this
      simp
theorem ops_ok {l : List S4} (h : (Kd.slice kS4).ok l) : ∀ o ∈ l.take 150, 0 ≤ o.2.2.1 := by
  intro o ho
  have := (h.2 o (List.mem_of_mem_take ho)).2.2.1
  simp [Kd.ok, inR, IntKind.min, IntKind.max, IntKind.signed, IntKind.bits] at this
  omega
theorem fixed24 : law24Fixed 300 = some (true, ()) := by kernel_rfl

/-- THE LAW. -/
theorem lawServePlays (b : S0) (w : Int) (ops : List S4) (h : okAll law24ServePlays.con.ps (b, w, ops, ())) : law24ServePlays 300 b w ops = some (true, ()) := by
  unfold law24ServePlays
  rw [servenew_eq, fixed24, refMay24_eq]
  by_cases hm : may23 b = true ∧ 1 ≤ w ∧ w ≤ 64
  · rw [if_pos hm]
    have hlen : (ops.take 150).length ≤ 150 := by rw [List.length_take]; omega
    have := plays_rounds 300 (by omega) (fun vq7 => some (vq7, ())) (fun (_ : Unit) => some (true, ())) (ops.take 150) hlen (ops_ok h.2.2.1) 300 0 (Se.new b w) (Se.Ok.new hm) (by omega) (by omega)
    have e : IntKind.u64.wrap w = w := wrap_u64 (by omega) (by omega)
    simp only [oc, Option.bind_some, e, hm, decide_true, Bool.not_true, cond_false, cut_eq, ref24New, show ((0 : Int) != 0) = false from rfl, and_self]
    exact this
  · rw [if_neg hm]
    simp [oc, hm]
theorem run_mem {f : S3} : ∀ (k : Nat) (a : Int), f ∈ run a k → ∃ n, f = fr n ∧ a ≤ n ∧ n < a + k := by
  intro k
  induction k with
  | zero => intro a h; cases h
  | succ k ih =>
    intro a h
    rcases List.mem_cons.1 h with h | h
    · exact ⟨a, h, by omega, by omega⟩
    · obtain ⟨n, h1, h2, h3⟩ := ih _ h
      exact ⟨n, h1, by omega, by omega⟩
theorem fill_mem {f : S3} {s : Se} (h : s.Ok) (hf : f ∈ s.fill.1) : ∃ n, f = fr n ∧ s.cur < n ∧ n < s.lim := by
  unfold Se.fill at hf
  split at hf
  · rename_i hm
    obtain ⟨n, h1, h2, h3⟩ := run_mem _ _ hf
    exact ⟨n, h1, by omega, by omega⟩
  · cases hf
theorem fill_dr (s : Se) : s.fill.2.dr = s.dr := by unfold Se.fill; split <;> rfl
theorem fill_en (s : Se) : s.fill.2.en = s.en := by unfold Se.fill; split <;> rfl
theorem fill_w (s : Se) : s.fill.2.w = s.w := by unfold Se.fill; split <;> rfl
theorem fill_o (s : Se) : s.fill.2.o = s.o := by unfold Se.fill; split <;> rfl
/-- What a sending is. -/
theorem sends_is {s : Se} (h : s.Ok) (now : Int) : (s.sends now).2.en = s.en ∧ (s.sends now).2.w = s.w ∧
    ((s.sends now).1 = [] ∨ s.o = true ∧ (s.sends now).2.o = true ∧ ((s.sends now).1 = [drp s.cur] ∧ (s.sends now).2.dr = true ∨ (s.sends now).2.dr = false ∧ ∀ f ∈ (s.sends now).1, ∃ n, f = fr n ∧ s.cur ≤ n ∧ n < s.lim)) := by
  by_cases h0 : s.o = false ∨ s.cur ≥ s.en ∨ now > 1099511627776
  · unfold Se.sends
    rw [if_pos h0]
    exact ⟨rfl, rfl, .inl rfl⟩
  · have ho : s.o = true := by cases hx : s.o with | true => rfl | false => exact absurd (.inl hx) h0
    have hlt : s.cur < s.en := by
      by_cases hx : s.cur < s.en
      · exact hx
      · exact absurd (.inr (.inl (by omega))) h0
    have hw := h.w
    have hc := h.c
    rw [sends_eq2 s now h0]
    have key : ∀ s1 : Se, s1.Ok → s1.o = true → s1.en = s.en → s1.w = s.w → s1.cur = s.cur → s1.lim = s.lim → (s1.sends2 now).2.en = s.en ∧ (s1.sends2 now).2.w = s.w ∧
        ((s1.sends2 now).1 = [] ∨ s.o = true ∧ (s1.sends2 now).2.o = true ∧ ((s1.sends2 now).1 = [drp s.cur] ∧ (s1.sends2 now).2.dr = true ∨ (s1.sends2 now).2.dr = false ∧ ∀ f ∈ (s1.sends2 now).1, ∃ n, f = fr n ∧ s.cur ≤ n ∧ n < s.lim)) := by
      intro s1 h1 ho1 e1 e2 e3 e4
      have hl : s.cur < s.lim := by unfold Se.lim; omega
      have hm := may23Of h1.may
      have hk0 := h1.k
      have hc1 := h1.c
      obtain ⟨b, w, p, k, x, o, ep, cur, en, ma, dr, sa⟩ := s1
      simp only at ho1 e1 e2 e3 hm hk0 hc1
      unfold Se.sends2
      cases dr with
      | true =>
        simp only [if_true]
        split
        · exact ⟨e1, e2, .inr ⟨ho, ho1, .inl ⟨by rw [e3], rfl⟩⟩⟩
        · exact ⟨e1, e2, .inl rfl⟩
      | false =>
        simp only [Bool.false_eq_true, if_false]
        split
        · rename_i hu
          have hd' := of_decide_eq_true hu
          have hk : k < b.2.2.1 := hd'.2.1
          have e5 : IntKind.u32.wrap (k + 1) = k + 1 := wrap_u32 (by omega) (by omega)
          have hs2 : (⟨b, w, p, IntKind.u32.wrap (k + 1), IntKind.u64.wrap (now + pause23 b (IntKind.u32.wrap (k + 1))), o, ep, cur, en, max ma (cur + 1), false, sa⟩ : Se).Ok := by
            refine ⟨h1.may, h1.w, ?_, ?_⟩
            · show 0 ≤ IntKind.u32.wrap (k + 1) ∧ IntKind.u32.wrap (k + 1) ≤ b.2.2.1
              rw [e5]; omega
            · show 0 ≤ cur ∧ cur ≤ max ma (cur + 1) ∧ max ma (cur + 1) ≤ en ∧ en ≤ 1099511627776
              omega
          rw [fill_en, fill_w, fill_dr, fill_o]
          refine ⟨e1, e2, .inr ⟨ho, ho1, .inr ⟨rfl, ?_⟩⟩⟩
          intro f hf
          rcases List.mem_cons.1 hf with hf | hf
          · exact ⟨cur, hf, by omega, by omega⟩
          · obtain ⟨n, g1, g2, g3⟩ := fill_mem hs2 hf
            have g2' : cur < n := g2
            have g3' : n < min en (cur + w) := g3
            have e4' : min en (cur + w) = s.lim := e4
            exact ⟨n, g1, by omega, by omega⟩
        · rw [fill_en, fill_w, fill_dr, fill_o]
          refine ⟨e1, e2, .inr ⟨ho, ho1, .inr ⟨rfl, ?_⟩⟩⟩
          intro f hf
          obtain ⟨n, g1, g2, g3⟩ := fill_mem h1 hf
          have g2' : cur < n := g2
          have g3' : n < min en (cur + w) := g3
          have e4' : min en (cur + w) = s.lim := e4
          exact ⟨n, g1, by omega, by omega⟩
    split
    · exact key { s with dr := true, sa := now } ⟨h.may, h.w, h.k, h.c⟩ ho rfl rfl rfl rfl
    · exact key s h ho rfl rfl rfl rfl

theorem win_rounds (fu : Nat) k1 k4 (w : Int) (hw : 1 ≤ w ∧ w ≤ 64) (cu : Int) (hc : 0 ≤ cu ∧ cu ≤ 1099511627776) (l : List S3) (hlen : l.length ≤ 65) (v : List S4) (x2 x3 : Int) (s : Se) (lim : Int) (hlim : lim ≤ s.en ∧ lim ≤ cu + w)
    (hl : l = [] ∨ s.o = true ∧ (l = [drp cu] ∧ s.dr = true ∨ s.dr = false ∧ ∀ f ∈ l, ∃ n, f = fr n ∧ cu ≤ n ∧ n < lim)) : ∀ (m i : Nat), i ≤ l.length → l.length < i + m →
    law24ServeWindow.l14 fu k1 k4 m w cu l v x2 x3 l l.length i s.b s.w s.o s.ep s.cur s.en s.ma s.dr s.sa s.b s.p s.k s.x s.t = k4 w v x2 x3 s.b s.w s.o s.ep s.cur s.en s.ma s.dr s.sa s.b s.p s.k s.x s.t := by
  obtain ⟨b, w', p, k, x, o, ep, cur, en, ma, dr, sa⟩ := s
  simp only at hlim hl
  intro m
  induction m with
  | zero => intro i h1 h2; omega
  | succ m ih =>
    intro i h1 h2
    unfold law24ServeWindow.l14 law24ServeWindow.b14
    by_cases hil : i < l.length
    · have hl' : (i : Int) < l.length := by omega
      have hix : ixOk l i = true := by simp [ixOk, hil]
      have hmem : ixL ((0 : Int), (0 : Int), (0 : Int), (0 : Int), (0 : Int), [], ()) l i ∈ l := by
        unfold ixL
        simp only [Int.toNat_natCast, List.getD_eq_getElem?_getD, List.getElem?_eq_getElem hil, Option.getD_some]
        exact List.getElem_mem hil
      have e1 : IntKind.i64.wrap ((i : Int) + 1) = (i + 1 : Nat) := wrap_i64 (by omega) (by omega)
      have hi := ih (i + 1) (by omega) (by omega)
      have hdr := dropping_eq fu ⟨b, w', p, k, x, o, ep, cur, en, ma, dr, sa⟩
      simp only [Se.t] at hdr hi ⊢
      simp only [hl', decide_true, cond_true, chk, hix, hdr, Option.bind_some]
      generalize ixL ((0 : Int), (0 : Int), (0 : Int), (0 : Int), (0 : Int), [], ()) l i = e at hmem
      rcases hl with hl | ⟨ho, hl | hl⟩
      · rw [hl] at hil; exact absurd hil (Nat.not_lt_zero _)
      · obtain ⟨hl, hd⟩ := hl
        have he : e = drp cu := by rw [hl] at hmem; exact List.mem_singleton.1 hmem
        have hl1 : l.length = 1 := by rw [hl]; rfl
        subst ho hd he
        have hnl : ((l.length : Int) != 1) = false := by rw [hl1]; rfl
        simp only [drp, hnl, bne_self_eq_false, beq_self_eq_true, cond_true, cond_false, Bool.and_self, Bool.not_true, law24ServeWindow.j18, e1]
        exact hi
      · obtain ⟨hd, hl⟩ := hl
        obtain ⟨n, hn1, hn2, hn3⟩ := hl e hmem
        have ew : IntKind.u64.wrap w = w := wrap_u64 (by omega) (by omega)
        have ec : IntKind.u64.wrap (cu + w) = cu + w := wrap_u64 (by omega) (by omega)
        have g1 : ¬ n < cu := by omega
        have g2 : ¬ n ≥ en := by omega
        have g3 : ¬ n ≥ cu + w := by omega
        subst ho hd hn1
        simp only [fr, show ((5 : Int) == 8) = false from rfl, show ((5 : Int) != 8) = true from rfl, show ((5 : Int) != 5) = false from rfl, cond_false, cond_true, law24ServeWindow.j18, e1, ew, ec, g1, g2, g3, decide_false, hdr, Option.bind_some, Bool.and_false]
        exact hi
    · have : i = l.length := by omega
      subst this
      simp
theorem step_w (s : Se) (h : s.Ok) (o : S4) : (s.step o).w = s.w := by
  unfold Se.step
  split
  · unfold Se.opens; split
    · rfl
    · split <;> rfl
  · split
    · rfl
    · split
      · split <;> rfl
      · split
        · unfold Se.move; split <;> rfl
        · split
          · exact (sends_is h _).2.1
          · split
            · rfl
            · split
              · rfl
              · unfold Se.nack; split <;> rfl
theorem window_rounds (fu : Nat) (hfu : 70 ≤ fu) (k1 : Bool → Option (Bool × Unit)) (k2 : Unit → Option (Bool × Unit)) (w : Int) (v : List S4) (hv : v.length ≤ 150) (hn : ∀ o ∈ v, 0 ≤ o.2.2.1) : ∀ (m i : Nat) (s : Se), s.Ok → s.w = w → i ≤ v.length → v.length < i + m →
    law24ServeWindow.l6 fu k1 k2 m w v v.length i s.b s.w s.o s.ep s.cur s.en s.ma s.dr s.sa s.b s.p s.k s.x s.t = k2 () := by
  intro m
  induction m with
  | zero => intro i s _ _ h1 h2; omega
  | succ m ih =>
    intro i s hs hw h1 h2
    unfold law24ServeWindow.l6 law24ServeWindow.b6
    by_cases hl : i < v.length
    · have hl' : (i : Int) < v.length := by omega
      have hix : ixOk v i = true := by simp [ixOk, hl]
      have hmem : ixL ((0 : Int), (0 : Int), (0 : Int), (0 : Int), (0 : Int), ()) v i ∈ v := by
        unfold ixL
        simp only [Int.toNat_natCast, List.getD_eq_getElem?_getD, List.getElem?_eq_getElem hl, Option.getD_some]
        exact List.getElem_mem hl
      have e1 : IntKind.i64.wrap ((i : Int) + 1) = (i + 1 : Nat) := wrap_i64 (by omega) (by omega)
      rw [show (s.b, s.w, (s.b, s.p, s.k, s.x, ()), s.o, s.ep, s.cur, s.en, s.ma, s.dr, s.sa, ()) = s.t from rfl]
      simp only [hl', decide_true, cond_true, chk, hix]
      have hnn := hn _ hmem
      generalize ixL ((0 : Int), (0 : Int), (0 : Int), (0 : Int), (0 : Int), ()) v i = o at hnn
      cases h4 : (o.1 != (4 : Int)) with
      | true =>
        simp only [cond_true, do_eq fu hfu s hs, Option.bind_some, e1]
        exact ih (i + 1) (s.step o) (hs.step o hnn) ((step_w s hs o).trans hw) (by omega) (by omega)
      | false =>
        simp only [cond_false, cursor_eq, send_eq fu hfu s hs, refSend_eq fu hfu s hs, Option.bind_some]
        have hsi := sends_is hs o.2.2.2.2.1
        have hk := hs.sends o.2.2.2.2.1
        have hlen := sends_len hs o.2.2.2.2.1
        have hc := hs.c
        have hww := hs.w
        generalize s.sends o.2.2.2.2.1 = r at hsi hk hlen
        have hcu : 0 ≤ (if s.o = true then s.cur else 0) ∧ (if s.o = true then s.cur else 0) ≤ 1099511627776 := by split <;> omega
        have hh := win_rounds fu (fun vq19 => k1 vq19) (fun windowq20 vq20 vq20x2 vq20x3 b1q20 c1q20 c1q20x2 c1q20x3 c1q20x4 c1q20x5 c1q20x6 c1q20x7 c1q20x8 b2q20 c2q20 c2q20x2 c2q20x3 b3q20 => 
          let t7 := IntKind.i64.wrap (vq20x3 + (1 : Int))
          law24ServeWindow.l6 fu k1 k2 m windowq20 vq20 vq20x2 t7 b1q20 c1q20 c1q20x2 c1q20x3 c1q20x4 c1q20x5 c1q20x6 c1q20x7 c1q20x8 b2q20 c2q20 c2q20x2 c2q20x3 b3q20) w (by omega) (if s.o = true then s.cur else 0) hcu r.1 hlen v v.length i r.2 (if s.o = true then s.lim else 0)
          (by
            have := hk.c
            unfold Se.lim
            split <;> omega)
          (by
            rcases hsi.2.2 with h | ⟨ho, ho2, h⟩
            · exact .inl h
            · rw [if_pos ho, if_pos ho]; exact .inr ⟨ho2, h⟩) fu 0 (by omega) (by omega)
        refine hh.trans ?_
        simp only [e1]
        exact ih (i + 1) r.2 hk (hsi.2.1.trans hw) (by omega) (by omega)
    · have : i = v.length := by omega
      subst this
      simp

/-- THE LAW. -/
theorem lawServeWindow (b : S0) (w : Int) (ops : List S4) (h : okAll law24ServeWindow.con.ps (b, w, ops, ())) : law24ServeWindow 300 b w ops = some (true, ()) := by
  unfold law24ServeWindow
  rw [servenew_eq, fixed24, refMay24_eq]
  by_cases hm : may23 b = true ∧ 1 ≤ w ∧ w ≤ 64
  · rw [if_pos hm]
    have hlen : (ops.take 150).length ≤ 150 := by rw [List.length_take]; omega
    have := window_rounds 300 (by omega) (fun vq7 => some (vq7, ())) (fun (_ : Unit) => some (true, ())) w (ops.take 150) hlen (ops_ok h.2.2.1) 300 0 (Se.new b w) (Se.Ok.new hm) rfl (by omega) (by omega)
    have e : IntKind.u64.wrap w = w := wrap_u64 (by omega) (by omega)
    simp only [oc, Option.bind_some, e, hm, cond_false, cut_eq, ref24New, show ((0 : Int) != 0) = false from rfl]
    exact this
  · rw [if_neg hm]
    simp [oc, hm]
theorem acks_eq (fu : Nat) (s : Se) (ep n : Int) : serveSessionAcks fu s.t ep n = some ((decide (s.o = true ∧ ep = s.ep ∧ s.cur < n ∧ n ≤ s.ma), ()), (s.t, ())) := by
  unfold serveSessionAcks
  obtain ⟨b, w, p, k, x, o, e, cur, en, ma, dr, sa⟩ := s
  cases o with
  | false => simp [serveSessionIsOpen, Se.t]
  | true =>
    by_cases ha : ep = e
    · by_cases hb : cur < n <;> by_cases hc : n ≤ ma <;> simp [serveSessionIsOpen, Se.t, ha, hb, hc]
    · have ha' : (ep == e) = false := beq_false_of_ne ha
      simp [serveSessionIsOpen, Se.t, ha, ha']
theorem run_get : ∀ (k i : Nat) (a : Int), i < k → ixL ((0 : Int), (0 : Int), (0 : Int), (0 : Int), (0 : Int), [], ()) (run a k) i = fr (a + i) := by
  intro k
  induction k with
  | zero => intro i a h; omega
  | succ k ih =>
    intro i a h
    cases i with
    | zero => simp [ixL, run]
    | succ i =>
      have := ih i (a + 1) (by omega)
      unfold ixL at this ⊢
      simp only [Int.toNat_natCast] at this ⊢
      simp only [run, List.getD_cons_succ]
      rw [this]
      congr 1
      omega
/-- A sending to one who keeps up. -/
theorem flow_send {s : Se} (h : s.Ok) (t : Int) (ho : s.o = true) (hd : s.dr = false) (hp : s.p = true) (hk : s.k = 0) (hx : s.x ≤ t) (hm : s.ma = s.cur) (hlt : s.cur < s.en) (ht : t ≤ 1099511627776) :
    s.sends t = (run s.cur (s.lim - s.cur).toNat, { s with k := 1, x := IntKind.u64.wrap (t + pause23 s.b 1), ma := s.lim }) := by
  have hb := may23Of h.may
  have hw := h.w
  have hc := h.c
  unfold Se.sends
  have hdue : due23 (s.b, s.p, s.k, s.x, ()) t = true := decide_eq_true ⟨hp, by show s.k < s.b.2.2.1; omega, hx⟩
  have e1 : ¬ (s.o = false ∨ s.cur ≥ s.en ∨ t > 1099511627776) := by
    rintro (h | h | h)
    · rw [ho] at h; cases h
    · omega
    · omega
  have e2 : ¬ (s.dr = false ∧ s.k ≥ s.b.2.2.1 ∧ s.x ≤ t) := fun h => by omega
  have e3 : max s.ma (s.cur + 1) = s.cur + 1 := by omega
  have e4 : s.cur + 1 > s.cur := by omega
  have e5 : (s.lim - s.cur).toNat = (s.lim - (s.cur + 1)).toNat + 1 := by unfold Se.lim; omega
  have e6 : IntKind.u32.wrap (s.k + 1) = 1 := by rw [hk]; rfl
  have e7 : max (s.cur + 1) s.lim = s.lim := by unfold Se.lim; omega
  rw [if_neg e1]
  dsimp only
  rw [if_neg e2, if_neg (by rw [hd]; decide), if_pos hdue, e3, e6, e5]
  unfold Se.fill
  rw [if_pos e4]
  show (fr s.cur :: run (s.cur + 1) (s.lim - (s.cur + 1)).toNat, ({ s with k := 1, x := _, ma := max (s.cur + 1) s.lim } : Se)) = _
  rw [e7]
  rfl
theorem flow_inner (fu : Nat) k1 k4 (endv t : Int) (b1 c1 c2 c3 c4 c5 c6 c7 c8 b2 d1 d2 d3) (a : Int) (ha : 0 ≤ a) (ha2 : a < 1000) (k : Nat) (hk : k < 1000) : ∀ (m i : Nat), i ≤ k → k < i + m →
    law24ServeFlows.l11 fu k1 k4 m endv (a + i) t (run a k) (run a k).length i b1 c1 c2 c3 c4 c5 c6 c7 c8 b2 d1 d2 d3 = k4 endv (a + k) t b1 c1 c2 c3 c4 c5 c6 c7 c8 b2 d1 d2 d3 := by
  intro m
  induction m with
  | zero => intro i h1 h2; omega
  | succ m ih =>
    intro i h1 h2
    unfold law24ServeFlows.l11 law24ServeFlows.b11
    rw [run_len]
    by_cases hi : i < k
    · have hi' : (i : Int) < k := by omega
      have hix : ixOk (run a k) i = true := by simp [ixOk, run_len, hi]
      have e1 : IntKind.i64.wrap ((i : Int) + 1) = (i + 1 : Nat) := wrap_i64 (by omega) (by omega)
      have e2 : IntKind.u64.wrap (a + i + 1) = a + (i + 1 : Nat) := by rw [wrap_u64 (by omega) (by omega)]; omega
      have := ih (i + 1) (by omega) (by omega)
      rw [run_len] at this
      simp only [hi', decide_true, cond_true, chk, hix, run_get k i a hi, fr, bne_self_eq_false, cond_false, e1, e2]
      exact this
    · have : i = k := by omega
      subst this
      simp
theorem flow_rounds (fu : Nat) (hfu : 300 ≤ fu) k1 (k2 : Int → Int → S0 → Int → Bool → Int → Int → Int → Int → Bool → Int → S0 → Bool → Int → Int → Option (Bool × Unit)) (endv : Int) (he : endv < 256) (res : Option (Bool × Unit))
    (hk2 : ∀ s : Se, s.Ok → s.o = true → s.cur = endv → s.en = endv → k2 endv endv s.b s.w s.o s.ep s.cur s.en s.ma s.dr s.sa s.b s.p s.k s.x = res) : ∀ (m : Nat) (s : Se) (t : Int), s.Ok → s.o = true → s.ep = 1 → s.dr = false → s.p = true → s.k = 0 → s.x ≤ t → s.ma = s.cur → s.en = endv → 0 ≤ t → t ≤ s.cur → endv - s.cur < m →
    law24ServeFlows.l8 fu k1 k2 m endv s.cur t s.b s.w s.o s.ep s.cur s.en s.ma s.dr s.sa s.b s.p s.k s.x = res := by
  intro m
  induction m with
  | zero =>
    intro s t hs _ _ _ _ _ _ _ h1 _ _ h2
    have := hs.c
    omega
  | succ m ih =>
    intro s t hs ho hep hd hp hk hx hma hen ht0 htc hmm
    have hc := hs.c
    have hw := hs.w
    have e1 : IntKind.u64.wrap endv = endv := wrap_u64 (by omega) (by omega)
    have e2 : IntKind.u64.wrap (endv + 1) = endv + 1 := wrap_u64 (by omega) (by omega)
    unfold law24ServeFlows.l8 law24ServeFlows.b8
    by_cases hlt : s.cur < endv
    · have hle : t ≤ endv + 1 := by omega
      have hsend := flow_send hs t ho hd hp hk hx hma (by omega) (by omega)
      have hl1 : s.cur < s.lim := by unfold Se.lim; omega
      have hl2 : s.lim ≤ endv := by unfold Se.lim; omega
      have hk' := hs.sends t
      have hin := flow_inner fu (fun v => k1 v) (fun endvq16 nextvq16 tvq16 b1q16 c1q16 c1q16x2 c1q16x3 c1q16x4 c1q16x5 c1q16x6 c1q16x7 c1q16x8 b2q16 c2q16 c2q16x2 c2q16x3 => 
          (serveSessionCursor fu (b1q16, c1q16, (b2q16, c2q16, c2q16x2, c2q16x3, ()), c1q16x2, c1q16x3, c1q16x4, c1q16x5, c1q16x6, c1q16x7, c1q16x8, ())).bind fun r4 =>
          let t5 := decide (nextvq16 > r4.1.1)
          cond t5 (
            (serveSessionAcks fu r4.2.1 (1 : Int) nextvq16).bind fun r6 =>
            cond (!r6.1.1) (
              k1 false) (
              (serveSessionMove fu r6.2.1 nextvq16 tvq16).bind fun r7 =>
              cond (!r7.1.1) (
                k1 false) (
                let t8 := IntKind.u64.wrap (tvq16 + (1 : Int))
                law24ServeFlows.l8 fu k1 k2 m endvq16 nextvq16 t8 r7.2.1.1 r7.2.1.2.1 r7.2.1.2.2.2.1 r7.2.1.2.2.2.2.1 r7.2.1.2.2.2.2.2.1 r7.2.1.2.2.2.2.2.2.1 r7.2.1.2.2.2.2.2.2.2.1 r7.2.1.2.2.2.2.2.2.2.2.1 r7.2.1.2.2.2.2.2.2.2.2.2.1 r7.2.1.2.2.1.1 r7.2.1.2.2.1.2.1 r7.2.1.2.2.1.2.2.1 r7.2.1.2.2.1.2.2.2.1))) (
            let t9 := IntKind.u64.wrap (tvq16 + (1 : Int))
            law24ServeFlows.l8 fu k1 k2 m endvq16 nextvq16 t9 r4.2.1.1 r4.2.1.2.1 r4.2.1.2.2.2.1 r4.2.1.2.2.2.2.1 r4.2.1.2.2.2.2.2.1 r4.2.1.2.2.2.2.2.2.1 r4.2.1.2.2.2.2.2.2.2.1 r4.2.1.2.2.2.2.2.2.2.2.1 r4.2.1.2.2.2.2.2.2.2.2.2.1 r4.2.1.2.2.1.1 r4.2.1.2.2.1.2.1 r4.2.1.2.2.1.2.2.1 r4.2.1.2.2.1.2.2.2.1)) endv t
      rw [show (s.b, s.w, (s.b, s.p, s.k, s.x, ()), s.o, s.ep, s.cur, s.en, s.ma, s.dr, s.sa, ()) = s.t from rfl]
      simp only [e1, e2, hle, decide_true, cond_true, hlt, send_eq fu (by omega) s hs, Option.bind_some]
      rw [hsend]
      rw [hsend] at hk'
      simp only at hk'
      have hh := hin s.b s.w s.o s.ep s.cur s.en s.lim s.dr s.sa s.b s.p 1 (IntKind.u64.wrap (t + pause23 s.b 1)) s.cur hc.1 (by omega) (s.lim - s.cur).toNat (by omega) fu 0 (by omega) (by omega)
      rw [show s.cur + ((0 : Nat) : Int) = s.cur by omega] at hh
      refine hh.trans ?_
      generalize hs' : ({ s with k := 1, x := IntKind.u64.wrap (t + pause23 s.b 1), ma := s.lim } : Se) = s' at hk'
      have q : (s.b, s.w, (s.b, s.p, (1 : Int), IntKind.u64.wrap (t + pause23 s.b 1), ()), s.o, s.ep, s.cur, s.en, s.lim, s.dr, s.sa, ()) = s'.t := by rw [← hs']; rfl
      have ho' : s'.o = true := by rw [← hs']; exact ho
      have hc' : s'.cur = s.cur := by rw [← hs']
      have hen' : s'.en = endv := by rw [← hs']; exact hen
      have hma' : s'.ma = s.lim := by rw [← hs']
      have hep' : s'.ep = 1 := by rw [← hs']; exact hep
      have hn : s.cur + ((s.lim - s.cur).toNat : Int) = s.lim := by omega
      have hac : decide (s'.o = true ∧ (1 : Int) = s'.ep ∧ s'.cur < s.lim ∧ s.lim ≤ s'.ma) = true := decide_eq_true ⟨ho', hep'.symm, by omega, by omega⟩
      have hmv : s'.move s.lim t = (true, { s' with cur := s.lim, dr := false, ma := max s'.ma s.lim, p := true, k := 0, x := if s'.ma > s.lim then IntKind.u64.wrap (t + IntKind.u64.wrap s'.b.1) else t }) := by
        unfold Se.move
        rw [if_neg]
        rintro (h | h | h | h)
        · rw [ho'] at h; cases h
        · omega
        · omega
        · omega
      have hmok := hk'.move (n := s.lim) (now := t)
      rw [hmv] at hmok
      have e3 : IntKind.u64.wrap (t + 1) = t + 1 := wrap_u64 (by omega) (by omega)
      have hgd : decide (s.lim > s'.cur) = true := decide_eq_true (by omega)
      simp only [hn]
      rw [q]
      simp only [cursor_eq, Option.bind_some]
      rw [if_pos ho']
      simp only [hgd, cond_true, acks_eq, Option.bind_some, hac, Bool.not_true, cond_false, move_eq, hmv, e3]
      have := ih _ (t + 1) hmok ho' hep' rfl rfl rfl (by
        show (if s'.ma > s.lim then IntKind.u64.wrap (t + IntKind.u64.wrap s'.b.1) else t) ≤ t + 1
        rw [if_neg (by omega)]; omega) (by show max s'.ma s.lim = s.lim; omega) hen' (by omega) (by show t + 1 ≤ s.lim; omega) (by show endv - s.lim < m; omega)
      exact this
    · have hce : s.cur = endv := by omega
      have hkk := hk2 s hs ho hce hen
      have hlt' : ¬ endv < endv := by omega
      rw [← hkk]
      have hd : decide (s.cur < endv) = false := decide_eq_false (by omega)
      simp only [e1, e2, hd, cond_false]
      cases decide (t ≤ endv + 1) <;> simp [hce]

/-- THE LAW. -/
theorem lawServeFlows (b : S0) (w : Int) (e : Int) (h : okAll law24ServeFlows.con.ps (b, w, e, ())) : law24ServeFlows 300 b w e = some (true, ()) := by
  have he : 0 ≤ e ∧ e < 256 := by
    have := h.2.2.1
    simp [Kd.ok, inR, IntKind.min, IntKind.max, IntKind.signed, IntKind.bits] at this
    omega
  unfold law24ServeFlows
  rw [servenew_eq, fixed24, refMay24_eq]
  by_cases hm : may23 b = true ∧ 1 ≤ w ∧ w ≤ 64
  · rw [if_pos hm]
    have ew : IntKind.u64.wrap w = w := wrap_u64 (by omega) (by omega)
    have ee : IntKind.u64.wrap e = e := wrap_u64 (by omega) (by omega)
    have e2 : IntKind.u64.wrap (e + 2) = e + 2 := wrap_u64 (by omega) (by omega)
    have ho := open_eq 300 (Se.new b w) 1 0 e 0
    have hok := (Se.Ok.new hm).opens (ep := 1) (cur := 0) (en := e) (now := 0) (by omega)
    have hop : (Se.new b w).opens 1 0 e 0 = (0, { Se.new b w with o := true, ep := 1, cur := 0, en := e, ma := 0, dr := false, p := true, k := 0, x := 0 }) := by
      unfold Se.opens
      rw [if_neg (by simp [Se.new]), if_neg (by omega)]
    rw [hop] at ho hok
    have q : ((b, w, (b, false, (0 : Int), (0 : Int), ()), false, (0 : Int), (0 : Int), (0 : Int), (0 : Int), false, (0 : Int), ()) : O2) = (Se.new b w).t := rfl
    simp only [oc, Option.bind_some, ew, ee, hm, cond_false, show ((0 : Int) != 0) = false from rfl]
    rw [q, ho]
    simp only [Option.bind_some, show ((0 : Int) != 0) = false from rfl, cond_false]
    refine flow_rounds 300 (by omega) _ _ e he.2 _ ?_ 300 { Se.new b w with o := true, ep := 1, cur := 0, en := e, ma := 0, dr := false, p := true, k := 0, x := 0 } 0 hok rfl rfl rfl rfl rfl (Int.le_refl _) rfl rfl (by omega) (Int.le_refl _) (by show e - 0 < (300 : Nat); omega)
    intro s hs hso hcur hen
    rw [show (s.b, s.w, (s.b, s.p, s.k, s.x, ()), s.o, s.ep, s.cur, s.en, s.ma, s.dr, s.sa, ()) = s.t from rfl]
    have hse : s.sends (e + 2) = ([], s) := by
      unfold Se.sends
      rw [if_pos (.inr (.inl (by omega)))]
    simp only [ee, e2, beq_self_eq_true, cond_true, cursor_eq, Option.bind_some, hso, if_true, hcur, send_eq 300 (by omega) s hs, hse]
    rfl
  · rw [if_neg hm]
    simp [oc, hm]
def isAt (c : Int) (f : S3) : Bool := f.2.2.2.1 == c
theorem again_inner (fu : Nat) k1 k4 (c al at' due n t : Int) (b0 b1 c1 c2 c3 c4 c5 c6 c7 c8 b2 d1 d2 d3) (hc : IntKind.u64.wrap c = c) (l : List S3) (hl : l.length ≤ 65) (hf : ∀ f ∈ l, ∃ x, f = fr x) : ∀ (m i : Nat) (h : Nat), h ≤ i → i ≤ l.length → l.length < i + m →
    law24ServeAgain.l16 fu k1 k4 m c al at' due n t h l l.length i b0 b1 c1 c2 c3 c4 c5 c6 c7 c8 b2 d1 d2 d3 = k4 c al at' due n t (h + (l.drop i).countP (isAt c) : Nat) b0 b1 c1 c2 c3 c4 c5 c6 c7 c8 b2 d1 d2 d3 := by
  intro m
  induction m with
  | zero => intro i h _ h1 h2; omega
  | succ m ih =>
    intro i h h0 h1 h2
    unfold law24ServeAgain.l16 law24ServeAgain.b16
    by_cases hi : i < l.length
    · have hi' : (i : Int) < l.length := by omega
      have hix : ixOk l i = true := by simp [ixOk, hi]
      have hge : ixL ((0 : Int), (0 : Int), (0 : Int), (0 : Int), (0 : Int), [], ()) l i = l[i] := by
        unfold ixL
        simp [List.getElem?_eq_getElem hi]
      have e1 : IntKind.i64.wrap ((i : Int) + 1) = (i + 1 : Nat) := wrap_i64 (by omega) (by omega)
      have e2 : IntKind.i64.wrap ((h : Int) + 1) = (h + 1 : Nat) := wrap_i64 (by omega) (by omega)
      obtain ⟨x, hx⟩ := hf _ (List.getElem_mem hi)
      rw [List.drop_eq_getElem_cons hi, List.countP_cons, hx]
      simp only [hi', decide_true, cond_true, chk, hix, hge, hx, fr, show ((5 : Int) == 8) = false from rfl, cond_false, hc]
      cases hxc : (x == c) with
      | true =>
        have hat : isAt c ((5 : Int), (0 : Int), (0 : Int), x, (0 : Int), [], ()) = true := hxc
        have := ih (i + 1) (h + 1) (by omega) (by omega) (by omega)
        simp only [cond_true, e1, e2, hat, if_true]
        rw [this]
        rw [show h + ((l.drop (i + 1)).countP (isAt c) + 1) = h + 1 + (l.drop (i + 1)).countP (isAt c) by omega]
      | false =>
        have hat : isAt c ((5 : Int), (0 : Int), (0 : Int), x, (0 : Int), [], ()) = false := hxc
        have := ih (i + 1) h (by omega) (by omega) (by omega)
        simp only [cond_false, e1, hat, Bool.false_eq_true, if_false]
        rw [this]
        rfl
    · have : i = l.length := by omega
      subst this
      simp
theorem fill_count {s : Se} (h : s.Ok) (c : Int) (hc : c ≤ s.cur) : s.fill.1.countP (isAt c) = 0 := by
  rw [List.countP_eq_zero]
  intro f hf
  obtain ⟨n, h1, h2, h3⟩ := fill_mem h hf
  rw [h1]
  simp only [isAt, fr, beq_iff_eq]
  omega

theorem pause_pos {b : S0} (hm : may23 b = true) (n : Int) (hn : n ≠ 0) : 1 ≤ pause23 b n ∧ pause23 b n ≤ 1048576 := by
  have h := may23Of hm
  unfold pause23
  rw [if_neg (by simp [hm, hn])]
  have hq := pow20 (n - 1).toNat
  unfold min2
  have : b.1 * 1 ≤ b.1 * 2 ^ min (n - 1).toNat 20 := Int.mul_le_mul_of_nonneg_left hq.1 (by omega)
  split <;> omega
theorem sum_step {b : S0} (hm : may23 b = true) : ∀ k : Nat, k ≤ 64 → 0 ≤ sum23 b k ∧ sum23 b k ≤ k * 1048576 ∧ (k + 1 ≤ 64 → sum23 b (k + 1) = sum23 b k + pause23 b (k + 1 : Nat)) := by
  intro k
  have key : ∀ k : Nat, k ≤ 64 → 0 ≤ sum23 b k ∧ sum23 b k ≤ k * 1048576 := by
    intro k
    induction k with
    | zero => intro _; simp [sum23]
    | succ k ih =>
      intro hk
      have ⟨i1, i2⟩ := ih (by omega)
      have hp := pause_pos hm (k + 1 : Nat) (by omega)
      have e5 : sum23 b (k + 1) = sum23 b k + pause23 b (k + 1 : Nat) := by
        rw [sum23, wrap_u64 (by omega) (by omega)]
      rw [e5]
      omega
  intro hk
  have ⟨i1, i2⟩ := key k hk
  refine ⟨i1, i2, fun h => ?_⟩
  have hp := pause_pos hm (k + 1 : Nat) (by omega)
  rw [sum23, wrap_u64 (by omega) (by omega)]
theorem sum_mono {b : S0} (hm : may23 b = true) : ∀ (d k : Nat), k + d ≤ 64 → sum23 b k + d ≤ sum23 b (k + d) := by
  intro d
  induction d with
  | zero => intro k _; simp
  | succ d ih =>
    intro k h
    have h1 := ih k (by omega)
    have h2 := (sum_step hm (k + d) (by omega)).2.2 (by omega)
    have hp := pause_pos hm (k + d + 1 : Nat) (by omega)
    rw [show k + (d + 1) = k + d + 1 by omega, h2]
    omega

theorem again_rounds (fu : Nat) (hfu : 70 ≤ fu) k1 (k2 : Int → Int → Int → Int → S0 → S0 → Int → Bool → Int → Int → Int → Int → Bool → Int → S0 → Bool → Int → Int → Option (Bool × Unit)) (b : S0) (hm : may23 b = true) (c en at' : Int) (hc : 0 ≤ c ∧ c < en ∧ en < 4294967296) (ha : 0 ≤ at' ∧ at' < 4294967296) (tr : Nat) (htr : b.2.2.1 = tr) (hall : sum23 b tr ≤ 2000) (res : Option (Bool × Unit))
    (hk2 : ∀ s : Se, s.Ok → s.o = true → s.dr = false → s.k = tr → s.x = at' + sum23 b tr → s.cur = c → s.en = en → s.b = b → k2 c (sum23 b tr) at' tr b s.b s.w s.o s.ep s.cur s.en s.ma s.dr s.sa s.b s.p s.k s.x = res) : ∀ (m : Nat) (s : Se) (t : Int) (n : Nat), s.Ok → s.o = true → s.dr = false → s.p = true → s.k = n → n ≤ tr → s.x = at' + sum23 b n → s.cur = c → s.en = en → s.b = b → at' ≤ t → t ≤ s.x → at' + sum23 b tr - t < m →
    law24ServeAgain.l12 fu k1 k2 m c (sum23 b tr) at' s.x s.k t b s.b s.w s.o s.ep s.cur s.en s.ma s.dr s.sa s.b s.p s.k s.x = res := by
  have hmb := may23Of hm
  intro m
  induction m with
  | zero =>
    intro s t n hs ho hd hp hk hn hx hcu hen hb h1 h2 h3
    exfalso
    have := sum_mono hm (tr - n) n (by omega)
    rw [show n + (tr - n) = tr by omega] at this
    omega
  | succ m ih =>
    intro s t n hs ho hd hp hk hn hx hcu hen hb h1 h2 h3
    have hsum := sum_step hm n (by omega)
    have hsumt := sum_step hm tr (by omega)
    have hsm := sum_mono hm (tr - n) n (by omega)
    rw [show n + (tr - n) = tr by omega] at hsm
    have e1 : IntKind.u64.wrap (at' + sum23 b tr) = at' + sum23 b tr := wrap_u64 (by omega) (by omega)
    have ec : IntKind.u64.wrap c = c := wrap_u64 (by omega) (by omega)
    unfold law24ServeAgain.l12 law24ServeAgain.b12
    by_cases hlt : t < at' + sum23 b tr
    · have e2 : IntKind.u64.wrap (t + 1) = t + 1 := wrap_u64 (by omega) (by omega)
      have hok := hs.sends t
      have hlen := sends_len hs t
      have hsc := hs.c
      have hno : ¬ (s.o = false ∨ s.cur ≥ s.en ∨ t > 1099511627776) := by
        rintro (h | h | h)
        · rw [ho] at h; cases h
        · omega
        · omega
      rw [show (s.b, s.w, (s.b, s.p, s.k, s.x, ()), s.o, s.ep, s.cur, s.en, s.ma, s.dr, s.sa, ()) = s.t from rfl]
      simp only [e1, hlt, decide_true, cond_true, send_eq fu hfu s hs, Option.bind_some]
      by_cases hdue : t = s.x
      · -- a try
        have hntr : n < tr := by
          rcases Nat.lt_or_ge n tr with h | h
          · exact h
          · have : n = tr := by omega
            rw [this] at hx; omega
        have hu : due23 (s.b, s.p, s.k, s.x, ()) t = true := decide_eq_true ⟨hp, by show s.k < s.b.2.2.1; rw [hb]; omega, by show s.x ≤ t; omega⟩
        have e3 : IntKind.u32.wrap (s.k + 1) = (n + 1 : Nat) := by rw [hk, wrap_u32 (by omega) (by omega)]; rfl
        have hps := pause_pos hm (n + 1 : Nat) (by omega)
        have hs1 := hsum.2.2 (by omega)
        have e4 : IntKind.u64.wrap (t + pause23 s.b (n + 1 : Nat)) = at' + sum23 b (n + 1) := by
          rw [hb, wrap_u64 (by omega) (by omega)]; omega
        have hsend : s.sends t = (fr s.cur :: ({ s with k := (n + 1 : Nat), x := at' + sum23 b (n + 1), ma := max s.ma (s.cur + 1) } : Se).fill.1, ({ s with k := (n + 1 : Nat), x := at' + sum23 b (n + 1), ma := max s.ma (s.cur + 1) } : Se).fill.2) := by
          unfold Se.sends
          rw [if_neg hno]
          dsimp only
          rw [if_neg (show ¬ (s.dr = false ∧ s.k ≥ s.b.2.2.1 ∧ s.x ≤ t) from fun h => by have := h.2.1; rw [hb] at this; omega), if_neg (by rw [hd]; decide), if_pos hu, e3, e4]
        have hs2 : ({ s with k := (n + 1 : Nat), x := at' + sum23 b (n + 1), ma := max s.ma (s.cur + 1) } : Se).Ok := by
          refine ⟨hs.may, hs.w, ?_, ?_⟩
          · show 0 ≤ ((n + 1 : Nat) : Int) ∧ ((n + 1 : Nat) : Int) ≤ s.b.2.2.1
            rw [hb]; omega
          · show 0 ≤ s.cur ∧ s.cur ≤ max s.ma (s.cur + 1) ∧ max s.ma (s.cur + 1) ≤ s.en ∧ s.en ≤ 1099511627776
            omega
        generalize hs' : ({ s with k := (n + 1 : Nat), x := at' + sum23 b (n + 1), ma := max s.ma (s.cur + 1) } : Se) = s' at hsend hs2
        have hcu' : s'.cur = c := by rw [← hs']; exact hcu
        have hcnt : (s.sends t).1.countP (isAt c) = 1 := by
          rw [hsend]
          simp only [List.countP_cons, fill_count hs2 c (by omega), isAt, fr, hcu, beq_self_eq_true, if_true]
        have hf : ∀ f ∈ (s.sends t).1, ∃ x, f = fr x := by
          rw [hsend]
          intro f hf
          rcases List.mem_cons.1 hf with hf | hf
          · exact ⟨_, hf⟩
          · obtain ⟨x, hx, _⟩ := fill_mem hs2 hf
            exact ⟨x, hx⟩
        have hin := again_inner fu (fun vq19 => k1 vq19) (fun cursorq20 allq20 atvq20 dueq20 nq20 tvq20 headq20 b0q20 b1q20 c1q20 c1q20x2 c1q20x3 c1q20x4 c1q20x5 c1q20x6 c1q20x7 c1q20x8 b2q20 c2q20 c2q20x2 c2q20x3 => 
          cond (tvq20 == dueq20) (
            let t3 := decide (nq20 < b0q20.2.2.1)
            law24ServeAgain.j99025 fu (fun cursorq23 allq23 atvq23 dueq23 nq23 tvq23 headq23 wantq23 b0q23 b1q23 c1q23 c1q23x2 c1q23x3 c1q23x4 c1q23x5 c1q23x6 c1q23x7 c1q23x8 b2q23 c2q23 c2q23x2 c2q23x3 => 
                cond (headq23 != wantq23) (
                  k1 false) (
                  let t4 := IntKind.u64.wrap (tvq23 + (1 : Int))
                  law24ServeAgain.l12 fu k1 k2 m cursorq23 allq23 atvq23 dueq23 nq23 t4 b0q23 b1q23 c1q23 c1q23x2 c1q23x3 c1q23x4 c1q23x5 c1q23x6 c1q23x7 c1q23x8 b2q23 c2q23 c2q23x2 c2q23x3)) cursorq20 allq20 atvq20 dueq20 nq20 tvq20 headq20 (0 : Int) t3 b0q20 b1q20 c1q20 c1q20x2 c1q20x3 c1q20x4 c1q20x5 c1q20x6 c1q20x7 c1q20x8 b2q20 c2q20 c2q20x2 c2q20x3) (
            law24ServeAgain.j99025 fu (fun cursorq24 allq24 atvq24 dueq24 nq24 tvq24 headq24 wantq24 b0q24 b1q24 c1q24 c1q24x2 c1q24x3 c1q24x4 c1q24x5 c1q24x6 c1q24x7 c1q24x8 b2q24 c2q24 c2q24x2 c2q24x3 => 
                cond (headq24 != wantq24) (
                  k1 false) (
                  let t5 := IntKind.u64.wrap (tvq24 + (1 : Int))
                  law24ServeAgain.l12 fu k1 k2 m cursorq24 allq24 atvq24 dueq24 nq24 t5 b0q24 b1q24 c1q24 c1q24x2 c1q24x3 c1q24x4 c1q24x5 c1q24x6 c1q24x7 c1q24x8 b2q24 c2q24 c2q24x2 c2q24x3)) cursorq20 allq20 atvq20 dueq20 nq20 tvq20 headq20 (0 : Int) false b0q20 b1q20 c1q20 c1q20x2 c1q20x3 c1q20x4 c1q20x5 c1q20x6 c1q20x7 c1q20x8 b2q20 c2q20 c2q20x2 c2q20x3)) c (sum23 b tr) at' s.x s.k t b (s.sends t).2.b (s.sends t).2.w (s.sends t).2.o (s.sends t).2.ep (s.sends t).2.cur (s.sends t).2.en (s.sends t).2.ma (s.sends t).2.dr (s.sends t).2.sa (s.sends t).2.b (s.sends t).2.p (s.sends t).2.k (s.sends t).2.x ec (s.sends t).1 hlen hf fu 0 0 (Nat.le_refl _) (Nat.zero_le _) (by omega)
        refine hin.trans ?_
        rw [List.drop_zero, hcnt]
        have hlt2 : s.k < b.2.2.1 := by omega
        have hpe := ref23Pause_eq fu (by omega) b ((n + 1 : Nat) : Int) (inR_nat (by omega))
        have e5 : IntKind.u64.wrap (s.x + pause23 b (n + 1 : Nat)) = at' + sum23 b (n + 1) := by
          rw [wrap_u64 (by omega) (by omega)]; omega
        have hbq : (t == s.x) = true := by rw [hdue]; exact beq_self_eq_true _
        simp only [hbq, cond_true, hlt2, decide_true, law24ServeAgain.j99025, e3, hpe, Option.bind_some, e5, e2]
        rw [hsend, show (((0 + 1 : Nat) : Int) != 1) = false from rfl, cond_false]
        rw [hsend] at hok
        have g1 : s'.fill.2.o = true := by rw [fill_o, ← hs']; exact ho
        have g2 : s'.fill.2.dr = false := by rw [fill_dr, ← hs']; exact hd
        have g3 : s'.fill.2.p = true := by rw [fill_rest, ← hs']; exact hp
        have g4 : s'.fill.2.k = (n + 1 : Nat) := by rw [fill_k, ← hs']
        have g5 : s'.fill.2.x = at' + sum23 b (n + 1) := by rw [fill_x, ← hs']
        have g6 : s'.fill.2.cur = c := by rw [fill_rest]; exact hcu'
        have g7 : s'.fill.2.en = en := by rw [fill_en, ← hs']; exact hen
        have g8 : s'.fill.2.b = b := by rw [fill_rest, ← hs']; exact hb
        have := ih s'.fill.2 (t + 1) (n + 1) hok g1 g2 g3 g4 (by omega) g5 g6 g7 g8 (by omega) (by omega) (by omega)
        simp only [g4, g5] at this ⊢
        exact this
      · -- nothing at the cursor
        have hu : ¬ due23 (s.b, s.p, s.k, s.x, ()) t = true := fun h => by
          have h := of_decide_eq_true h
          have h3 : s.x ≤ t := h.2.2
          omega
        have hsend : s.sends t = s.fill := by
          unfold Se.sends
          rw [if_neg hno]
          dsimp only
          rw [if_neg (show ¬ (s.dr = false ∧ s.k ≥ s.b.2.2.1 ∧ s.x ≤ t) from fun h => by have := h.2.2; omega), if_neg (by rw [hd]; decide), if_neg hu]
        have hcnt : (s.sends t).1.countP (isAt c) = 0 := by
          rw [hsend]
          exact fill_count hs c (by omega)
        have hf : ∀ f ∈ (s.sends t).1, ∃ x, f = fr x := by
          rw [hsend]
          intro f hf
          obtain ⟨x, hx, _⟩ := fill_mem hs hf
          exact ⟨x, hx⟩
        have hin := again_inner fu (fun vq19 => k1 vq19) (fun cursorq20 allq20 atvq20 dueq20 nq20 tvq20 headq20 b0q20 b1q20 c1q20 c1q20x2 c1q20x3 c1q20x4 c1q20x5 c1q20x6 c1q20x7 c1q20x8 b2q20 c2q20 c2q20x2 c2q20x3 => 
          cond (tvq20 == dueq20) (
            let t3 := decide (nq20 < b0q20.2.2.1)
            law24ServeAgain.j99025 fu (fun cursorq23 allq23 atvq23 dueq23 nq23 tvq23 headq23 wantq23 b0q23 b1q23 c1q23 c1q23x2 c1q23x3 c1q23x4 c1q23x5 c1q23x6 c1q23x7 c1q23x8 b2q23 c2q23 c2q23x2 c2q23x3 => 
                cond (headq23 != wantq23) (
                  k1 false) (
                  let t4 := IntKind.u64.wrap (tvq23 + (1 : Int))
                  law24ServeAgain.l12 fu k1 k2 m cursorq23 allq23 atvq23 dueq23 nq23 t4 b0q23 b1q23 c1q23 c1q23x2 c1q23x3 c1q23x4 c1q23x5 c1q23x6 c1q23x7 c1q23x8 b2q23 c2q23 c2q23x2 c2q23x3)) cursorq20 allq20 atvq20 dueq20 nq20 tvq20 headq20 (0 : Int) t3 b0q20 b1q20 c1q20 c1q20x2 c1q20x3 c1q20x4 c1q20x5 c1q20x6 c1q20x7 c1q20x8 b2q20 c2q20 c2q20x2 c2q20x3) (
            law24ServeAgain.j99025 fu (fun cursorq24 allq24 atvq24 dueq24 nq24 tvq24 headq24 wantq24 b0q24 b1q24 c1q24 c1q24x2 c1q24x3 c1q24x4 c1q24x5 c1q24x6 c1q24x7 c1q24x8 b2q24 c2q24 c2q24x2 c2q24x3 => 
                cond (headq24 != wantq24) (
                  k1 false) (
                  let t5 := IntKind.u64.wrap (tvq24 + (1 : Int))
                  law24ServeAgain.l12 fu k1 k2 m cursorq24 allq24 atvq24 dueq24 nq24 t5 b0q24 b1q24 c1q24 c1q24x2 c1q24x3 c1q24x4 c1q24x5 c1q24x6 c1q24x7 c1q24x8 b2q24 c2q24 c2q24x2 c2q24x3)) cursorq20 allq20 atvq20 dueq20 nq20 tvq20 headq20 (0 : Int) false b0q20 b1q20 c1q20 c1q20x2 c1q20x3 c1q20x4 c1q20x5 c1q20x6 c1q20x7 c1q20x8 b2q20 c2q20 c2q20x2 c2q20x3)) c (sum23 b tr) at' s.x s.k t b (s.sends t).2.b (s.sends t).2.w (s.sends t).2.o (s.sends t).2.ep (s.sends t).2.cur (s.sends t).2.en (s.sends t).2.ma (s.sends t).2.dr (s.sends t).2.sa (s.sends t).2.b (s.sends t).2.p (s.sends t).2.k (s.sends t).2.x ec (s.sends t).1 hlen hf fu 0 0 (Nat.le_refl _) (Nat.zero_le _) (by omega)
        refine hin.trans ?_
        rw [List.drop_zero, hcnt]
        have hbq : (t == s.x) = false := beq_false_of_ne hdue
        simp only [hbq, cond_false, law24ServeAgain.j99025, e2]
        rw [hsend, show (((0 + 0 : Nat) : Int) != 0) = false from rfl, cond_false]
        rw [hsend] at hok
        have g1 : s.fill.2.o = true := by rw [fill_o]; exact ho
        have g2 : s.fill.2.dr = false := by rw [fill_dr]; exact hd
        have g3 : s.fill.2.p = true := by rw [fill_rest]; exact hp
        have g4 : s.fill.2.k = n := by rw [fill_k]; exact hk
        have g5 : s.fill.2.x = at' + sum23 b n := by rw [fill_x]; exact hx
        have g6 : s.fill.2.cur = c := by rw [fill_rest]; exact hcu
        have g7 : s.fill.2.en = en := by rw [fill_en]; exact hen
        have g8 : s.fill.2.b = b := by rw [fill_rest]; exact hb
        have := ih s.fill.2 (t + 1) n hok g1 g2 g3 g4 hn g5 g6 g7 g8 (by omega) (by omega) (by omega)
        simp only [g4, g5, hk, hx] at this ⊢
        exact this
    · have hnt : n = tr := by omega
      have hd0 : decide (t < at' + sum23 b tr) = false := decide_eq_false hlt
      subst hnt
      simp only [e1, hd0, cond_false]
      have := hk2 s hs ho hd hk hx hcu hen hb
      rw [hk] at this ⊢
      exact this
theorem fixed24b : law24Fixed 2100 = some (true, ()) := by kernel_rfl

/-- THE LAW. -/
theorem lawServeAgain (b : S0) (w c e now : Int) (h : okAll law24ServeAgain.con.ps (b, w, c, e, now, ())) : law24ServeAgain 2100 b w c e now = some (true, ()) := by
  have hc := u32Of h.2.2.1
  have he := u32Of h.2.2.2.1
  have hn := u32Of h.2.2.2.2.1
  simp only at hc he hn
  unfold law24ServeAgain
  rw [servenew_eq, fixed24b, refMay24_eq]
  by_cases hm : may23 b = true ∧ 1 ≤ w ∧ w ≤ 64
  · rw [if_pos hm]
    have hmb := may23Of hm.1
    obtain ⟨tr, htr⟩ : ∃ t : Nat, b.2.2.1 = t := ⟨b.2.2.1.toNat, by omega⟩
    have ea : all23 b = sum23 b tr := by unfold all23; rw [if_pos hm.1, htr]; rfl
    have ew : IntKind.u64.wrap w = w := wrap_u64 (by omega) (by omega)
    have ec : IntKind.u64.wrap c = c := wrap_u64 (by omega) (by omega)
    have ee : IntKind.u64.wrap e = e := wrap_u64 (by omega) (by omega)
    have en : IntKind.u64.wrap now = now := wrap_u64 (by omega) (by omega)
    simp only [oc, Option.bind_some, ew, hm, cond_false, show ((0 : Int) != 0) = false from rfl, ref23All_eq 2100 (by omega), ec, ee, en, ea]
    by_cases hce : c ≥ e
    · simp [hce]
    · by_cases hal : sum23 b tr > 2000
      · simp [hce, hal]
      · have ho := open_eq 2100 (Se.new b w) 7 c e now
        have hok := (Se.Ok.new hm).opens (ep := 7) (cur := c) (en := e) (now := now) (by omega)
        have hop : (Se.new b w).opens 7 c e now = (0, { Se.new b w with o := true, ep := 7, cur := c, en := e, ma := c, dr := false, p := true, k := 0, x := now }) := by
          unfold Se.opens
          rw [if_neg (by simp [Se.new]), if_neg (by omega)]
        rw [hop] at ho hok
        have q : ((b, w, (b, false, (0 : Int), (0 : Int), ()), false, (0 : Int), (0 : Int), (0 : Int), (0 : Int), false, (0 : Int), ()) : O2) = (Se.new b w).t := rfl
        have hsumt := sum_step hm.1 tr (by omega)
        simp only [hce, hal, decide_false, cond_false]
        rw [q, ho]
        simp only [Option.bind_some, show ((0 : Int) != 0) = false from rfl, cond_false]
        refine again_rounds 2100 (by omega) _ _ b hm.1 c e now (by omega) hn tr htr (by omega) _ ?_ 2100 { Se.new b w with o := true, ep := 7, cur := c, en := e, ma := c, dr := false, p := true, k := 0, x := now } now 0 hok rfl rfl rfl rfl (Nat.zero_le _) (by show now = now + sum23 b 0; simp [sum23]) rfl rfl rfl (Int.le_refl _) (Int.le_refl _) (by omega)
        intro s hs hso hsd hsk hsx hcur hen hsb
        rw [show (s.b, s.w, (s.b, s.p, s.k, s.x, ()), s.o, s.ep, s.cur, s.en, s.ma, s.dr, s.sa, ()) = s.t from rfl]
        have e1 : IntKind.u64.wrap (now + sum23 b tr) = now + sum23 b tr := wrap_u64 (by omega) (by omega)
        have e2 : IntKind.u64.wrap b.1 = b.1 := wrap_u64 (by omega) (by omega)
        have e3 : IntKind.u64.wrap (now + sum23 b tr + b.1) = now + sum23 b tr + b.1 := wrap_u64 (by omega) (by omega)
        have hse : s.sends (now + sum23 b tr) = ([drp c], { s with dr := true, sa := now + sum23 b tr + b.1 }) := by
          unfold Se.sends
          rw [if_neg]
          · dsimp only
            rw [if_pos (show s.dr = false ∧ s.k ≥ s.b.2.2.1 ∧ s.x ≤ now + sum23 b tr from ⟨hsd, by rw [hsb, htr]; omega, by omega⟩)]
            dsimp only
            rw [if_pos rfl, if_pos (Int.le_refl _), hsb, e2, e3, hcur]
          · rintro (h | h | h)
            · rw [hso] at h; cases h
            · omega
            · omega
        have hok2 := hs.sends (now + sum23 b tr)
        rw [hse] at hok2
        have hse2 : ({ s with dr := true, sa := now + sum23 b tr + b.1 } : Se).sends (now + sum23 b tr) = ([], { s with dr := true, sa := now + sum23 b tr + b.1 }) := by
          unfold Se.sends
          rw [if_neg]
          · dsimp only
            rw [if_neg (show ¬ (true = false ∧ s.k ≥ s.b.2.2.1 ∧ s.x ≤ now + sum23 b tr) from fun h => by cases h.1), if_pos rfl, if_neg (by show ¬ now + sum23 b tr + b.1 ≤ now + sum23 b tr; omega)]
          · rintro (h | h | h)
            · rw [hso] at h; cases h
            · have h : s.cur ≥ s.en := h
              omega
            · omega
        have hdrp := dropping_eq 2100 ({ s with dr := true, sa := now + sum23 b tr + b.1 } : Se)
        have hse3 := send_eq 2100 (by omega) ({ s with dr := true, sa := now + sum23 b tr + b.1 } : Se) hok2 (now + sum23 b tr)
        rw [hse2] at hse3
        simp only [hso, Bool.and_true] at hdrp
        simp only [e1, send_eq 2100 (by omega) s hs, hse, Option.bind_some, cond_true, htr, beq_self_eq_true]
        simp only [List.length_cons, List.length_nil, show (((0 + 1 : Nat) : Int) == 1) = true from rfl, cond_true, show ixOk [drp c] (0 : Int) = true from rfl, chk, show (ixL ((0 : Int), (0 : Int), (0 : Int), (0 : Int), (0 : Int), [], ()) [drp c] (0 : Int)) = drp c from rfl]
        simp only [drp, show ((8 : Int) == 8) = true from rfl, cond_true, ec, beq_self_eq_true]
        simp only [hso] at hse3
        simp only [hdrp, hse3, Option.bind_some, cond_true, hso]
        rfl
  · rw [if_neg hm]
    simp [oc, hm]
/-- THE LAW. -/
theorem lawServeNil (o : S4) (_ : okAll law24ServeNil.con.ps (o, ())) : law24ServeNil 300 o = some (true, ()) := by
  unfold law24ServeNil
  rw [fixed24]
  simp [serveSessionShutNil, serveSessionGrowNil, serveSessionIsOpenNil, serveSessionOpenNil, serveSessionMoveNil, serveSessionSendNil, serveSessionAcksNil, serveSessionDropsNil, serveSessionNackNil, serveSessionEpochNil, serveSessionCursorNil, serveSessionDroppingNil]
end Go.Shal.Pr
