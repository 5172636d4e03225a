/- The plain laws of records' frames: what the printed functions compute is the document's. No condition but that the arguments fit their types. By an AI agent. -/
import Derived.Test.YtpfmaljnnhammaaDoorGen08
set_option linter.unusedVariables false
namespace Go.Shal.Pr
open Go Go.Shal Go.Proofs
theorem wrap_i64 {x : Int} (h0 : -9223372036854775808 ≤ x) (h1 : x < 9223372036854775808) : IntKind.i64.wrap x = x := by
  simp only [IntKind.wrap, IntKind.signed, IntKind.bits]
  simp
  omega
theorem wrap_u32 {x : Int} (h0 : 0 ≤ x) (h1 : x < 4294967296) : IntKind.u32.wrap x = x := by
  simp only [IntKind.wrap, IntKind.signed, IntKind.bits]
  simp
  omega
theorem ixL_get {l : List Int} {i : Nat} (h : i < l.length) : ixL (0 : Int) l i = l[i] := by
  unfold ixL
  simp [List.getElem?_eq_getElem h]
/-- Rows of 32 bits. -/
abbrev B32 := BitVec 32
def wv (a : B32) : Int := (a.toNat : Int)
theorem wv_lt (a : B32) : 0 ≤ wv a ∧ wv a < 4294967296 := by have := a.isLt; unfold wv; omega
theorem ofInt_wv (a : B32) : BitVec.ofInt 32 (wv a) = a := by
  unfold wv
  rw [BitVec.ofInt_natCast, BitVec.ofNat_toNat, BitVec.setWidth_eq]
theorem wv_ofInt {x : Int} (h0 : 0 ≤ x) (h1 : x < 4294967296) : wv (BitVec.ofInt 32 x) = x := by
  obtain ⟨n, rfl⟩ := Int.eq_ofNat_of_zero_le h0
  show ((BitVec.ofInt 32 (n : Int)).toNat : Int) = n
  rw [BitVec.ofInt_natCast, BitVec.toNat_ofNat, Nat.mod_eq_of_lt (by omega)]
theorem xor_wv (a b : B32) : bXor .u32 (wv a) (wv b) = wv (a ^^^ b) := by
  show IntKind.u32.wrap (((BitVec.ofInt 32 (wv a) ^^^ BitVec.ofInt 32 (wv b)).toNat : Nat) : Int) = _
  rw [ofInt_wv, ofInt_wv]
  exact wrap_u32 (wv_lt _).1 (wv_lt _).2
theorem and_wv (a b : B32) : bAnd .u32 (wv a) (wv b) = wv (a &&& b) := by
  show IntKind.u32.wrap (((BitVec.ofInt 32 (wv a) &&& BitVec.ofInt 32 (wv b)).toNat : Nat) : Int) = _
  rw [ofInt_wv, ofInt_wv]
  exact wrap_u32 (wv_lt _).1 (wv_lt _).2
theorem not_wv (a : B32) : bNot .u32 (wv a) = wv (a ^^^ 4294967295#32) := by
  have e : bNot .u32 (wv a) = bXor .u32 4294967295 (wv a) := rfl
  rw [e, show (4294967295 : Int) = wv 4294967295#32 from rfl, xor_wv, BitVec.xor_comm]
theorem shr_wv (a : B32) (k : Nat) (hk : k < 32) : sShr .u32 (wv a) (k : Int) = wv (a >>> k) := by
  unfold sShr
  have e : min (k : Int).toNat IntKind.u32.bits = k := by simp only [IntKind.bits]; omega
  rw [e]
  unfold wv
  rw [BitVec.toNat_ushiftRight, Nat.shiftRight_eq_div_pow, Int.fdiv_eq_ediv_of_nonneg _ (by exact_mod_cast Nat.zero_le _), Int.natCast_ediv, Int.natCast_pow]
  rfl
/-- One bit falls out. -/
def pol : B32 := 3988292384#32
def st1 (r : B32) : B32 := (r >>> 1) ^^^ (if r.getLsbD 0 = true then pol else 0#32)
theorem st1_xor (a b : B32) : st1 (a ^^^ b) = st1 a ^^^ st1 b := by
  unfold st1
  rw [BitVec.ushiftRight_xor_distrib, BitVec.getLsbD_xor]
  have e : (if (a.getLsbD 0 ^^ b.getLsbD 0) = true then pol else 0#32) = (if a.getLsbD 0 = true then pol else 0#32) ^^^ (if b.getLsbD 0 = true then pol else 0#32) := by
    cases a.getLsbD 0 <;> cases b.getLsbD 0 <;> simp
  rw [e]
  ac_rfl
def st4 (r : B32) : B32 := st1 (st1 (st1 (st1 r)))
theorem st4_xor (a b : B32) : st4 (a ^^^ b) = st4 a ^^^ st4 b := by unfold st4; simp only [st1_xor]
def tabB (m : B32) : B32 := BitVec.ofInt 32 (ixL (0 : Int) tabCrcHalves (wv m))
theorem st1_even {a : B32} (h : a.getLsbD 0 = false) : st1 a = a >>> 1 := by unfold st1; rw [h]; simp
theorem st4_high (r : B32) : st4 (r &&& 4294967280#32) = r >>> 4 := by
  have b : ∀ i, i < 4 → (r &&& 4294967280#32).getLsbD i = false := fun i hi => by
    rw [BitVec.getLsbD_and]
    have : (4294967280#32).getLsbD i = false := by
      match i, hi with
      | 0, _ => rfl
      | 1, _ => rfl
      | 2, _ => rfl
      | 3, _ => rfl
    rw [this, Bool.and_false]
  have go : ∀ (k : Nat), k < 4 → st1 ((r &&& 4294967280#32) >>> k) = (r &&& 4294967280#32) >>> (k + 1) := fun k hk => by
    rw [st1_even (by rw [BitVec.getLsbD_ushiftRight, Nat.add_zero]; exact b k hk), BitVec.shiftRight_add]
  have g0 := go 0 (by omega)
  rw [BitVec.ushiftRight_zero] at g0
  unfold st4
  rw [g0, go 1 (by omega), go 2 (by omega), go 3 (by omega)]
  apply BitVec.eq_of_getLsbD_eq
  intro i hi
  rw [BitVec.getLsbD_ushiftRight, BitVec.getLsbD_ushiftRight, BitVec.getLsbD_and]
  have : ∀ i : Fin 32, i.val < 28 → (4294967280#32).getLsbD (4 + i.val) = true := by decide
  by_cases h28 : i < 28
  · rw [this ⟨i, hi⟩ h28, Bool.and_true]
  · rw [BitVec.getLsbD_of_ge r (4 + i) (by omega), Bool.false_and]
theorem st4_low (m : B32) (h : m.toNat < 16) : st4 m = tabB m := by
  have key : ∀ n : Fin 16, st4 (BitVec.ofNat 32 n.val) = tabB (BitVec.ofNat 32 n.val) := by decide +kernel
  have := key ⟨m.toNat, h⟩
  simp only [BitVec.ofNat_toNat, BitVec.setWidth_eq] at this
  exact this
theorem low_lt (r : B32) : (r &&& 15#32).toNat < 16 := by
  rw [BitVec.toNat_and]
  exact Nat.lt_of_le_of_lt Nat.and_le_right (by decide)
theorem st4_eq (r : B32) : st4 r = (r >>> 4) ^^^ tabB (r &&& 15#32) := by
  have e : r = (r &&& 4294967280#32) ^^^ (r &&& 15#32) := by
    apply BitVec.eq_of_getLsbD_eq
    intro i hi
    rw [BitVec.getLsbD_xor, BitVec.getLsbD_and, BitVec.getLsbD_and]
    have : ∀ i : Fin 32, (15#32).getLsbD i.val = !(4294967280#32).getLsbD i.val := by decide
    rw [this ⟨i, hi⟩]
    cases r.getLsbD i <;> cases (4294967280#32).getLsbD i <;> rfl
  conv => lhs; rw [e]
  rw [st4_xor, st4_high, st4_low _ (low_lt r)]
def st8 (r : B32) : B32 := st4 (st4 r)
/-- A row behind bytes. -/
def rowB (r : B32) (l : List Int) : B32 := l.foldl (fun r c => st8 (r ^^^ BitVec.ofInt 32 c)) r
theorem tab_wv (r : B32) : ixArr 16 (bAnd .u32 (wv r) (15 : Int)) = true ∧ bXor .u32 (sShr .u32 (wv r) (4 : Int)) (ixL (0 : Int) tabCrcHalves (bAnd .u32 (wv r) (15 : Int))) = wv (st4 r) := by
  have e1 : bAnd .u32 (wv r) (15 : Int) = wv (r &&& 15#32) := and_wv r 15#32
  have hl := low_lt r
  have e2 : sShr .u32 (wv r) (4 : Int) = wv (r >>> 4) := shr_wv r 4 (by omega)
  rw [e1, e2]
  refine ⟨by unfold ixArr wv; simp only [Bool.and_eq_true, decide_eq_true_eq]; omega, ?_⟩
  have e3 : ixL (0 : Int) tabCrcHalves (wv (r &&& 15#32)) = wv (tabB (r &&& 15#32)) := by
    have key : ∀ n : Fin 16, ixL (0 : Int) tabCrcHalves (wv (BitVec.ofNat 32 n.val)) = wv (tabB (BitVec.ofNat 32 n.val)) := by decide +kernel
    have := key ⟨(r &&& 15#32).toNat, hl⟩
    simp only [BitVec.ofNat_toNat, BitVec.setWidth_eq] at this
    exact this
  rw [e3, xor_wv, st4_eq]
def By (l : List Int) : Prop := ∀ b ∈ l, (0 : Int) ≤ b ∧ b ≤ 255
theorem carry_rounds (fu : Nat) (k2 : Int → Option (Int × Unit)) (b : List Int) (hb : By b) (hl : b.length ≤ 1000000) : ∀ (m i : Nat) (r : B32), i ≤ b.length → b.length < i + m →
    crcCarry.l2 fu k2 m (wv r) b b.length i = k2 (wv (rowB r (b.drop i))) := by
  intro m
  induction m with
  | zero => intro i r h1 h2; omega
  | succ m ih =>
    intro i r h1 h2
    unfold crcCarry.l2 crcCarry.b2
    by_cases h : i < b.length
    · have hi : (i : Int) < b.length := by omega
      have hx : ixOk b i = true := by simp [ixOk, h]
      have e1 : IntKind.i64.wrap ((i : Int) + 1) = (i + 1 : Nat) := wrap_i64 (by omega) (by omega)
      have hc := hb _ (List.getElem_mem h)
      rw [List.drop_eq_getElem_cons h]
      simp only [hi, decide_true, cond_true, chk, hx, ixL_get h]
      generalize b[i] = c at hc
      have e2 : bXor .u32 (wv r) (IntKind.u32.wrap c) = wv (r ^^^ BitVec.ofInt 32 c) := by
        rw [wrap_u32 (by omega) (by omega), ← xor_wv, wv_ofInt (by omega) (by omega)]
      obtain ⟨q1, q2⟩ := tab_wv (r ^^^ BitVec.ofInt 32 c)
      obtain ⟨q3, q4⟩ := tab_wv (st4 (r ^^^ BitVec.ofInt 32 c))
      simp only [e1, e2, q1, q2, q3, q4, cond_true]
      exact ih (i + 1) (st8 (r ^^^ BitVec.ofInt 32 c)) (by omega) (by omega)
    · have hi : ¬ (i : Int) < b.length := by omega
      rw [List.drop_of_length_le (by omega)]
      simp only [hi, decide_false, cond_false]
      rfl
theorem carry_eq (fu : Nat) (b : List Int) (hb : By b) (hl : b.length ≤ 1000000) (hf : b.length < fu) (r : B32) : crcCarry fu (wv r) b = some (wv (rowB r b), ()) := by
  unfold crcCarry
  have := carry_rounds fu (fun q => some (q, ())) b hb hl fu 0 r (by omega) (by omega)
  rw [List.drop_zero] at this
  exact this
def moreB (s : B32) (b : List Int) : B32 := rowB (s ^^^ 4294967295#32) b ^^^ 4294967295#32
theorem more_eq (fu : Nat) (b : List Int) (hb : By b) (hl : b.length ≤ 1000000) (hf : b.length < fu) (s : B32) : crcMore fu (wv s) b = some (wv (moreB s b), ()) := by
  unfold crcMore
  rw [not_wv, carry_eq fu b hb hl hf]
  simp only [Option.bind_some, not_wv]
  rfl
theorem sum_eq (fu : Nat) (b : List Int) (hb : By b) (hl : b.length ≤ 1000000) (hf : b.length < fu) : crcSum fu b = some (wv (moreB 0#32 b), ()) := by
  unfold crcSum
  have := more_eq fu b hb hl hf 0#32
  rw [show wv 0#32 = 0 from rfl] at this
  rw [this]
  rfl
theorem st1_wv (r : B32) : (Int.tmod (wv r) 2 == 1) = r.getLsbD 0 ∧ IntKind.u32.wrap (Int.tdiv (wv r) 2) = wv (r >>> 1) := by
  have hr := wv_lt r
  constructor
  · rw [Int.tmod_eq_emod_of_nonneg hr.1]
    have : r.getLsbD 0 = decide (r.toNat % 2 = 1) := by
      show r.toNat.testBit 0 = _
      rw [Nat.testBit_zero]
    rw [this]
    unfold wv
    by_cases h : r.toNat % 2 = 1
    · have : ((r.toNat : Int) % 2) = 1 := by omega
      rw [this]; simp [h]
    · have : ((r.toNat : Int) % 2) = 0 := by omega
      rw [this]; simp [h]
  · rw [Int.tdiv_eq_ediv_of_nonneg hr.1, wrap_u32 (by omega) (by omega)]
    unfold wv
    rw [BitVec.toNat_ushiftRight, Nat.shiftRight_eq_div_pow]
    omega
def stN : Nat → B32 → B32
  | 0, r => r
  | j + 1, r => stN j (st1 r)
theorem ref_bits (fu : Nat) (k4 : Int → (List Int) → Int → Int → Option (Int × Unit)) (b : List Int) (v vx : Int) : ∀ (j m k : Nat) (r : B32), k + j = 8 → j < m → ref01Row.l6 fu k4 m (wv r) b k v vx = k4 (wv (stN j r)) b v vx := by
  intro j
  induction j with
  | zero =>
    intro m k r hk hm
    obtain ⟨m, rfl⟩ : ∃ q, m = q + 1 := ⟨m - 1, by omega⟩
    unfold ref01Row.l6 ref01Row.b6
    have h : ¬ (k : Int) < 8 := by omega
    simp only [h, decide_false, cond_false]
    rfl
  | succ j ih =>
    intro m k r hk hm
    obtain ⟨m, rfl⟩ : ∃ q, m = q + 1 := ⟨m - 1, by omega⟩
    unfold ref01Row.l6 ref01Row.b6
    have h : (k : Int) < 8 := by omega
    have e1 : IntKind.i64.wrap ((k : Int) + 1) = (k + 1 : Nat) := wrap_i64 (by omega) (by omega)
    obtain ⟨q1, q2⟩ := st1_wv r
    have e2 : bXor .u32 (wv (r >>> 1)) (3988292384 : Int) = wv ((r >>> 1) ^^^ pol) := xor_wv _ pol
    simp only [h, decide_true, cond_true, q1, q2, e1, e2]
    unfold stN
    cases hg : r.getLsbD 0 with
    | true =>
      have : st1 r = (r >>> 1) ^^^ pol := by unfold st1; rw [hg]; rfl
      rw [this]
      exact ih m (k + 1) _ (by omega) (by omega)
    | false =>
      rw [st1_even hg]
      exact ih m (k + 1) _ (by omega) (by omega)
theorem row_rounds (fu : Nat) (hfu : 8 < fu) (k2 : Int → Option (Int × Unit)) (b : List Int) (hb : By b) (hl : b.length ≤ 1000000) : ∀ (m i : Nat) (r : B32), i ≤ b.length → b.length < i + m →
    ref01Row.l2 fu k2 m (wv r) b b.length i = k2 (wv (rowB r (b.drop i))) := by
  intro m
  induction m with
  | zero => intro i r h1 h2; omega
  | succ m ih =>
    intro i r h1 h2
    unfold ref01Row.l2 ref01Row.b2
    by_cases h : i < b.length
    · have hi : (i : Int) < b.length := by omega
      have hx : ixOk b i = true := by simp [ixOk, h]
      have e1 : IntKind.i64.wrap ((i : Int) + 1) = (i + 1 : Nat) := wrap_i64 (by omega) (by omega)
      have hc := hb _ (List.getElem_mem h)
      rw [List.drop_eq_getElem_cons h]
      simp only [hi, decide_true, cond_true, chk, hx, ixL_get h]
      generalize b[i] = c at hc
      have e2 : bXor .u32 (wv r) (IntKind.u32.wrap c) = wv (r ^^^ BitVec.ofInt 32 c) := by
        rw [wrap_u32 (by omega) (by omega), ← xor_wv, wv_ofInt (by omega) (by omega)]
      rw [e2]
      have := ref_bits fu (fun rowq4 bq4 vq4 vq4x2 => ref01Row.l2 fu k2 m rowq4 bq4 vq4 (IntKind.i64.wrap (vq4x2 + (1 : Int)))) b b.length i 8 fu 0 (r ^^^ BitVec.ofInt 32 c) (by omega) (by omega)
      refine this.trans ?_
      rw [e1]
      exact ih (i + 1) (st8 (r ^^^ BitVec.ofInt 32 c)) (by omega) (by omega)
    · have hi : ¬ (i : Int) < b.length := by omega
      rw [List.drop_of_length_le (by omega)]
      simp only [hi, decide_false, cond_false]
      rfl
theorem row_eq (fu : Nat) (hfu : 8 < fu) (b : List Int) (hb : By b) (hl : b.length ≤ 1000000) (hf : b.length < fu) (r : B32) : ref01Row fu (wv r) b = some (wv (rowB r b), ()) := by
  unfold ref01Row
  have := row_rounds fu hfu (fun q => some (q, ())) b hb hl fu 0 r (by omega) (by omega)
  rw [List.drop_zero] at this
  exact this
theorem refSum_eq (fu : Nat) (hfu : 8 < fu) (b : List Int) (hb : By b) (hl : b.length ≤ 1000000) (hf : b.length < fu) : ref01Sum fu b = some (wv (moreB 0#32 b), ()) := by
  unfold ref01Sum
  have := row_eq fu hfu b hb hl hf 4294967295#32
  rw [show wv 4294967295#32 = 4294967295 from rfl] at this
  rw [this]
  have e := xor_wv (rowB 4294967295#32 b) 4294967295#32
  rw [show wv 4294967295#32 = 4294967295 from rfl] at e
  simp only [Option.bind_some, e]
  unfold moreB
  rw [BitVec.zero_xor]
theorem refMore_eq (fu : Nat) (hfu : 8 < fu) (b : List Int) (hb : By b) (hl : b.length ≤ 1000000) (hf : b.length < fu) (s : B32) : ref01More fu (wv s) b = some (wv (moreB s b), ()) := by
  unfold ref01More
  have e : ∀ a : B32, bXor .u32 (wv a) (4294967295 : Int) = wv (a ^^^ 4294967295#32) := fun a => xor_wv a 4294967295#32
  simp only [e, row_eq fu hfu b hb hl hf, Option.bind_some]
  rfl
theorem byOf {l : List Int} (h : (Kd.slice (.int .u8)).ok l) : By l := fun x hx => by
  have := h.2 x hx
  simp [Kd.ok, inR, IntKind.min, IntKind.max, IntKind.signed, IntKind.bits] at this
  omega
theorem u32Of {x : Int} (h : inR .u32 x) : 0 ≤ x ∧ x < 4294967296 := by
  simp [inR, IntKind.min, IntKind.max, IntKind.signed, IntKind.bits] at h
  omega
theorem fixed01 : law01Fixed 6000 = some (true, ()) := by kernel_rfl

/-- THE LAW. -/
theorem lawCrcSums (b : List Int) (s : Int) (h : okAll law01CrcSums.con.ps (b, s, ())) : law01CrcSums 6000 b s = some (true, ()) := by
  unfold law01CrcSums
  rw [fixed01]
  by_cases h1 : (b.length : Int) > 5000
  · simp only [h1, decide_true, cond_true, Option.bind_some]
  have hb : By b := byOf h.1
  have hs := u32Of (x := s) h.2.1
  have ea : apOk ([] : List Int) b 1 = true := by
    unfold apOk
    exact decide_eq_true (Nat.le_trans (Nat.mul_le_mul_right 1 (show ([] : List Int).length + b.length ≤ 5000 by simp; omega)) (by decide))
  have es := wv_ofInt hs.1 hs.2
  rw [← es]
  simp only [h1, decide_false, cond_false, ea, chk, cond_true, Option.bind_some, List.nil_append, sum_eq 6000 b hb (by omega) (by omega), refSum_eq 6000 (by omega) b hb (by omega) (by omega), more_eq 6000 b hb (by omega) (by omega), refMore_eq 6000 (by omega) b hb (by omega) (by omega), beq_self_eq_true]

/-! ### Frames of records -/
theorem wrap_u8 (x : Int) : IntKind.u8.wrap x = x % 256 := by
  simp only [IntKind.wrap, IntKind.signed, IntKind.bits]
  simp
theorem or_add32 (n a k : Nat) (h : n < 2 ^ k) (ht : n + a * 2 ^ k < 4294967296) : bOr .u32 ((a * 2 ^ k : Nat) : Int) (n : Int) = (a * 2 ^ k + n : Nat) := by
  show IntKind.u32.wrap (((BitVec.ofInt 32 ((a * 2 ^ k : Nat) : Int) ||| BitVec.ofInt 32 (n : Int)).toNat : Nat) : Int) = _
  rw [BitVec.ofInt_natCast, BitVec.ofInt_natCast]
  have h1 : n < 2 ^ 32 := by omega
  have h2 : a * 2 ^ k < 2 ^ 32 := by omega
  rw [BitVec.toNat_or, BitVec.toNat_ofNat, BitVec.toNat_ofNat, Nat.mod_eq_of_lt h1, Nat.mod_eq_of_lt h2, Nat.mul_comm a, ← Nat.two_pow_add_eq_or_of_lt h]
  rw [Nat.mul_comm a] at ht
  rw [wrap_u32 (by omega) (by omega)]
theorem shl32 (x : Int) (k : Nat) (hk : k < 32) (h0 : 0 ≤ x) (h : x * 2 ^ k < 4294967296) : sShl .u32 x (k : Int) = x * 2 ^ k := by
  unfold sShl
  have e : min (k : Int).toNat IntKind.u32.bits = k := by simp only [IntKind.bits]; omega
  rw [e]
  exact wrap_u32 (Int.mul_nonneg h0 (by exact_mod_cast Nat.zero_le _)) h
theorem shr32 (x : Int) (k : Nat) (hk : k < 32) : sShr .u32 x (k : Int) = x / 2 ^ k := by
  unfold sShr
  have e : min (k : Int).toNat IntKind.u32.bits = k := by simp only [IntKind.bits]; omega
  rw [e, Int.fdiv_eq_ediv_of_nonneg]
  exact_mod_cast Nat.zero_le _
def four (n : Int) : List Int := [n / 16777216 % 256, n / 65536 % 256, n / 256 % 256, n % 256]
theorem four_len (n : Int) : (four n).length = 4 := rfl
theorem four_by (n : Int) : By (four n) := fun x hx => by
  simp only [four, List.mem_cons, List.not_mem_nil, or_false] at hx
  omega
def val4 (l : List Int) : Int := ixL (0 : Int) l 0 * 16777216 + ixL (0 : Int) l 1 * 65536 + ixL (0 : Int) l 2 * 256 + ixL (0 : Int) l 3
theorem four_val (a b c d : Int) (ha : 0 ≤ a ∧ a ≤ 255) (hb : 0 ≤ b ∧ b ≤ 255) (hc : 0 ≤ c ∧ c ≤ 255) (hd : 0 ≤ d ∧ d ≤ 255) (r : List Int) : four (val4 (a :: b :: c :: d :: r)) = [a, b, c, d] := by
  show four (a * 16777216 + b * 65536 + c * 256 + d) = _
  unfold four
  simp only [List.cons.injEq, and_true]
  omega
theorem val_four (n : Int) (h0 : 0 ≤ n) (h1 : n < 4294967296) (r : List Int) : val4 (four n ++ r) = n := by
  show n / 16777216 % 256 * 16777216 + n / 65536 % 256 * 65536 + n / 256 % 256 * 256 + n % 256 = n
  omega
theorem split4 {l : List Int} (hl : 4 ≤ l.length) : ∃ a b c d r, l = a :: b :: c :: d :: r := by
  match l, hl with
  | a :: b :: c :: d :: r, _ => exact ⟨a, b, c, d, r, rfl⟩
theorem val4_in {l : List Int} (hb : By l) (hl : 4 ≤ l.length) : 0 ≤ val4 l ∧ val4 l < 4294967296 := by
  obtain ⟨a, b, c, d, r, rfl⟩ := split4 hl
  have ha := hb a (by simp)
  have hb' := hb b (by simp)
  have hc := hb c (by simp)
  have hd := hb d (by simp)
  show 0 ≤ a * 16777216 + b * 65536 + c * 256 + d ∧ a * 16777216 + b * 65536 + c * 256 + d < _
  omega
theorem get4_eq (fu : Nat) {l : List Int} (hb : By l) (hl : 4 ≤ l.length) : recGetF33 fu l = some (val4 l, ()) := by
  obtain ⟨a, b, c, d, r, rfl⟩ := split4 hl
  have ha := hb a (by simp)
  have hb' := hb b (by simp)
  have hc := hb c (by simp)
  have hd := hb d (by simp)
  have x0 : ixOk (a :: b :: c :: d :: r) 0 = true := by simp [ixOk]; omega
  have x1 : ixOk (a :: b :: c :: d :: r) 1 = true := by simp [ixOk]; omega
  have x2 : ixOk (a :: b :: c :: d :: r) 2 = true := by simp [ixOk]; omega
  have x3 : ixOk (a :: b :: c :: d :: r) 3 = true := by simp [ixOk]; omega
  have y0 : ixL (0 : Int) (a :: b :: c :: d :: r) 0 = a := rfl
  have y1 : ixL (0 : Int) (a :: b :: c :: d :: r) 1 = b := rfl
  have y2 : ixL (0 : Int) (a :: b :: c :: d :: r) 2 = c := rfl
  have y3 : ixL (0 : Int) (a :: b :: c :: d :: r) 3 = d := rfl
  have w : ∀ x : Int, 0 ≤ x → x ≤ 255 → IntKind.u32.wrap x = x := fun x h0 h1 => wrap_u32 h0 (by omega)
  unfold recGetF33 val4
  simp only [x0, x1, x2, x3, y0, y1, y2, y3, chk, cond_true, w a ha.1 ha.2, w b hb'.1 hb'.2, w c hc.1 hc.2, w d hd.1 hd.2]
  have s1 : sShl .u32 a 24 = a * 16777216 := by have := shl32 a 24 (by omega) ha.1 (by omega); simpa using this
  have s2 : sShl .u32 b 16 = b * 65536 := by have := shl32 b 16 (by omega) hb'.1 (by omega); simpa using this
  have s3 : sShl .u32 c 8 = c * 256 := by have := shl32 c 8 (by omega) hc.1 (by omega); simpa using this
  rw [s1, s2, s3]
  obtain ⟨A, rfl⟩ := Int.eq_ofNat_of_zero_le ha.1
  obtain ⟨B, rfl⟩ := Int.eq_ofNat_of_zero_le hb'.1
  obtain ⟨C, rfl⟩ := Int.eq_ofNat_of_zero_le hc.1
  obtain ⟨D, rfl⟩ := Int.eq_ofNat_of_zero_le hd.1
  have o1 : bOr .u32 ((A : Int) * 16777216) ((B : Int) * 65536) = (A : Int) * 16777216 + (B : Int) * 65536 := by
    have := or_add32 (B * 65536) A 24 (by omega) (by omega)
    simpa using this
  have o2 : bOr .u32 ((A : Int) * 16777216 + (B : Int) * 65536) ((C : Int) * 256) = (A : Int) * 16777216 + (B : Int) * 65536 + (C : Int) * 256 := by
    have := or_add32 (C * 256) (A * 256 + B) 16 (by omega) (by omega)
    rw [show (A * 256 + B) * 2 ^ 16 = A * 16777216 + B * 65536 by omega] at this
    simpa using this
  have o3 : bOr .u32 ((A : Int) * 16777216 + (B : Int) * 65536 + (C : Int) * 256) (D : Int) = (A : Int) * 16777216 + (B : Int) * 65536 + (C : Int) * 256 + (D : Int) := by
    have := or_add32 D (A * 65536 + B * 256 + C) 8 (by omega) (by omega)
    rw [show (A * 65536 + B * 256 + C) * 2 ^ 8 = A * 16777216 + B * 65536 + C * 256 by omega] at this
    simpa using this
  rw [o1, o2, o3]
theorem apOk1 {xs ys : List Int} (h : xs.length + ys.length ≤ 1000000) : apOk xs ys 1 = true := by
  unfold apOk
  exact decide_eq_true (Nat.le_trans (Nat.mul_le_mul_right 1 h) (by decide))
theorem put4_eq (fu : Nat) (b : List Int) (n : Int) (hl : b.length ≤ 900000) (h0 : 0 ≤ n) (h1 : n < 4294967296) : recPutF31 fu b n = some ((b ++ four n, ()), ()) := by
  unfold recPutF31
  have s1 : sShr .u32 n 24 = n / 16777216 := by have := shr32 n 24 (by omega); simpa using this
  have s2 : sShr .u32 n 16 = n / 65536 := by have := shr32 n 16 (by omega); simpa using this
  have s3 : sShr .u32 n 8 = n / 256 := by have := shr32 n 8 (by omega); simpa using this
  simp only [s1, s2, s3, wrap_u8]
  rw [apOk1 (by simp; omega)]
  rfl
theorem ref4_eq (fu : Nat) (n : Int) (h0 : 0 ≤ n) (h1 : n < 4294967296) : ref08Four fu n = some (four n, ()) := by
  unfold ref08Four
  have t1 : ∀ k : Int, 0 < k → IntKind.u32.wrap (Int.tdiv n k) = n / k := fun k hk => by
    rw [Int.tdiv_eq_ediv_of_nonneg h0]
    have : n / k ≤ n := Int.ediv_le_self k h0
    have : 0 ≤ n / k := Int.ediv_nonneg h0 (by omega)
    exact wrap_u32 (by omega) (by omega)
  have t2 : ∀ x : Int, 0 ≤ x → Int.tmod x 256 = x % 256 := fun x hx => Int.tmod_eq_emod_of_nonneg hx
  simp only [t1 16777216 (by omega), t1 65536 (by omega), t1 256 (by omega), wrap_u8, t2 (n / 65536) (by omega), t2 (n / 256) (by omega), t2 n h0]
  unfold four
  have e : n % 256 % 256 = n % 256 := by omega
  have e2 : n / 65536 % 256 % 256 = n / 65536 % 256 := by omega
  have e3 : n / 256 % 256 % 256 = n / 256 % 256 := by omega
  rw [e, e2, e3]
/-! What stands on the wire. -/
def sumI (b : List Int) : Int := wv (moreB 0#32 b)
theorem sumI_in (b : List Int) : 0 ≤ sumI b ∧ sumI b < 4294967296 := wv_lt _
theorem more_more (a b : List Int) : moreB (moreB 0#32 a) b = moreB 0#32 (a ++ b) := by
  unfold moreB
  rw [BitVec.xor_assoc, BitVec.xor_self, BitVec.xor_zero]
  unfold rowB
  rw [List.foldl_append]
def frame (r : List Int) : List Int := four r.length ++ four (sumI (four r.length ++ r)) ++ r
theorem frame_len (r : List Int) : (frame r).length = 8 + r.length := by unfold frame; simp [four_len]; omega
theorem by_app {a b : List Int} (ha : By a) (hb : By b) : By (a ++ b) := fun x hx => by
  rcases List.mem_append.1 hx with h | h
  · exact ha x h
  · exact hb x h
theorem by_cut {l : List Int} (h : By l) (a e : Int) : By (cutL l a e) := fun b hb => h b (List.mem_of_mem_drop (List.mem_of_mem_take hb))
theorem by_drop {l : List Int} (h : By l) (n : Nat) : By (l.drop n) := fun b hb => h b (List.mem_of_mem_drop hb)
theorem frame_by {r : List Int} (h : By r) : By (frame r) := by_app (by_app (four_by _) (four_by _)) h
theorem cutOk_of {b : List Int} {x y : Int} (h0 : 0 ≤ x) (h1 : x ≤ y) (h2 : y ≤ b.length) : cutOk b x y = true := by simp [cutOk, h0, h1, h2]
theorem cut_end (b : List Int) (x : Int) : cutL b x b.length = b.drop x.toNat := by
  unfold cutL
  rw [List.take_of_length_le]
  rw [List.length_drop]; omega
theorem recPut_eq (fu : Nat) (hfu : 90000 ≤ fu) (b r : List Int) (hb : By b) (hr : By r) (hl : b.length ≤ 100000) (hrl : r.length ≤ 100000) : recPut fu b r = some (if r.length > 65536 then ([], 4, ()) else (b ++ frame r, 0, ())) := by
  unfold recPut
  by_cases h : r.length > 65536
  · have h' : (r.length : Int) > 65536 := by omega
    simp only [h', decide_true, cond_true, if_pos h]
  · have h' : ¬ (r.length : Int) > 65536 := by omega
    have e1 : IntKind.i64.wrap ((8 : Int) + (r.length : Int)) = 8 + r.length := wrap_i64 (by omega) (by omega)
    have e2 : IntKind.i64.wrap ((b.length : Int) + (8 + (r.length : Int))) = b.length + (8 + r.length) := wrap_i64 (by omega) (by omega)
    have e3 : mkRaw (b.length : Int) ((b.length : Int) + (8 + r.length)) 1 = true := by
      have hL : (1000000 : Int) ≤ (LIM : Int) := by decide
      unfold mkRaw
      simp only [Bool.and_eq_true, decide_eq_true_eq]
      omega
    have e4 : nOk b ((b.length : Int).toNat) = true := by unfold nOk; rw [Int.toNat_natCast]; exact Nat.beq_refl _
    have e5 : IntKind.u32.wrap (r.length : Int) = r.length := wrap_u32 (by omega) (by omega)
    unfold recSize
    simp only [h', decide_false, cond_false, if_neg h, Option.bind_some, e1, e2, e3, e4, e5, chk, cond_true, Bool.and_self]
    rw [put4_eq fu b r.length (by omega) (by omega) (by omega)]
    simp only [Option.bind_some]
    have hl2 : ((b ++ four r.length).length : Int) = b.length + 4 := by simp [four_len]
    rw [cutOk_of (by omega) (by omega) (by omega), cond_true, cut_end, Int.toNat_natCast, List.drop_left]
    rw [sum_eq fu (four r.length) (four_by _) (by simp [four_len]) (by rw [four_len]; omega)]
    simp only [Option.bind_some]
    rw [more_eq fu r hr (by omega) (by omega)]
    simp only [Option.bind_some]
    rw [more_more, put4_eq fu _ _ (by simp [four_len]; omega) (wv_lt _).1 (wv_lt _).2]
    simp only [Option.bind_some]
    rw [apOk1 (by simp [four_len]; omega)]
    simp only [cond_true]
    unfold frame sumI
    simp only [List.append_assoc]
theorem refPut_eq (fu : Nat) (hfu : 190000 ≤ fu) (b r : List Int) (hb : By b) (hr : By r) (hl : b.length ≤ 100000) (hrl : r.length ≤ 100000) : ref08Put fu b r = some (if r.length > 65536 then ([], 4, ()) else (b ++ frame r, 0, ())) := by
  unfold ref08Put
  by_cases h : r.length > 65536
  · have h' : (r.length : Int) > 65536 := by omega
    simp only [h', decide_true, cond_true, if_pos h]
  · have h' : ¬ (r.length : Int) > 65536 := by omega
    have e5 : IntKind.u32.wrap (r.length : Int) = r.length := wrap_u32 (by omega) (by omega)
    simp only [h', decide_false, cond_false, if_neg h, e5, ref4_eq fu (r.length : Int) (by omega) (by omega), Option.bind_some, List.nil_append, chk]
    rw [apOk1 (by simp [four_len]), apOk1 (by simp [four_len]; omega), apOk1 (by simp; omega), apOk1 (by simp [four_len]; omega)]
    simp only [cond_true]
    rw [refSum_eq fu (by omega) _ (by_app (four_by _) hr) (by simp [four_len]; omega) (by simp [four_len]; omega)]
    simp only [Option.bind_some]
    rw [ref4_eq fu _ (wv_lt _).1 (wv_lt _).2]
    simp only [Option.bind_some]
    rw [apOk1 (by simp [four_len]; omega), apOk1 (by simp [four_len]; omega)]
    simp only [cond_true]
    unfold frame sumI
    simp only [List.append_assoc]
/-- The record at a place. -/
def got8 (b : List Int) (at' : Int) : List Int × Int × Int :=
  if at' < 0 ∨ at' > (b.length : Int) - 4 then ([], 0, 3)
  else if val4 (b.drop at'.toNat) > 65536 then ([], 0, 4)
  else if 8 + val4 (b.drop at'.toNat) > (b.length : Int) - at' then ([], 0, 3)
  else if sumI (cutL b at' (at' + 4) ++ cutL b (at' + 8) (at' + 8 + val4 (b.drop at'.toNat))) ≠ val4 (b.drop (at' + 4).toNat) then ([], 0, 6)
  else (cutL b (at' + 8) (at' + 8 + val4 (b.drop at'.toNat)), at' + 8 + val4 (b.drop at'.toNat), 0)
theorem clone_eq (fu : Nat) (l : List Int) (hl : l.length ≤ 900000) : slicesCloneDat fu l = some (l, ()) := by
  unfold slicesCloneDat
  cases l with
  | nil =>
    show both _ _ = _
    have : (chk (apOk ([] : List Int) [] 1) (some (([] : List Int) ++ [], ())) : Option (List Int × Unit)) = some ([], ()) := by rw [apOk1 (by simp)]; rfl
    unfold both
    rw [if_pos this.symm]
  | cons x r =>
    show chk (apOk [] (x :: r) 1) _ = _
    rw [apOk1 (by simp at hl ⊢; omega)]
    rfl
theorem recGet_eq (fu : Nat) (b : List Int) (hb : By b) (hl : b.length ≤ 100000) (hfu : b.length < fu) (at' : Int) (h63 : -9223372036854775808 ≤ at' ∧ at' < 9223372036854775808) : recGet fu b at' = some ((got8 b at').1, (got8 b at').2.1, (got8 b at').2.2, ()) := by
  unfold recGet got8
  by_cases h0 : at' < 0
  · have : at' < 0 ∨ at' > (b.length : Int) - 4 := .inl h0
    rw [if_pos this]
    simp only [h0, decide_true, cond_true]
  · have e1 : IntKind.i64.wrap ((b.length : Int) - 4) = b.length - 4 := wrap_i64 (by omega) (by omega)
    by_cases h1 : at' > (b.length : Int) - 4
    · have : at' < 0 ∨ at' > (b.length : Int) - 4 := .inr h1
      rw [if_pos this]
      simp only [h0, h1, e1, decide_true, decide_false, cond_true, cond_false]
    · have h2 : ¬ (at' < 0 ∨ at' > (b.length : Int) - 4) := by omega
      have hd : By (b.drop at'.toNat) := by_drop hb _
      have hdl : 4 ≤ (b.drop at'.toNat).length := by rw [List.length_drop]; omega
      have hv := val4_in hd hdl
      rw [if_neg h2]
      simp only [h0, h1, e1, decide_false, cond_false, cut_end, get4_eq fu hd hdl, Option.bind_some]
      rw [cutOk_of (by omega) (by omega) (Int.le_refl _)]
      simp only [chk, cond_true]
      generalize hn : val4 (b.drop at'.toNat) = n at hv
      by_cases h3 : n > 65536
      · simp only [h3, decide_true, cond_true, if_true]
      · have w1 : IntKind.i64.wrap n = n := wrap_i64 (by omega) (by omega)
        have w2 : IntKind.i64.wrap ((8 : Int) + n) = 8 + n := wrap_i64 (by omega) (by omega)
        have w3 : IntKind.i64.wrap ((b.length : Int) - at') = b.length - at' := wrap_i64 (by omega) (by omega)
        simp only [h3, decide_false, cond_false, if_false, w1, w2, w3]
        by_cases h4 : 8 + n > (b.length : Int) - at'
        · simp only [h4, decide_true, cond_true, if_true]
        · have w4 : IntKind.i64.wrap (at' + 8) = at' + 8 := wrap_i64 (by omega) (by omega)
          have w5 : IntKind.i64.wrap (at' + 8 + n) = at' + 8 + n := wrap_i64 (by omega) (by omega)
          have w6 : IntKind.i64.wrap (at' + 4) = at' + 4 := wrap_i64 (by omega) (by omega)
          have c1 : cutOk b (at' + 8) (at' + 8 + n) = true := cutOk_of (by omega) (by omega) (by omega)
          have c2 : cutOk b at' (at' + 4) = true := cutOk_of (by omega) (by omega) (by omega)
          have c3 : cutOk b (at' + 4) b.length = true := cutOk_of (by omega) (by omega) (by omega)
          have l1 : (cutL b at' (at' + 4)).length ≤ b.length := by unfold cutL; rw [List.length_take, List.length_drop]; omega
          have l2 : (cutL b (at' + 8) (at' + 8 + n)).length ≤ b.length := by unfold cutL; rw [List.length_take, List.length_drop]; omega
          have hd2 : By (b.drop (at' + 4).toNat) := by_drop hb _
          have hdl2 : 4 ≤ (b.drop (at' + 4).toNat).length := by rw [List.length_drop]; omega
          simp only [h4, decide_false, cond_false, if_false, w4, w5, w6, c1, c2, c3, cond_true, sum_eq fu _ (by_cut hb _ _) (Nat.le_trans l1 (by omega)) (Nat.lt_of_le_of_lt l1 hfu), more_eq fu _ (by_cut hb _ _) (Nat.le_trans l2 (by omega)) (Nat.lt_of_le_of_lt l2 hfu), Option.bind_some, more_more, get4_eq fu hd2 hdl2, clone_eq fu _ (Nat.le_trans l2 (by omega))]
          show (cond (sumI (cutL b at' (at' + 4) ++ cutL b (at' + 8) (at' + 8 + n)) != val4 (b.drop (at' + 4).toNat)) _ _ : Option _) = _
          by_cases h5 : sumI (cutL b at' (at' + 4) ++ cutL b (at' + 8) (at' + 8 + n)) = val4 (b.drop (at' + 4).toNat)
          · have : (sumI (cutL b at' (at' + 4) ++ cutL b (at' + 8) (at' + 8 + n)) != val4 (b.drop (at' + 4).toNat)) = false := by rw [h5]; simp
            rw [this, if_neg (fun hx => hx h5)]
            rfl
          · have : (sumI (cutL b at' (at' + 4) ++ cutL b (at' + 8) (at' + 8 + n)) != val4 (b.drop (at' + 4).toNat)) = true := bne_iff_ne.2 h5
            rw [this, if_pos h5]
            rfl

theorem ref_four (fu : Nat) (k2 : (List Int) → Int → (List Int) → Int → Option ((List Int) × Int × Int × Unit)) (b : List Int) (hb : By b) (A : Nat) (hA : A + 4 ≤ b.length) (hl : b.length ≤ 100000) (m : Nat) (hm : 5 ≤ m) (no : List Int) :
    ref08Get.l6 fu k2 m b A no 0 0 = k2 b A no (val4 (b.drop A)) := by
  have hdl : 4 ≤ (b.drop A).length := by rw [List.length_drop]; omega
  obtain ⟨m, rfl⟩ : ∃ q, m = q + 5 := ⟨m - 5, by omega⟩
  obtain ⟨x0, x1, x2, x3, r, hd⟩ := split4 hdl
  have gx : ∀ j : Nat, j < 4 → ixOk b ((A : Int) + j) = true ∧ ixL (0 : Int) b ((A : Int) + j) = ixL (0 : Int) (b.drop A) j := fun j hj => by
    refine ⟨by simp only [ixOk, Bool.and_eq_true, decide_eq_true_eq]; omega, ?_⟩
    unfold ixL
    have e1 : ((A : Int) + (j : Int)).toNat = A + j := by omega
    have e2 : ((j : Int)).toNat = j := by omega
    rw [e1, e2]
    simp only [List.getD, List.getElem?_drop]
  have bx : ∀ x ∈ b.drop A, 0 ≤ x ∧ x ≤ 255 := by_drop hb A
  have h0 := bx x0 (by rw [hd]; simp)
  have h1 := bx x1 (by rw [hd]; simp)
  have h2 := bx x2 (by rw [hd]; simp)
  have h3 := bx x3 (by rw [hd]; simp)
  have step : ∀ (n j : Nat) (q : Nat) (x : Int), j < 4 → ixL (0 : Int) (b.drop A) j = x → 0 ≤ x → x ≤ 255 → n < 16777216 → ref08Get.l6 fu k2 (q + 1) b A no (n : Int) (j : Int) = ref08Get.l6 fu k2 q b A no ((n : Int) * 256 + x) ((j + 1 : Nat) : Int) := fun n j q x hj hx h0 h1 hn => by
    conv => lhs; unfold ref08Get.l6 ref08Get.b6
    obtain ⟨g1, g2⟩ := gx j hj
    have e1 : IntKind.i64.wrap ((n : Int) * 256) = (n : Int) * 256 := wrap_i64 (by omega) (by omega)
    have e2 : IntKind.i64.wrap ((A : Int) + (j : Int)) = (A : Int) + j := wrap_i64 (by omega) (by omega)
    have e3 : IntKind.i64.wrap x = x := wrap_i64 (by omega) (by omega)
    have e4 : IntKind.i64.wrap ((n : Int) * 256 + x) = (n : Int) * 256 + x := wrap_i64 (by omega) (by omega)
    have e5 : IntKind.i64.wrap ((j : Int) + 1) = ((j + 1 : Nat) : Int) := wrap_i64 (by omega) (by omega)
    have hlt : (j : Int) < 4 := by omega
    simp only [hlt, decide_true, cond_true, e1, e2, g1, g2, hx, e3, e4, e5, chk]
  have y0 : ixL (0 : Int) (b.drop A) (0 : Nat) = x0 := by rw [hd]; rfl
  have y1 : ixL (0 : Int) (b.drop A) (1 : Nat) = x1 := by rw [hd]; rfl
  have y2 : ixL (0 : Int) (b.drop A) (2 : Nat) = x2 := by rw [hd]; rfl
  have y3 : ixL (0 : Int) (b.drop A) (3 : Nat) = x3 := by rw [hd]; rfl
  obtain ⟨N0, rfl⟩ := Int.eq_ofNat_of_zero_le h0.1
  obtain ⟨N1, rfl⟩ := Int.eq_ofNat_of_zero_le h1.1
  obtain ⟨N2, rfl⟩ := Int.eq_ofNat_of_zero_le h2.1
  have s0 := step 0 0 (m + 4) N0 (by omega) y0 h0.1 h0.2 (by omega)
  have s1 := step (0 * 256 + N0) 1 (m + 3) N1 (by omega) y1 h1.1 h1.2 (by omega)
  have s2 := step ((0 * 256 + N0) * 256 + N1) 2 (m + 2) N2 (by omega) y2 h2.1 h2.2 (by omega)
  have s3 := step (((0 * 256 + N0) * 256 + N1) * 256 + N2) 3 (m + 1) x3 (by omega) y3 h3.1 h3.2 (by omega)
  simp only [Int.natCast_add, Int.natCast_mul, Int.natCast_zero, Int.natCast_one] at s0 s1 s2 s3
  have c256 : ((256 : Nat) : Int) = 256 := rfl
  rw [c256] at s1 s2 s3
  refine s0.trans (s1.trans (s2.trans (s3.trans ?_)))
  have e : val4 (b.drop A) = (((0 * 256 + (N0 : Int)) * 256 + (N1 : Int)) * 256 + (N2 : Int)) * 256 + x3 := by
    rw [hd]
    show (N0 : Int) * 16777216 + (N1 : Int) * 65536 + (N2 : Int) * 256 + x3 = _
    omega
  rw [e]
  unfold ref08Get.l6 ref08Get.b6
  have h : ¬ (((3 + 1 : Nat) : Int)) < 4 := by decide
  simp only [show ¬ ((3 : Nat) : Int) + 1 < 4 by decide, decide_false, cond_false]
theorem cut_app {b : List Int} {x y z : Int} (h0 : 0 ≤ x) (h1 : x ≤ y) (h2 : y ≤ z) (h3 : z ≤ b.length) : cutL b x y ++ cutL b y z = cutL b x z := by
  unfold cutL
  have e : b.drop y.toNat = (b.drop x.toNat).drop (y - x).toNat := by rw [List.drop_drop]; congr 1; omega
  rw [e, show (z - x).toNat = (y - x).toNat + (z - y).toNat by omega, List.take_add]
theorem cut_len {b : List Int} {x y : Int} (h0 : 0 ≤ x) (h1 : x ≤ y) (h2 : y ≤ b.length) : (cutL b x y).length = (y - x).toNat := by
  unfold cutL
  rw [List.length_take, List.length_drop]
  omega
theorem cut_four {b : List Int} (hb : By b) {x : Int} (h0 : 0 ≤ x) (h1 : x + 4 ≤ b.length) : cutL b x (x + 4) = four (val4 (b.drop x.toNat)) := by
  have hdl : 4 ≤ (b.drop x.toNat).length := by rw [List.length_drop]; omega
  obtain ⟨x0, x1, x2, x3, r, hd⟩ := split4 hdl
  have bx : ∀ y ∈ b.drop x.toNat, 0 ≤ y ∧ y ≤ 255 := by_drop hb _
  unfold cutL
  rw [show (x + 4 - x).toNat = 4 by omega]
  rw [hd] at bx ⊢
  rw [four_val x0 x1 x2 x3 (bx _ (by simp)) (bx _ (by simp)) (bx _ (by simp)) (bx _ (by simp))]
  rfl
theorem four_inj {a b : Int} (ha : 0 ≤ a ∧ a < 4294967296) (hb : 0 ≤ b ∧ b < 4294967296) (h : four a = four b) : a = b := by
  have e1 := val_four a ha.1 ha.2 []
  have e2 := val_four b hb.1 hb.2 []
  rw [h] at e1
  exact e1.symm.trans e2
theorem refGet_eq (fu : Nat) (hfu : 190000 ≤ fu) (b : List Int) (hb : By b) (hl : b.length ≤ 100000) (at' : Int) (h63 : -9223372036854775808 ≤ at' ∧ at' < 9223372036854775808) : ref08Get fu b at' = some ((got8 b at').1, (got8 b at').2.1, (got8 b at').2.2, ()) := by
  unfold ref08Get got8
  by_cases h0 : at' < 0
  · have : at' < 0 ∨ at' > (b.length : Int) - 4 := .inl h0
    rw [if_pos this]
    simp only [h0, decide_true, cond_true]
  · by_cases h1 : at' > (b.length : Int) - 4
    · have : at' < 0 ∨ at' > (b.length : Int) - 4 := .inr h1
      rw [if_pos this]
      by_cases h1' : at' > (b.length : Int)
      · simp only [h0, h1', decide_true, decide_false, cond_true, cond_false]
      · have e1 : IntKind.i64.wrap ((b.length : Int) - at') = b.length - at' := wrap_i64 (by omega) (by omega)
        have h2 : (b.length : Int) - at' < 4 := by omega
        simp only [h0, h1', e1, h2, decide_true, decide_false, cond_true, cond_false]
    · have h2 : ¬ (at' < 0 ∨ at' > (b.length : Int) - 4) := by omega
      have h1' : ¬ at' > (b.length : Int) := by omega
      have e1 : IntKind.i64.wrap ((b.length : Int) - at') = b.length - at' := wrap_i64 (by omega) (by omega)
      have h2' : ¬ (b.length : Int) - at' < 4 := by omega
      rw [if_neg h2]
      simp only [h0, h1', e1, h2', decide_false, cond_false]
      obtain ⟨A, rfl⟩ := Int.eq_ofNat_of_zero_le (show 0 ≤ at' by omega)
      refine (ref_four fu _ b hb A (by omega) hl fu (by omega) []).trans ?_
      have hd : By (b.drop A) := by_drop hb _
      have hdl : 4 ≤ (b.drop A).length := by rw [List.length_drop]; omega
      have hv := val4_in hd hdl
      have hcut1 := cut_four hb (x := (A : Int)) (by omega) (by omega)
      have hcut2 : 8 + val4 (b.drop A) ≤ (b.length : Int) - A → cutL b ((A : Int) + 4) ((A : Int) + 4 + 4) = four (val4 (b.drop ((A : Int) + 4).toNat)) := fun h => cut_four hb (x := (A : Int) + 4) (by omega) (by omega)
      rw [show ((A : Int)).toNat = A by omega] at hcut1 ⊢
      have hv2 : 8 + val4 (b.drop A) ≤ (b.length : Int) - A → 0 ≤ val4 (b.drop ((A : Int) + 4).toNat) ∧ val4 (b.drop ((A : Int) + 4).toNat) < 4294967296 := fun h => val4_in (by_drop hb _) (by rw [List.length_drop]; omega)
      generalize hn : val4 (b.drop A) = n at hv hcut1 hcut2 hv2
      by_cases h3 : n > 65536
      · simp only [h3, decide_true, cond_true, if_true]
      · have w2 : IntKind.i64.wrap ((8 : Int) + n) = 8 + n := wrap_i64 (by omega) (by omega)
        simp only [h3, decide_false, cond_false, if_false, w2, e1]
        by_cases h4 : 8 + n > (b.length : Int) - A
        · simp only [h4, decide_true, cond_true, if_true]
        · have w4 : IntKind.i64.wrap ((A : Int) + 8) = (A : Int) + 8 := wrap_i64 (by omega) (by omega)
          have w5 : IntKind.i64.wrap ((A : Int) + 8 + n) = (A : Int) + 8 + n := wrap_i64 (by omega) (by omega)
          have c1 : cutOk b ((A : Int) + 8) ((A : Int) + 8 + n) = true := cutOk_of (by omega) (by omega) (by omega)
          have c2 : cutOk b (A : Int) ((A : Int) + 8 + n) = true := cutOk_of (by omega) (by omega) (by omega)
          have l2 : (cutL b ((A : Int) + 8) ((A : Int) + 8 + n)).length = n.toNat := by rw [cut_len (by omega) (by omega) (by omega)]; omega
          simp only [h4, decide_false, cond_false, if_false, w4, w5, c1, c2, cond_true, chk, List.nil_append]
          rw [apOk1 (by rw [l2]; simp; omega)]
          simp only [cond_true]
          rw [refPut_eq fu hfu [] _ (fun x hx => by cases hx) (by_cut hb _ _) (by simp) (by rw [l2]; omega), if_neg (by rw [l2]; omega)]
          simp only [Option.bind_some, List.nil_append]
          have hv2 := hv2 (by omega)
          have hcut2 := hcut2 (by omega)
          have whole : cutL b (A : Int) ((A : Int) + 8 + n) = four n ++ cutL b ((A : Int) + 4) ((A : Int) + 4 + 4) ++ cutL b ((A : Int) + 8) ((A : Int) + 8 + n) := by
            rw [← hcut1, List.append_assoc, show (A : Int) + 4 + 4 = (A : Int) + 8 by omega, cut_app (by omega) (by omega) (by omega) (by omega), cut_app (by omega) (by omega) (by omega) (by omega)]
          rw [hcut2] at whole
          have hfr : frame (cutL b ((A : Int) + 8) ((A : Int) + 8 + n)) = four n ++ four (sumI (four n ++ cutL b ((A : Int) + 8) ((A : Int) + 8 + n))) ++ cutL b ((A : Int) + 8) ((A : Int) + 8 + n) := by
            unfold frame
            rw [l2, show ((n.toNat : Nat) : Int) = n by omega]
          rw [hfr, whole, hcut1]
          generalize hS : sumI (four n ++ cutL b ((A : Int) + 8) ((A : Int) + 8 + n)) = S
          have hSin : 0 ≤ S ∧ S < 4294967296 := by rw [← hS]; exact sumI_in _
          by_cases h5 : S = val4 (b.drop ((A : Int) + 4).toNat)
          · rw [← h5, if_neg (fun hx => hx rfl)]
            simp only [bne_self_eq_false, cond_false]
          · have hne : (four n ++ four S ++ cutL b ((A : Int) + 8) ((A : Int) + 8 + n) != four n ++ four (val4 (b.drop ((A : Int) + 4).toNat)) ++ cutL b ((A : Int) + 8) ((A : Int) + 8 + n)) = true := by
              rw [bne_iff_ne]
              intro he
              have he := List.append_cancel_right he
              have he := List.append_cancel_left he
              exact h5 (four_inj hSin hv2 he)
            rw [if_pos h5]
            simp only [hne, cond_true]
/-! What stands in a row. -/
def scan8 (b : List Int) : Nat → Int → List (List Int) × Int
  | 0, at' => ([], at')
  | m + 1, at' => if (got8 b at').2.2 ≠ 0 then ([], at') else ((got8 b at').1 :: (scan8 b m (got8 b at').2.1).1, (scan8 b m (got8 b at').2.1).2)
theorem got8_end {b : List Int} (hb : By b) {at' : Int} (h : (got8 b at').2.2 = 0) : 0 ≤ at' ∧ at' + 8 ≤ (got8 b at').2.1 ∧ (got8 b at').2.1 ≤ b.length := by
  unfold got8 at h ⊢
  by_cases h0 : at' < 0 ∨ at' > (b.length : Int) - 4
  · rw [if_pos h0] at h; cases h
  · rw [if_neg h0] at h ⊢
    have hv := val4_in (l := b.drop at'.toNat) (by_drop hb _) (by rw [List.length_drop]; omega)
    by_cases h1 : val4 (b.drop at'.toNat) > 65536
    · rw [if_pos h1] at h; cases h
    · rw [if_neg h1] at h ⊢
      by_cases h2 : 8 + val4 (b.drop at'.toNat) > (b.length : Int) - at'
      · rw [if_pos h2] at h; cases h
      · rw [if_neg h2] at h ⊢
        split at h
        · cases h
        · rename_i h3
          rw [if_neg h3]
          simp only
          omega
theorem scan_rounds (fu : Nat) (hfu : 190000 ≤ fu) (k1 : (List (List Int)) → Int → Option ((List (List Int)) × Int × Unit)) (b : List Int) (hb : By b) (hl : b.length ≤ 100000) : ∀ (m : Nat) (at' : Int) (out : List (List Int)), 0 ≤ at' → at' ≤ b.length → (b.length : Int) - at' < m → out.length ≤ at' →
    recScan.l3 fu k1 m b out at' = k1 (out ++ (scan8 b m at').1) (scan8 b m at').2 ∧ ref08Scan.l3 fu k1 m b out at' = k1 (out ++ (scan8 b m at').1) (scan8 b m at').2 := by
  intro m
  induction m with
  | zero => intro at' out h0 h1 h2; omega
  | succ m ih =>
    intro at' out h0 h1 h2 h3
    unfold recScan.l3 recScan.b3 ref08Scan.l3 ref08Scan.b3 scan8
    rw [recGet_eq fu b hb hl (by omega) at' (by omega), refGet_eq fu hfu b hb hl at' (by omega)]
    simp only [Option.bind_some]
    have he := got8_end hb (at' := at')
    generalize got8 b at' = q at he
    by_cases h : q.2.2 = 0
    · have h' : (q.2.2 != 0) = false := by rw [h]; rfl
      obtain ⟨_, e1, e2⟩ := he h
      rw [if_neg (fun hx => hx h)]
      simp only [h', cond_false]
      have ea : apOk out [q.1] 24 = true := by
        unfold apOk
        exact decide_eq_true (Nat.le_trans (Nat.mul_le_mul_right 24 (show out.length + [q.1].length ≤ 100001 by simp; omega)) (by decide))
      simp only [ea, chk, cond_true]
      obtain ⟨i1, i2⟩ := ih q.2.1 (out ++ [q.1]) (by omega) e2 (by omega) (by simp; omega)
      rw [i1, i2]
      simp only [List.append_assoc, List.cons_append, List.nil_append, and_self]
    · have h' : (q.2.2 != 0) = true := bne_iff_ne.2 h
      rw [if_pos h]
      simp only [h', cond_true, List.append_nil, and_self]
theorem scan_eq (fu : Nat) (hfu : 190000 ≤ fu) (b : List Int) (hb : By b) (hl : b.length ≤ 100000) : recScan fu b = some ((scan8 b fu 0).1, (scan8 b fu 0).2, ()) ∧ ref08Scan fu b = some ((scan8 b fu 0).1, (scan8 b fu 0).2, ()) := by
  unfold recScan ref08Scan
  exact scan_rounds fu hfu (fun a c => some (a, c, ())) b hb hl fu 0 [] (by omega) (by omega) (by omega) (by simp)
theorem ixLL {l : List (List Int)} {i : Nat} (h : i < l.length) : ixL ([] : List Int) l i = l[i] := by
  unfold ixL
  simp [List.getElem?_eq_getElem h]
theorem same8_rounds (fu : Nat) (k1 : Bool → Option (Bool × Unit)) (k2 : Unit → Option (Bool × Unit)) (a b : List (List Int)) (ha : a.length ≤ 1000000) (hb : b.length = a.length) : ∀ (m i : Nat), i ≤ a.length → a.length < i + m →
    ref08Same.l4 fu k1 k2 m a b a.length i = cond (a.drop i == b.drop i) (k2 ()) (k1 false) := by
  intro m
  induction m with
  | zero => intro i h1 h2; omega
  | succ m ih =>
    intro i h1 h2
    unfold ref08Same.l4 ref08Same.b4
    by_cases h : i < a.length
    · have hi : (i : Int) < a.length := by omega
      have hx : ixOk a i = true := by simp [ixOk, h]
      have hy : ixOk b i = true := by simp [ixOk, hb, h]
      have e1 : IntKind.i64.wrap ((i : Int) + 1) = (i + 1 : Nat) := wrap_i64 (by omega) (by omega)
      have hb' : i < b.length := by omega
      rw [List.drop_eq_getElem_cons h, List.drop_eq_getElem_cons hb']
      simp only [hi, decide_true, cond_true, chk, hx, hy, ixLL h, ixLL hb', e1, List.cons_beq_cons]
      by_cases he : a[i] = b[i]
      · have h1 : (a[i] != b[i]) = false := by simp [he]
        have h2 : (a[i] == b[i]) = true := by simp [he]
        simp only [h1, h2, cond_false, Bool.true_and]
        exact ih (i + 1) (by omega) (by omega)
      · have h1 : (a[i] != b[i]) = true := by simp [he]
        have h2 : (a[i] == b[i]) = false := by simp [he]
        simp only [h1, h2, cond_true, Bool.false_and, cond_false]
    · have hi : ¬ (i : Int) < a.length := by omega
      rw [List.drop_of_length_le (by omega), List.drop_of_length_le (by omega)]
      simp only [hi, decide_false, cond_false]
      rfl
theorem same8_self (fu : Nat) (a : List (List Int)) (ha : a.length ≤ 1000000) (hf : a.length < fu) : ref08Same fu a a = some (true, ()) := by
  unfold ref08Same
  have h1 : ((a.length : Int) != (a.length : Int)) = false := by simp
  have := same8_rounds fu (fun q => some (q, ())) (fun _ => some (true, ())) a a ha rfl fu 0 (by omega) (by omega)
  simp only [h1, cond_false]
  refine this.trans ?_
  simp
theorem fixed08 : law08Fixed 200000 = some (true, ()) := by kernel_rfl
theorem scan8_len (b : List Int) (hb : By b) : ∀ (m : Nat) (at' : Int), 0 ≤ at' → at' ≤ b.length → ((scan8 b m at').1.length : Int) ≤ (b.length : Int) - at' := by
  intro m
  induction m with
  | zero => intro at' h0 h1; simp [scan8]; omega
  | succ m ih =>
    intro at' h0 h1
    unfold scan8
    by_cases h : (got8 b at').2.2 = 0
    · obtain ⟨_, e1, e2⟩ := got8_end hb h
      rw [if_neg (fun hx => hx h)]
      have := ih (got8 b at').2.1 (by omega) e2
      simp only [List.length_cons]
      omega
    · rw [if_pos h]
      simp; omega
theorem i64Of {x : Int} (h : inR .i64 x) : -9223372036854775808 ≤ x ∧ x < 9223372036854775808 := by
  simp [inR, IntKind.min, IntKind.max, IntKind.signed, IntKind.bits] at h
  omega
/-- THE LAW. -/
theorem lawRecGets (b : List Int) (at' : Int) (h : okAll law08RecGets.con.ps (b, at', ())) : law08RecGets 200000 b at' = some (true, ()) := by
  unfold law08RecGets
  rw [fixed08]
  by_cases h1 : (b.length : Int) > 5000
  · simp only [h1, decide_true, cond_true, Option.bind_some]
  have hb : By b := byOf h.1
  have h63 := i64Of (x := at') h.2.1
  obtain ⟨s1, s2⟩ := scan_eq 200000 (by omega) b hb (by omega)
  have hlen := scan8_len b hb 200000 0 (by omega) (by omega)
  simp only [h1, decide_false, cond_false, recGet_eq 200000 b hb (by omega) (by omega) at' h63, refGet_eq 200000 (by omega) b hb (by omega) at' h63, s1, s2, Option.bind_some, cond_true, beq_self_eq_true]
  rw [same8_self 200000 _ (by omega) (by omega)]
  simp only [Option.bind_some, cond_true]

theorem cut_mid (a s r : List Int) (x y : Int) (hx : x = a.length) (hy : y = a.length + s.length) : cutL (a ++ s ++ r) x y = s := by
  subst hx hy
  unfold cutL
  rw [show ((a.length : Int) + (s.length : Int) - (a.length : Int)).toNat = s.length by omega, Int.toNat_natCast, List.append_assoc, List.drop_left, List.take_left]
theorem got8_put (a r rest : List Int) (hr : r.length ≤ 65536) : got8 (a ++ frame r ++ rest) a.length = (r, (a.length : Int) + 8 + r.length, 0) := by
  have hd1 : (a ++ frame r ++ rest).drop ((a.length : Int)).toNat = four r.length ++ (four (sumI (four r.length ++ r)) ++ (r ++ rest)) := by
    rw [Int.toNat_natCast, List.append_assoc, List.drop_left]
    unfold frame
    simp only [List.append_assoc]
  have hd2 : (a ++ frame r ++ rest).drop ((a.length : Int) + 4).toNat = four (sumI (four r.length ++ r)) ++ (r ++ rest) := by
    rw [show ((a.length : Int) + 4).toNat = a.length + 4 by omega, ← List.drop_drop]
    rw [Int.toNat_natCast] at hd1
    rw [hd1]
    rw [show 4 = (four r.length).length from rfl, List.drop_left]
  have v1 : val4 ((a ++ frame r ++ rest).drop ((a.length : Int)).toNat) = r.length := by rw [hd1]; exact val_four _ (by omega) (by omega) _
  have hS := sumI_in (four r.length ++ r)
  have v2 : val4 ((a ++ frame r ++ rest).drop ((a.length : Int) + 4).toNat) = sumI (four r.length ++ r) := by rw [hd2]; exact val_four _ hS.1 hS.2 _
  have hl : ((a ++ frame r ++ rest).length : Int) = a.length + 8 + r.length + rest.length := by
    rw [List.length_append, List.length_append, frame_len]; omega
  have c1 : cutL (a ++ frame r ++ rest) (a.length : Int) ((a.length : Int) + 4) = four r.length := by
    have e : a ++ frame r ++ rest = a ++ four r.length ++ (four (sumI (four r.length ++ r)) ++ r ++ rest) := by unfold frame; simp only [List.append_assoc]
    rw [e]; exact cut_mid _ _ _ _ _ rfl rfl
  have c2 : cutL (a ++ frame r ++ rest) ((a.length : Int) + 8) ((a.length : Int) + 8 + r.length) = r := by
    have e : a ++ frame r ++ rest = (a ++ four r.length ++ four (sumI (four r.length ++ r))) ++ r ++ rest := by unfold frame; simp only [List.append_assoc]
    rw [e]; exact cut_mid _ _ _ _ _ (by simp [four_len] <;> omega) (by simp [four_len] <;> omega)
  unfold got8
  rw [v1, v2, c1, c2, hl, if_neg (by omega), if_neg (by omega), if_neg (by omega), if_neg (fun h => h rfl)]
theorem puts_j5 (k1 : Bool → Option (Bool × Unit)) (b r : List Int) (hb : By b) (hr : By r) (hl : b.length ≤ 5000) (hrl : r.length ≤ 70000) : law08RecPuts.j5 200000 k1 b r = k1 true := by
  unfold law08RecPuts.j5
  rw [apOk1 (by simp; omega), fixed08]
  simp only [chk, cond_true, List.nil_append, recPut_eq 200000 (by omega) b r hb hr (by omega) (by omega), refPut_eq 200000 (by omega) b r hb hr (by omega) (by omega), Option.bind_some, Bool.not_true, cond_false, bne_self_eq_false]
  by_cases h : r.length > 65536
  · have h' : (r.length : Int) > 65536 := by omega
    rw [if_pos h]
    simp only [h', decide_true, show ((4 : Int) != 0) = true from rfl, cond_true]
  · rw [if_neg h]
    have hg := got8_put b r [] (by omega)
    rw [List.append_nil] at hg
    have hbl : ((b ++ frame r).length : Int) = b.length + 8 + r.length := by rw [List.length_append, frame_len]; omega
    have e1 : IntKind.i64.wrap ((8 : Int) + (r.length : Int)) = 8 + r.length := wrap_i64 (by omega) (by omega)
    have e2 : IntKind.i64.wrap ((b.length : Int) + (8 + (r.length : Int))) = b.length + 8 + r.length := by rw [wrap_i64 (by omega) (by omega)]; omega
    simp only [show ((0 : Int) != 0) = false from rfl, cond_false]
    rw [recGet_eq 200000 (b ++ frame r) (by_app hb (frame_by hr)) (by omega) (by omega) b.length (by omega), hg]
    unfold recSize
    simp only [Option.bind_some, hbl, e1, e2, beq_self_eq_true, cond_true]
/-- THE LAW. -/
theorem lawRecPuts (b r : List Int) (long : Bool) (h : okAll law08RecPuts.con.ps (b, r, long, ())) : law08RecPuts 200000 b r long = some (true, ()) := by
  unfold law08RecPuts
  by_cases h1 : (b.length : Int) > 5000
  · simp only [h1, decide_true, cond_true, fixed08, Option.bind_some]
  by_cases h2 : (r.length : Int) > 5000
  · simp only [h1, h2, decide_true, decide_false, cond_true, cond_false, fixed08, Option.bind_some]
  have hb : By b := byOf h.1
  have hr : By r := byOf h.2.1
  simp only [h1, h2, decide_false, cond_false]
  cases long with
  | false =>
    simp only [cond_false]
    rw [puts_j5 _ b r hb hr (by omega) (by omega)]
  | true =>
    have e1 : Int.tmod (r.length : Int) 2 = (r.length : Int) % 2 := Int.tmod_eq_emod_of_nonneg (by omega)
    have e2 : IntKind.i64.wrap ((65536 : Int) + (r.length : Int) % 2) = 65536 + (r.length : Int) % 2 := wrap_i64 (by omega) (by omega)
    have e3 : mkOk (65536 + (r.length : Int) % 2) (65536 + (r.length : Int) % 2) 1 = true := by
      have hL : (1000000 : Int) ≤ (LIM : Int) := by decide
      unfold mkOk
      simp only [Bool.and_eq_true, decide_eq_true_eq]
      omega
    simp only [cond_true, e1, e2, e3, chk]
    rw [puts_j5 _ b _ hb (fun x hx => by rw [List.eq_of_mem_replicate hx]; omega) (by omega) (by rw [List.length_replicate]; omega)]

/-! ### A row of frames -/
def frames : List (List Int) → List Int
  | [] => []
  | r :: l => frame r ++ frames l
theorem frames_cons (r : List Int) (l : List (List Int)) : frames (r :: l) = frame r ++ frames l := rfl
def endsOf (o : Int) : List (List Int) → List Int
  | [] => []
  | r :: l => (o + 8 + r.length) :: endsOf (o + 8 + r.length) l
def size8 : List (List Int) → Nat
  | [] => 0
  | r :: l => 8 + r.length + size8 l
theorem frames_len : ∀ l, (frames l).length = size8 l
  | [] => rfl
  | r :: l => by unfold frames size8; rw [List.length_append, frame_len, frames_len l]
theorem frames_by : ∀ {l : List (List Int)}, (∀ r ∈ l, By r) → By (frames l)
  | [], _ => fun x hx => by cases hx
  | r :: l, h => by_app (frame_by (h r (by simp))) (frames_by fun q hq => h q (by simp [hq]))
def cnt (k : Int) : List Int → Int → Int → Int × Int
  | [], w, a => (w, a)
  | e :: r, w, a => if e ≤ k then cnt k r (w + 1) e else cnt k r w a
theorem rounds6 (fu : Nat) (hfu : 200000 ≤ fu) (k1 : Bool → Option (Bool × Unit)) (k2 : (List (List Int)) → Int → (List Int) → (List Int) → Option (Bool × Unit)) (l v : List (List Int)) (n : Int) (hv : ∀ r ∈ v, By r) (hlen : v.length ≤ 200) (hsz : size8 v ≤ 10000) : ∀ (m i : Nat) (B E : List Int), i ≤ v.length → v.length < i + m → By B → B.length + size8 (v.drop i) ≤ 10000 → E.length ≤ i →
    law08RecRow.l6 fu k1 k2 m l n B E v v.length i = k2 l n (B ++ frames (v.drop i)) (E ++ endsOf B.length (v.drop i)) := by
  intro m
  induction m with
  | zero => intro i B E h1 h2; omega
  | succ m ih =>
    intro i B E h1 h2 hB hs hE
    unfold law08RecRow.l6 law08RecRow.b6
    by_cases h : i < v.length
    · have hi : (i : Int) < v.length := by omega
      have hx : ixOk v i = true := by simp [ixOk, h]
      have e1 : IntKind.i64.wrap ((i : Int) + 1) = (i + 1 : Nat) := wrap_i64 (by omega) (by omega)
      have hr := hv _ (List.getElem_mem h)
      rw [List.drop_eq_getElem_cons h] at hs ⊢
      simp only [hi, decide_true, cond_true, chk, hx, ixLL h]
      unfold size8 at hs
      unfold frames endsOf
      generalize v[i] = r at hr hs
      rw [recPut_eq fu (by omega) B r hB hr (by omega) (by omega), if_neg (by omega)]
      have hbl : ((B ++ frame r).length : Int) = B.length + 8 + r.length := by rw [List.length_append, frame_len]; omega
      have ea : apOk E [((B ++ frame r).length : Int)] 8 = true := by
        unfold apOk
        exact decide_eq_true (Nat.le_trans (Nat.mul_le_mul_right 8 (show E.length + [((B ++ frame r).length : Int)].length ≤ 1000 by simp; omega)) (by decide))
      simp only [Option.bind_some, bne_self_eq_false, cond_false, ea, cond_true, e1]
      rw [hbl]
      refine (ih (i + 1) (B ++ frame r) _ (by omega) (by omega) (by_app hB (frame_by hr)) (by rw [List.length_append, frame_len]; omega) (by simp; omega)).trans ?_
      rw [hbl]
      simp only [List.append_assoc, List.cons_append, List.nil_append]
    · have hi : ¬ (i : Int) < v.length := by omega
      rw [List.drop_of_length_le (by omega)]
      simp only [hi, decide_false, cond_false]
      unfold frames endsOf
      rw [List.append_nil, List.append_nil]
theorem rounds17 (fu : Nat) (k4 : (List (List Int)) → (List Int) → Int → Int → Int → Option (Bool × Unit)) (l : List (List Int)) (b : List Int) (kv : Int) (v : List Int) (hlen : v.length ≤ 200) : ∀ (m i : Nat) (w a : Int), i ≤ v.length → v.length < i + m → 0 ≤ w → w ≤ i →
    law08RecRow.l17 fu k4 m l b kv w a v v.length i = k4 l b kv (cnt kv (v.drop i) w a).1 (cnt kv (v.drop i) w a).2 := by
  intro m
  induction m with
  | zero => intro i w a h1 h2; omega
  | succ m ih =>
    intro i w a h1 h2 hw0 hw
    unfold law08RecRow.l17 law08RecRow.b17
    by_cases h : i < v.length
    · have hi : (i : Int) < v.length := by omega
      have hx : ixOk v i = true := by simp [ixOk, h]
      have e1 : IntKind.i64.wrap ((i : Int) + 1) = (i + 1 : Nat) := wrap_i64 (by omega) (by omega)
      have e2 : IntKind.i64.wrap (w + 1) = w + 1 := wrap_i64 (by omega) (by omega)
      rw [List.drop_eq_getElem_cons h]
      simp only [hi, decide_true, cond_true, chk, hx, ixL_get h, e1, e2]
      unfold cnt
      by_cases hk : v[i] ≤ kv
      · simp only [hk, decide_true, cond_true, if_true]
        exact ih (i + 1) _ _ (by omega) (by omega) (by omega) (by omega)
      · simp only [hk, decide_false, cond_false, if_false]
        exact ih (i + 1) _ _ (by omega) (by omega) (by omega) (by omega)
    · have hi : ¬ (i : Int) < v.length := by omega
      rw [List.drop_of_length_le (by omega)]
      simp only [hi, decide_false, cond_false]
      unfold cnt
      rfl
theorem cnt_shift (k : Int) : ∀ (l : List Int) (w a : Int), cnt k l w a = (w + (cnt k l 0 a).1, (cnt k l 0 a).2)
  | [], w, a => by simp [cnt]
  | e :: r, w, a => by
    unfold cnt
    by_cases h : e ≤ k
    · simp only [h, if_true]
      rw [cnt_shift k r (w + 1) e, cnt_shift k r (0 + 1) e]
      simp only [Prod.mk.injEq, and_true]
      omega
    · simp only [h, if_false]
      exact cnt_shift k r w a
theorem cnt_none (k : Int) : ∀ (l : List (List Int)) (o w a : Int), k < o → cnt k (endsOf o l) w a = (w, a)
  | [], o, w, a, h => rfl
  | r :: l, o, w, a, h => by
    unfold endsOf cnt
    rw [if_neg (by omega)]
    exact cnt_none k l _ w a (by omega)
theorem val4_take {l : List Int} {q : Nat} (h : 4 ≤ q) : val4 (l.take q) = val4 l := by
  have : ∀ j : Nat, j < 4 → ixL (0 : Int) (l.take q) j = ixL (0 : Int) l j := fun j hj => by
    unfold ixL
    rw [Int.toNat_natCast]
    simp only [List.getD]
    rw [List.getElem?_take_of_lt (by omega)]
  have t0 := this 0 (by omega)
  have t1 := this 1 (by omega)
  have t2 := this 2 (by omega)
  have t3 := this 3 (by omega)
  unfold val4
  simp only [Int.natCast_zero, Int.natCast_one] at t0 t1
  rw [show ((2 : Nat) : Int) = 2 from rfl] at t2
  rw [show ((3 : Nat) : Int) = 3 from rfl] at t3
  rw [t0, t1, t2, t3]
theorem scan_cut : ∀ (l : List (List Int)) (pre : List Int) (k m : Nat), (∀ r ∈ l, r.length ≤ 65536) → pre.length ≤ k → k ≤ (pre ++ frames l).length → k - pre.length < m →
    scan8 ((pre ++ frames l).take k) m pre.length = (l.take (cnt k (endsOf pre.length l) 0 pre.length).1.toNat, (cnt k (endsOf pre.length l) 0 pre.length).2) ∧ 0 ≤ (cnt k (endsOf pre.length l) 0 pre.length).1 ∧ (cnt k (endsOf pre.length l) 0 pre.length).1 ≤ l.length := by
  intro l
  induction l with
  | nil =>
    intro pre k m hr h1 h2 hm
    obtain ⟨m, rfl⟩ : ∃ q, m = q + 1 := ⟨m - 1, by omega⟩
    have hk : k = pre.length := by simp [frames] at h2; omega
    subst hk
    have e : (pre ++ frames []).take pre.length = pre := by simp [frames]
    rw [e]
    unfold scan8 endsOf cnt
    have hg : got8 pre pre.length = ([], 0, 3) := by unfold got8; rw [if_pos (by omega)]
    rw [hg]
    simp
  | cons r l ih =>
    intro pre k m hr h1 h2 hm
    obtain ⟨m, rfl⟩ : ∃ q, m = q + 1 := ⟨m - 1, by omega⟩
    have hrl := hr r (by simp)
    unfold endsOf cnt
    have hwl : (pre ++ frames (r :: l)).length = pre.length + (8 + r.length) + (frames l).length := by
      rw [frames_cons, List.length_append, List.length_append, frame_len]; omega
    by_cases hk : (pre.length : Int) + 8 + r.length ≤ k
    · rw [if_pos hk]
      have e : (pre ++ frames (r :: l)).take k = pre ++ frame r ++ (frames l).take (k - (pre.length + (8 + r.length))) := by
        rw [frames_cons, ← List.append_assoc, List.take_append, List.length_append, frame_len, List.take_of_length_le (by rw [List.length_append, frame_len]; omega)]
      have e2 : (pre ++ frames (r :: l)).take k = (pre ++ frame r ++ frames l).take k := by rw [frames_cons, List.append_assoc]
      have hg := got8_put pre r ((frames l).take (k - (pre.length + (8 + r.length)))) hrl
      rw [← e] at hg
      unfold scan8
      rw [hg, if_neg (by simp)]
      have hpl : ((pre ++ frame r).length : Int) = pre.length + 8 + r.length := by rw [List.length_append, frame_len]; omega
      obtain ⟨i1, i2, i3⟩ := ih (pre ++ frame r) k m (fun q hq => hr q (by simp [hq])) (by omega) (by rw [List.append_assoc, ← frames_cons]; exact h2) (by omega)
      rw [hpl] at i1 i2 i3
      rw [e2]
      simp only
      rw [i1, cnt_shift k _ (0 + 1)]
      refine ⟨?_, by simp only; omega, by simp only [List.length_cons]; omega⟩
      simp only
      rw [show ((0 : Int) + 1 + (cnt (k : Int) (endsOf (pre.length + 8 + r.length) l) 0 (pre.length + 8 + r.length)).1).toNat = (cnt (k : Int) (endsOf (pre.length + 8 + r.length) l) 0 (pre.length + 8 + r.length)).1.toNat + 1 by omega]
      rfl
    · rw [if_neg hk, cnt_none k l _ 0 _ (by omega)]
      have hg : (got8 ((pre ++ frames (r :: l)).take k) pre.length).2.2 ≠ 0 := by
        have htl : ((pre ++ frames (r :: l)).take k).length = k := by rw [List.length_take]; omega
        unfold got8
        by_cases h4 : (pre.length : Int) > (k : Int) - 4
        · rw [htl, if_pos (.inr h4)]; simp
        · rw [htl, if_neg (by omega)]
          have hv : val4 (((pre ++ frames (r :: l)).take k).drop ((pre.length : Int)).toNat) = r.length := by
            rw [Int.toNat_natCast, List.drop_take, List.drop_left, val4_take (by omega)]
            rw [frames_cons]
            unfold frame
            simp only [List.append_assoc]
            exact val_four _ (by omega) (by omega) _
          rw [hv, if_neg (by omega), if_pos (by omega)]
          simp
      unfold scan8
      rw [if_pos hg]
      simp
      omega
theorem cnt_all (k : Int) : ∀ (l : List (List Int)) (o w : Int), o + size8 l ≤ k → cnt k (endsOf o l) w o = (w + l.length, o + size8 l)
  | [], o, w, h => by simp [endsOf, cnt, size8]
  | r :: l, o, w, h => by
    unfold size8 at h
    unfold endsOf cnt size8
    rw [if_pos (by omega), cnt_all k l _ _ (by omega)]
    simp only [List.length_cons, Prod.mk.injEq]
    omega
theorem min2_eq (x y : Int) : min2 x y = min x y := by unfold min2; split <;> omega
def tot8 : List (List Int) → Int
  | [] => 0
  | r :: l => min (r.length : Int) 9000 + tot8 l
theorem tot8_in : ∀ l, 0 ≤ tot8 l ∧ tot8 l ≤ 9000 * l.length
  | [] => by simp [tot8]
  | r :: l => by have := tot8_in l; unfold tot8; simp only [List.length_cons]; omega
theorem great_rounds (fu : Nat) (k2 : Int → Option (Bool × Unit)) (l : List (List Int)) (hl : l.length ≤ 200) : ∀ (m i : Nat) (n : Int), i ≤ l.length → l.length < i + m → 0 ≤ n → n ≤ 200 + 9000 * i →
    ref08Great.l5 fu k2 m l n l.length i = k2 (n + tot8 (l.drop i)) := by
  intro m
  induction m with
  | zero => intro i n h1 h2; omega
  | succ m ih =>
    intro i n h1 h2 hn0 hn
    unfold ref08Great.l5 ref08Great.b5
    by_cases h : i < l.length
    · have hi : (i : Int) < l.length := by omega
      have hx : ixOk l i = true := by simp [ixOk, h]
      have e1 : IntKind.i64.wrap ((i : Int) + 1) = (i + 1 : Nat) := wrap_i64 (by omega) (by omega)
      rw [List.drop_eq_getElem_cons h]
      simp only [hi, decide_true, cond_true, chk, hx, ixLL h, e1, min2_eq]
      unfold tot8
      have e2 : IntKind.i64.wrap (n + min (l[i].length : Int) 9000) = n + min (l[i].length : Int) 9000 := wrap_i64 (by omega) (by omega)
      rw [e2]
      refine (ih (i + 1) _ (by omega) (by omega) (by omega) (by omega)).trans ?_
      rw [Int.add_assoc]
    · have hi : ¬ (i : Int) < l.length := by omega
      rw [List.drop_of_length_le (by omega)]
      simp only [hi, decide_false, cond_false]
      unfold tot8
      rw [Int.add_zero]
theorem great_eq (fu : Nat) (hfu : 300 ≤ fu) (l : List (List Int)) : ref08Great fu l = some (decide (l.length > 200) || decide ((l.length : Int) + tot8 l > 8000), ()) := by
  unfold ref08Great
  by_cases h : l.length > 200
  · have h' : (l.length : Int) > 200 := by omega
    simp only [h, h', decide_true, cond_true, Bool.true_or]
  · have h' : ¬ (l.length : Int) > 200 := by omega
    simp only [h, h', decide_false, cond_false, Bool.false_or]
    have := great_rounds fu (fun nq2 => some (decide (nq2 > (8000 : Int)), ())) l (by omega) fu 0 l.length (by omega) (by omega) (by omega) (by omega)
    rw [List.drop_zero] at this
    exact this
theorem tot_size : ∀ (l : List (List Int)), tot8 l ≤ 8000 → (size8 l : Int) = 8 * l.length + tot8 l ∧ ∀ r ∈ l, r.length ≤ 8000
  | [], h => ⟨by simp [size8, tot8], fun r hr => by cases hr⟩
  | r :: l, h => by
    unfold tot8 at h
    have h0 := tot8_in l
    obtain ⟨i1, i2⟩ := tot_size l (by omega)
    unfold size8 tot8
    refine ⟨?_, fun q hq => ?_⟩
    · simp only [List.length_cons]
      omega
    · rcases List.mem_cons.1 hq with rfl | hq
      · omega
      · exact i2 q hq
theorem ends_len : ∀ (o : Int) (l : List (List Int)), (endsOf o l).length = l.length
  | _, [] => rfl
  | o, r :: l => by unfold endsOf; simp [ends_len _ l]
theorem u16Of {x : Int} (h : inR .u16 x) : 0 ≤ x ∧ x < 65536 := by
  simp [inR, IntKind.min, IntKind.max, IntKind.signed, IntKind.bits] at h
  omega
/-- THE LAW. -/
theorem lawRecRow (l : List (List Int)) (n : Int) (h : okAll law08RecRow.con.ps (l, n, ())) : law08RecRow 200000 l n = some (true, ()) := by
  unfold law08RecRow
  rw [great_eq 200000 (by omega) l]
  by_cases hg : l.length > 200 ∨ (l.length : Int) + tot8 l > 8000
  · have : (decide (l.length > 200) || decide ((l.length : Int) + tot8 l > 8000)) = true := by
      rw [Bool.or_eq_true, decide_eq_true_eq, decide_eq_true_eq]; exact hg
    simp only [this, Option.bind_some, cond_true, fixed08]
  · have hf : (decide (l.length > 200) || decide ((l.length : Int) + tot8 l > 8000)) = false := by
      rw [Bool.or_eq_false_iff, decide_eq_false_iff_not, decide_eq_false_iff_not]; omega
    have ht := tot8_in l
    obtain ⟨z1, z2⟩ := tot_size l (by omega)
    have hby : ∀ r ∈ l, By r := fun r hr => byOf (h.1.2 r hr)
    have hn := u16Of (x := n) h.2.1
    have hfl := frames_len l
    simp only [hf, Option.bind_some, cond_false]
    refine (rounds6 200000 (by omega) _ _ l l n hby (by omega) (by omega) 200000 0 [] [] (by omega) (by omega) (fun x hx => by cases hx) (by rw [List.drop_zero]; simp; omega) (by simp)).trans ?_
    rw [List.drop_zero]
    simp only [List.nil_append, List.length_nil]
    generalize hE : endsOf ((0 : Nat) : Int) l = E
    generalize hB : frames l = B at hfl
    have hBy : By B := by rw [← hB]; exact frames_by hby
    have e1 : IntKind.i64.wrap ((B.length : Int) + 1) = B.length + 1 := wrap_i64 (by omega) (by omega)
    have e2 : IntKind.i64.wrap n = n := wrap_i64 (by omega) (by omega)
    have e3 : ((B.length : Int) + 1 != 0) = true := by rw [bne_iff_ne]; omega
    have e4 : Int.tmod n ((B.length : Int) + 1) = n % ((B.length : Int) + 1) := Int.tmod_eq_emod_of_nonneg hn.1
    simp only [e1, e2, e3, e4, chk, cond_true]
    obtain ⟨k, hk⟩ : ∃ k : Nat, n % ((B.length : Int) + 1) = k := ⟨(n % ((B.length : Int) + 1)).toNat, by have := Int.emod_nonneg n (b := (B.length : Int) + 1) (by omega); omega⟩
    have hkl : k ≤ B.length := by have := Int.emod_lt_of_pos n (b := (B.length : Int) + 1) (by omega); omega
    rw [hk]
    have hEl : E.length = l.length := by rw [← hE]; exact ends_len _ _
    refine (rounds17 200000 _ l B k E (by omega) 200000 0 0 0 (by omega) (by omega) (by omega) (by omega)).trans ?_
    rw [List.drop_zero]
    have hfr : ([] : List Int) ++ frames l = B := by rw [List.nil_append, hB]
    obtain ⟨c1, c2, c3⟩ := scan_cut l [] k 200000 (fun r hr => by have := z2 r hr; omega) (by simp) (by rw [hfr]; exact hkl) (by simp; omega)
    obtain ⟨d1, _, _⟩ := scan_cut l [] B.length 200000 (fun r hr => by have := z2 r hr; omega) (by simp) (by rw [hfr]; omega) (by simp; omega)
    rw [hfr] at c1 d1
    simp only [List.length_nil] at c1 c2 c3 d1
    rw [hE] at c1 c2 c3 d1
    have hall := cnt_all (B.length : Int) l 0 0 (by omega)
    rw [← hE, show ((0 : Nat) : Int) = 0 from rfl] at d1
    rw [hall] at d1
    rw [List.take_of_length_le (Nat.le_refl _)] at d1
    rw [show ((0 : Nat) : Int) = 0 from rfl] at c1 c2 c3
    have hcut : cutL B 0 (k : Int) = B.take k := by unfold cutL; simp
    have hok : cutOk B 0 (k : Int) = true := cutOk_of (by omega) (by omega) (by omega)
    have hBk : By (B.take k) := fun x hx => hBy x (List.mem_of_mem_take hx)
    obtain ⟨s1, _⟩ := scan_eq 200000 (by omega) (B.take k) hBk (by rw [List.length_take]; omega)
    obtain ⟨s2, _⟩ := scan_eq 200000 (by omega) B hBy (by omega)
    rw [c1] at s1
    rw [d1] at s2
    have hcut2 : cutL l 0 (cnt (k : Int) E 0 0).1 = l.take (cnt (k : Int) E 0 0).1.toNat := by unfold cutL; simp
    have hok2 : cutOk l 0 (cnt (k : Int) E 0 0).1 = true := by simp [cutOk]; omega
    have hlt : (l.take (0 + (l.length : Int)).toNat) = l := by rw [List.take_of_length_le (by omega)]
    simp only [hok, hcut, cond_true, s1, s2, Option.bind_some, fixed08, hlt]
    have hz : (0 : Int) + (size8 l : Int) = B.length := by omega
    rw [same8_self 200000 l (by omega) (by omega)]
    simp only [Option.bind_some, cond_true, hz, beq_self_eq_true, hok2, hcut2]
    rw [same8_self 200000 _ (by rw [List.length_take]; omega) (by rw [List.length_take]; omega)]
    simp only [Option.bind_some, cond_true]
end Go.Shal.Pr
