/- The plain law of sums: what the printed functions compute is the document's. No condition but that the arguments fit their types. By an AI agent. -/
import Derived.Test.YtpfmaljnnhammaaDoorGen01
set_option linter.unusedVariables false
namespace Go.Shal.Pr
open Go Go.Shal Go.Proofs
theorem wrap_i64 {x : Int} (h0 : -9223372036854775808 ≤ x) (h1 : x < 9223372036854775808) : IntKind.i64.wrap x = x := by
  simp only [IntKind.wrap, IntKind.signed, IntKind.bits]
  simp
  omega
theorem wrap_u32 {x : Int} (h0 : 0 ≤ x) (h1 : x < 4294967296) : IntKind.u32.wrap x = x := by
  simp only [IntKind.wrap, IntKind.signed, IntKind.bits]
  simp
  omega
theorem ixL_get {l : List Int} {i : Nat} (h : i < l.length) : ixL (0 : Int) l i = l[i] := by
  unfold ixL
  simp [List.getElem?_eq_getElem h]
/-- Rows of 32 bits. -/
abbrev B32 := BitVec 32
def wv (a : B32) : Int := (a.toNat : Int)
theorem wv_lt (a : B32) : 0 ≤ wv a ∧ wv a < 4294967296 := by have := a.isLt; unfold wv; omega
theorem ofInt_wv (a : B32) : BitVec.ofInt 32 (wv a) = a := by
  unfold wv
  rw [BitVec.ofInt_natCast, BitVec.ofNat_toNat, BitVec.setWidth_eq]
theorem wv_ofInt {x : Int} (h0 : 0 ≤ x) (h1 : x < 4294967296) : wv (BitVec.ofInt 32 x) = x := by
  obtain ⟨n, rfl⟩ := Int.eq_ofNat_of_zero_le h0
  show ((BitVec.ofInt 32 (n : Int)).toNat : Int) = n
  rw [BitVec.ofInt_natCast, BitVec.toNat_ofNat, Nat.mod_eq_of_lt (by omega)]
theorem xor_wv (a b : B32) : bXor .u32 (wv a) (wv b) = wv (a ^^^ b) := by
  show IntKind.u32.wrap (((BitVec.ofInt 32 (wv a) ^^^ BitVec.ofInt 32 (wv b)).toNat : Nat) : Int) = _
  rw [ofInt_wv, ofInt_wv]
  exact wrap_u32 (wv_lt _).1 (wv_lt _).2
theorem and_wv (a b : B32) : bAnd .u32 (wv a) (wv b) = wv (a &&& b) := by
  show IntKind.u32.wrap (((BitVec.ofInt 32 (wv a) &&& BitVec.ofInt 32 (wv b)).toNat : Nat) : Int) = _
  rw [ofInt_wv, ofInt_wv]
  exact wrap_u32 (wv_lt _).1 (wv_lt _).2
theorem not_wv (a : B32) : bNot .u32 (wv a) = wv (a ^^^ 4294967295#32) := by
  have e : bNot .u32 (wv a) = bXor .u32 4294967295 (wv a) := rfl
  rw [e, show (4294967295 : Int) = wv 4294967295#32 from rfl, xor_wv, BitVec.xor_comm]
theorem shr_wv (a : B32) (k : Nat) (hk : k < 32) : sShr .u32 (wv a) (k : Int) = wv (a >>> k) := by
  unfold sShr
  have e : min (k : Int).toNat IntKind.u32.bits = k := by simp only [IntKind.bits]; omega
  rw [e]
  unfold wv
  rw [BitVec.toNat_ushiftRight, Nat.shiftRight_eq_div_pow, Int.fdiv_eq_ediv_of_nonneg _ (by exact_mod_cast Nat.zero_le _), Int.natCast_ediv, Int.natCast_pow]
  rfl
/-- One bit falls out. -/
def pol : B32 := 3988292384#32
def st1 (r : B32) : B32 := (r >>> 1) ^^^ (if r.getLsbD 0 = true then pol else 0#32)
theorem st1_xor (a b : B32) : st1 (a ^^^ b) = st1 a ^^^ st1 b := by
  unfold st1
  rw [BitVec.ushiftRight_xor_distrib, BitVec.getLsbD_xor]
  have e : (if (a.getLsbD 0 ^^ b.getLsbD 0) = true then pol else 0#32) = (if a.getLsbD 0 = true then pol else 0#32) ^^^ (if b.getLsbD 0 = true then pol else 0#32) := by
    cases a.getLsbD 0 <;> cases b.getLsbD 0 <;> simp
  rw [e]
  ac_rfl
def st4 (r : B32) : B32 := st1 (st1 (st1 (st1 r)))
theorem st4_xor (a b : B32) : st4 (a ^^^ b) = st4 a ^^^ st4 b := by unfold st4; simp only [st1_xor]
def tabB (m : B32) : B32 := BitVec.ofInt 32 (ixL (0 : Int) tabCrcHalves (wv m))
theorem st1_even {a : B32} (h : a.getLsbD 0 = false) : st1 a = a >>> 1 := by unfold st1; rw [h]; simp
theorem st4_high (r : B32) : st4 (r &&& 4294967280#32) = r >>> 4 := by
  have b : ∀ i, i < 4 → (r &&& 4294967280#32).getLsbD i = false := fun i hi => by
    rw [BitVec.getLsbD_and]
    have : (4294967280#32).getLsbD i = false := by
      match i, hi with
      | 0, _ => rfl
      | 1, _ => rfl
      | 2, _ => rfl
      | 3, _ => rfl
    rw [this, Bool.and_false]
  have go : ∀ (k : Nat), k < 4 → st1 ((r &&& 4294967280#32) >>> k) = (r &&& 4294967280#32) >>> (k + 1) := fun k hk => by
    rw [st1_even (by rw [BitVec.getLsbD_ushiftRight, Nat.add_zero]; exact b k hk), BitVec.shiftRight_add]
  have g0 := go 0 (by omega)
  rw [BitVec.ushiftRight_zero] at g0
  unfold st4
  rw [g0, go 1 (by omega), go 2 (by omega), go 3 (by omega)]
  apply BitVec.eq_of_getLsbD_eq
  intro i hi
  rw [BitVec.getLsbD_ushiftRight, BitVec.getLsbD_ushiftRight, BitVec.getLsbD_and]
  have : ∀ i : Fin 32, i.val < 28 → (4294967280#32).getLsbD (4 + i.val) = true := by decide
  by_cases h28 : i < 28
  · rw [this ⟨i, hi⟩ h28, Bool.and_true]
  · rw [BitVec.getLsbD_of_ge r (4 + i) (by omega), Bool.false_and]
theorem st4_low (m : B32) (h : m.toNat < 16) : st4 m = tabB m := by
  have key : ∀ n : Fin 16, st4 (BitVec.ofNat 32 n.val) = tabB (BitVec.ofNat 32 n.val) := by decide +kernel
  have := key ⟨m.toNat, h⟩
  simp only [BitVec.ofNat_toNat, BitVec.setWidth_eq] at this
  exact this
theorem low_lt (r : B32) : (r &&& 15#32).toNat < 16 := by
  rw [BitVec.toNat_and]
  exact Nat.lt_of_le_of_lt Nat.and_le_right (by decide)
theorem st4_eq (r : B32) : st4 r = (r >>> 4) ^^^ tabB (r &&& 15#32) := by
  have e : r = (r &&& 4294967280#32) ^^^ (r &&& 15#32) := by
    apply BitVec.eq_of_getLsbD_eq
    intro i hi
    rw [BitVec.getLsbD_xor, BitVec.getLsbD_and, BitVec.getLsbD_and]
    have : ∀ i : Fin 32, (15#32).getLsbD i.val = !(4294967280#32).getLsbD i.val := by decide
    rw [this ⟨i, hi⟩]
    cases r.getLsbD i <;> cases (4294967280#32).getLsbD i <;> rfl
  conv => lhs; rw [e]
  rw [st4_xor, st4_high, st4_low _ (low_lt r)]
def st8 (r : B32) : B32 := st4 (st4 r)
/-- A row behind bytes. -/
def rowB (r : B32) (l : List Int) : B32 := l.foldl (fun r c => st8 (r ^^^ BitVec.ofInt 32 c)) r
theorem tab_wv (r : B32) : ixArr 16 (bAnd .u32 (wv r) (15 : Int)) = true ∧ bXor .u32 (sShr .u32 (wv r) (4 : Int)) (ixL (0 : Int) tabCrcHalves (bAnd .u32 (wv r) (15 : Int))) = wv (st4 r) := by
  have e1 : bAnd .u32 (wv r) (15 : Int) = wv (r &&& 15#32) := and_wv r 15#32
  have hl := low_lt r
  have e2 : sShr .u32 (wv r) (4 : Int) = wv (r >>> 4) := shr_wv r 4 (by omega)
  rw [e1, e2]
  refine ⟨by unfold ixArr wv; simp only [Bool.and_eq_true, decide_eq_true_eq]; omega, ?_⟩
  have e3 : ixL (0 : Int) tabCrcHalves (wv (r &&& 15#32)) = wv (tabB (r &&& 15#32)) := by
    have key : ∀ n : Fin 16, ixL (0 : Int) tabCrcHalves (wv (BitVec.ofNat 32 n.val)) = wv (tabB (BitVec.ofNat 32 n.val)) := by decide +kernel
    have := key ⟨(r &&& 15#32).toNat, hl⟩
    simp only [BitVec.ofNat_toNat, BitVec.setWidth_eq] at this
    exact this
  rw [e3, xor_wv, st4_eq]
def By (l : List Int) : Prop := ∀ b ∈ l, (0 : Int) ≤ b ∧ b ≤ 255
theorem carry_rounds (fu : Nat) (k2 : Int → Option (Int × Unit)) (b : List Int) (hb : By b) (hl : b.length ≤ 1000000) : ∀ (m i : Nat) (r : B32), i ≤ b.length → b.length < i + m →
    crcCarry.l2 fu k2 m (wv r) b b.length i = k2 (wv (rowB r (b.drop i))) := by
  intro m
  induction m with
  | zero => intro i r h1 h2; omega
  | succ m ih =>
    intro i r h1 h2
    unfold crcCarry.l2 crcCarry.b2
    by_cases h : i < b.length
    · have hi : (i : Int) < b.length := by omega
      have hx : ixOk b i = true := by simp [ixOk, h]
      have e1 : IntKind.i64.wrap ((i : Int) + 1) = (i + 1 : Nat) := wrap_i64 (by omega) (by omega)
      have hc := hb _ (List.getElem_mem h)
      rw [List.drop_eq_getElem_cons h]
      simp only [hi, decide_true, cond_true, chk, hx, ixL_get h]
      generalize b[i] = c at hc
      have e2 : bXor .u32 (wv r) (IntKind.u32.wrap c) = wv (r ^^^ BitVec.ofInt 32 c) := by
        rw [wrap_u32 (by omega) (by omega), ← xor_wv, wv_ofInt (by omega) (by omega)]
      obtain ⟨q1, q2⟩ := tab_wv (r ^^^ BitVec.ofInt 32 c)
      obtain ⟨q3, q4⟩ := tab_wv (st4 (r ^^^ BitVec.ofInt 32 c))
      simp only [e1, e2, q1, q2, q3, q4, cond_true]
      exact ih (i + 1) (st8 (r ^^^ BitVec.ofInt 32 c)) (by omega) (by omega)
    · have hi : ¬ (i : Int) < b.length := by omega
      rw [List.drop_of_length_le (by omega)]
      simp only [hi, decide_false, cond_false]
      rfl
theorem carry_eq (fu : Nat) (b : List Int) (hb : By b) (hl : b.length ≤ 1000000) (hf : b.length < fu) (r : B32) : crcCarry fu (wv r) b = some (wv (rowB r b), ()) := by
  unfold crcCarry
  have := carry_rounds fu (fun q => some (q, ())) b hb hl fu 0 r (by omega) (by omega)
  rw [List.drop_zero] at this
  exact this
def moreB (s : B32) (b : List Int) : B32 := rowB (s ^^^ 4294967295#32) b ^^^ 4294967295#32
theorem more_eq (fu : Nat) (b : List Int) (hb : By b) (hl : b.length ≤ 1000000) (hf : b.length < fu) (s : B32) : crcMore fu (wv s) b = some (wv (moreB s b), ()) := by
  unfold crcMore
  rw [not_wv, carry_eq fu b hb hl hf]
  simp only [Option.bind_some, not_wv]
  rfl
theorem sum_eq (fu : Nat) (b : List Int) (hb : By b) (hl : b.length ≤ 1000000) (hf : b.length < fu) : crcSum fu b = some (wv (moreB 0#32 b), ()) := by
  unfold crcSum
  have := more_eq fu b hb hl hf 0#32
  rw [show wv 0#32 = 0 from rfl] at this
  rw [this]
  rfl
theorem st1_wv (r : B32) : (Int.tmod (wv r) 2 == 1) = r.getLsbD 0 ∧ IntKind.u32.wrap (Int.tdiv (wv r) 2) = wv (r >>> 1) := by
  have hr := wv_lt r
  constructor
  · rw [Int.tmod_eq_emod_of_nonneg hr.1]
    have : r.getLsbD 0 = decide (r.toNat % 2 = 1) := by
      show r.toNat.testBit 0 = _
      rw [Nat.testBit_zero]
    rw [this]
    unfold wv
    by_cases h : r.toNat % 2 = 1
    · have : ((r.toNat : Int) % 2) = 1 := by omega
      rw [this]; simp [h]
    · have : ((r.toNat : Int) % 2) = 0 := by omega
      rw [this]; simp [h]
  · rw [Int.tdiv_eq_ediv_of_nonneg hr.1, wrap_u32 (by omega) (by omega)]
    unfold wv
    rw [BitVec.toNat_ushiftRight, Nat.shiftRight_eq_div_pow]
    omega
def stN : Nat → B32 → B32
  | 0, r => r
  | j + 1, r => stN j (st1 r)
theorem ref_bits (fu : Nat) (k4 : Int → (List Int) → Int → Int → Option (Int × Unit)) (b : List Int) (v vx : Int) : ∀ (j m k : Nat) (r : B32), k + j = 8 → j < m → ref01Row.l6 fu k4 m (wv r) b k v vx = k4 (wv (stN j r)) b v vx := by
  intro j
  induction j with
  | zero =>
    intro m k r hk hm
    obtain ⟨m, rfl⟩ : ∃ q, m = q + 1 := ⟨m - 1, by omega⟩
    unfold ref01Row.l6 ref01Row.b6
    have h : ¬ (k : Int) < 8 := by omega
    simp only [h, decide_false, cond_false]
    rfl
  | succ j ih =>
    intro m k r hk hm
    obtain ⟨m, rfl⟩ : ∃ q, m = q + 1 := ⟨m - 1, by omega⟩
    unfold ref01Row.l6 ref01Row.b6
    have h : (k : Int) < 8 := by omega
    have e1 : IntKind.i64.wrap ((k : Int) + 1) = (k + 1 : Nat) := wrap_i64 (by omega) (by omega)
    obtain ⟨q1, q2⟩ := st1_wv r
    have e2 : bXor .u32 (wv (r >>> 1)) (3988292384 : Int) = wv ((r >>> 1) ^^^ pol) := xor_wv _ pol
    simp only [h, decide_true, cond_true, q1, q2, e1, e2]
    unfold stN
    cases hg : r.getLsbD 0 with
    | true =>
      have : st1 r = (r >>> 1) ^^^ pol := by unfold st1; rw [hg]; rfl
      rw [this]
      exact ih m (k + 1) _ (by omega) (by omega)
    | false =>
      rw [st1_even hg]
      exact ih m (k + 1) _ (by omega) (by omega)
theorem row_rounds (fu : Nat) (hfu : 8 < fu) (k2 : Int → Option (Int × Unit)) (b : List Int) (hb : By b) (hl : b.length ≤ 1000000) : ∀ (m i : Nat) (r : B32), i ≤ b.length → b.length < i + m →
    ref01Row.l2 fu k2 m (wv r) b b.length i = k2 (wv (rowB r (b.drop i))) := by
  intro m
  induction m with
  | zero => intro i r h1 h2; omega
  | succ m ih =>
    intro i r h1 h2
    unfold ref01Row.l2 ref01Row.b2
    by_cases h : i < b.length
    · have hi : (i : Int) < b.length := by omega
      have hx : ixOk b i = true := by simp [ixOk, h]
      have e1 : IntKind.i64.wrap ((i : Int) + 1) = (i + 1 : Nat) := wrap_i64 (by omega) (by omega)
      have hc := hb _ (List.getElem_mem h)
      rw [List.drop_eq_getElem_cons h]
      simp only [hi, decide_true, cond_true, chk, hx, ixL_get h]
      generalize b[i] = c at hc
      have e2 : bXor .u32 (wv r) (IntKind.u32.wrap c) = wv (r ^^^ BitVec.ofInt 32 c) := by
        rw [wrap_u32 (by omega) (by omega), ← xor_wv, wv_ofInt (by omega) (by omega)]
      rw [e2]
      have := ref_bits fu (fun rowq4 bq4 vq4 vq4x2 => ref01Row.l2 fu k2 m rowq4 bq4 vq4 (IntKind.i64.wrap (vq4x2 + (1 : Int)))) b b.length i 8 fu 0 (r ^^^ BitVec.ofInt 32 c) (by omega) (by omega)
      refine this.trans ?_
      rw [e1]
      exact ih (i + 1) (st8 (r ^^^ BitVec.ofInt 32 c)) (by omega) (by omega)
    · have hi : ¬ (i : Int) < b.length := by omega
      rw [List.drop_of_length_le (by omega)]
      simp only [hi, decide_false, cond_false]
      rfl
theorem row_eq (fu : Nat) (hfu : 8 < fu) (b : List Int) (hb : By b) (hl : b.length ≤ 1000000) (hf : b.length < fu) (r : B32) : ref01Row fu (wv r) b = some (wv (rowB r b), ()) := by
  unfold ref01Row
  have := row_rounds fu hfu (fun q => some (q, ())) b hb hl fu 0 r (by omega) (by omega)
  rw [List.drop_zero] at this
  exact this
theorem refSum_eq (fu : Nat) (hfu : 8 < fu) (b : List Int) (hb : By b) (hl : b.length ≤ 1000000) (hf : b.length < fu) : ref01Sum fu b = some (wv (moreB 0#32 b), ()) := by
  unfold ref01Sum
  have := row_eq fu hfu b hb hl hf 4294967295#32
  rw [show wv 4294967295#32 = 4294967295 from rfl] at this
  rw [this]
  have e := xor_wv (rowB 4294967295#32 b) 4294967295#32
  rw [show wv 4294967295#32 = 4294967295 from rfl] at e
  simp only [Option.bind_some, e]
  unfold moreB
  rw [BitVec.zero_xor]
theorem refMore_eq (fu : Nat) (hfu : 8 < fu) (b : List Int) (hb : By b) (hl : b.length ≤ 1000000) (hf : b.length < fu) (s : B32) : ref01More fu (wv s) b = some (wv (moreB s b), ()) := by
  unfold ref01More
  have e : ∀ a : B32, bXor .u32 (wv a) (4294967295 : Int) = wv (a ^^^ 4294967295#32) := fun a => xor_wv a 4294967295#32
  simp only [e, row_eq fu hfu b hb hl hf, Option.bind_some]
  rfl
theorem byOf {l : List Int} (h : (Kd.slice (.int .u8)).ok l) : By l := fun x hx => by
  have := h.2 x hx
  simp [Kd.ok, inR, IntKind.min, IntKind.max, IntKind.signed, IntKind.bits] at this
  omega
theorem u32Of {x : Int} (h : inR .u32 x) : 0 ≤ x ∧ x < 4294967296 := by
  simp [inR, IntKind.min, IntKind.max, IntKind.signed, IntKind.bits] at h
  omega
theorem fixed01 : law01Fixed 6000 = some (true, ()) := by kernel_rfl

/-- THE LAW. -/
theorem lawCrcSums (b : List Int) (s : Int) (h : okAll law01CrcSums.con.ps (b, s, ())) : law01CrcSums 6000 b s = some (true, ()) := by
  unfold law01CrcSums
  rw [fixed01]
  by_cases h1 : (b.length : Int) > 5000
  · simp only [h1, decide_true, cond_true, Option.bind_some]
  have hb : By b := byOf h.1
  have hs := u32Of (x := s) h.2.1
  have ea : apOk ([] : List Int) b 1 = true := by
    unfold apOk
    exact decide_eq_true (Nat.le_trans (Nat.mul_le_mul_right 1 (show ([] : List Int).length + b.length ≤ 5000 by simp; omega)) (by decide))
  have es := wv_ofInt hs.1 hs.2
  rw [← es]
  simp only [h1, decide_false, cond_false, ea, chk, cond_true, Option.bind_some, List.nil_append, sum_eq 6000 b hb (by omega) (by omega), refSum_eq 6000 (by omega) b hb (by omega) (by omega), more_eq 6000 b hb (by omega) (by omega), refMore_eq 6000 (by omega) b hb (by omega) (by omega), beq_self_eq_true]
end Go.Shal.Pr
