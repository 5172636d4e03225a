/- RecSpoilt: a frame with other bytes is no record. By an AI agent. -/
import Derived.Test.YtpfmaljnnhammaaDoorGen08s
set_option linter.unusedVariables false
namespace Go.Shal.Pr
open Go Go.Shal Go.Proofs

theorem wrap_i64 {x : Int} (h0 : -9223372036854775808 ≤ x) (h1 : x < 9223372036854775808) : IntKind.i64.wrap x = x := by
  simp only [IntKind.wrap, IntKind.signed, IntKind.bits]
  simp
  omega
theorem wrap_u32 {x : Int} (h0 : 0 ≤ x) (h1 : x < 4294967296) : IntKind.u32.wrap x = x := by
  simp only [IntKind.wrap, IntKind.signed, IntKind.bits]
  simp
  omega
theorem ixL_get {l : List Int} {i : Nat} (h : i < l.length) : ixL (0 : Int) l i = l[i] := by
  unfold ixL
  simp [List.getElem?_eq_getElem h]
abbrev B32 := BitVec 32
def wv (a : B32) : Int := (a.toNat : Int)
theorem wv_lt (a : B32) : 0 ≤ wv a ∧ wv a < 4294967296 := by have := a.isLt; unfold wv; omega
theorem ofInt_wv (a : B32) : BitVec.ofInt 32 (wv a) = a := by
  unfold wv
  rw [BitVec.ofInt_natCast, BitVec.ofNat_toNat, BitVec.setWidth_eq]
theorem wv_ofInt {x : Int} (h0 : 0 ≤ x) (h1 : x < 4294967296) : wv (BitVec.ofInt 32 x) = x := by
  obtain ⟨n, rfl⟩ := Int.eq_ofNat_of_zero_le h0
  show ((BitVec.ofInt 32 (n : Int)).toNat : Int) = n
  rw [BitVec.ofInt_natCast, BitVec.toNat_ofNat, Nat.mod_eq_of_lt (by omega)]
theorem xor_wv (a b : B32) : bXor .u32 (wv a) (wv b) = wv (a ^^^ b) := by
  show IntKind.u32.wrap (((BitVec.ofInt 32 (wv a) ^^^ BitVec.ofInt 32 (wv b)).toNat : Nat) : Int) = _
  rw [ofInt_wv, ofInt_wv]
  exact wrap_u32 (wv_lt _).1 (wv_lt _).2
theorem and_wv (a b : B32) : bAnd .u32 (wv a) (wv b) = wv (a &&& b) := by
  show IntKind.u32.wrap (((BitVec.ofInt 32 (wv a) &&& BitVec.ofInt 32 (wv b)).toNat : Nat) : Int) = _
  rw [ofInt_wv, ofInt_wv]
  exact wrap_u32 (wv_lt _).1 (wv_lt _).2
theorem not_wv (a : B32) : bNot .u32 (wv a) = wv (a ^^^ 4294967295#32) := by
  have e : bNot .u32 (wv a) = bXor .u32 4294967295 (wv a) := rfl
  rw [e, show (4294967295 : Int) = wv 4294967295#32 from rfl, xor_wv, BitVec.xor_comm]
theorem shr_wv (a : B32) (k : Nat) (hk : k < 32) : sShr .u32 (wv a) (k : Int) = wv (a >>> k) := by
  unfold sShr
  have e : min (k : Int).toNat IntKind.u32.bits = k := by simp only [IntKind.bits]; omega
  rw [e]
  unfold wv
  rw [BitVec.toNat_ushiftRight, Nat.shiftRight_eq_div_pow, Int.fdiv_eq_ediv_of_nonneg _ (by exact_mod_cast Nat.zero_le _), Int.natCast_ediv, Int.natCast_pow]
  rfl
def pol : B32 := 3988292384#32
def st1 (r : B32) : B32 := (r >>> 1) ^^^ (if r.getLsbD 0 = true then pol else 0#32)
theorem st1_xor (a b : B32) : st1 (a ^^^ b) = st1 a ^^^ st1 b := by
  unfold st1
  rw [BitVec.ushiftRight_xor_distrib, BitVec.getLsbD_xor]
  have e : (if (a.getLsbD 0 ^^ b.getLsbD 0) = true then pol else 0#32) = (if a.getLsbD 0 = true then pol else 0#32) ^^^ (if b.getLsbD 0 = true then pol else 0#32) := by
    cases a.getLsbD 0 <;> cases b.getLsbD 0 <;> simp
  rw [e]
  ac_rfl
def st4 (r : B32) : B32 := st1 (st1 (st1 (st1 r)))
theorem st4_xor (a b : B32) : st4 (a ^^^ b) = st4 a ^^^ st4 b := by unfold st4; simp only [st1_xor]
def tabB (m : B32) : B32 := BitVec.ofInt 32 (ixL (0 : Int) tabCrcHalves (wv m))
theorem st1_even {a : B32} (h : a.getLsbD 0 = false) : st1 a = a >>> 1 := by unfold st1; rw [h]; simp
theorem st4_high (r : B32) : st4 (r &&& 4294967280#32) = r >>> 4 := by
  have b : ∀ i, i < 4 → (r &&& 4294967280#32).getLsbD i = false := fun i hi => by
    rw [BitVec.getLsbD_and]
    have : (4294967280#32).getLsbD i = false := by
      match i, hi with
      | 0, _ => rfl
      | 1, _ => rfl
      | 2, _ => rfl
      | 3, _ => rfl
    rw [this, Bool.and_false]
  have go : ∀ (k : Nat), k < 4 → st1 ((r &&& 4294967280#32) >>> k) = (r &&& 4294967280#32) >>> (k + 1) := fun k hk => by
    rw [st1_even (by rw [BitVec.getLsbD_ushiftRight, Nat.add_zero]; exact b k hk), BitVec.shiftRight_add]
  have g0 := go 0 (by omega)
  rw [BitVec.ushiftRight_zero] at g0
  unfold st4
  rw [g0, go 1 (by omega), go 2 (by omega), go 3 (by omega)]
  apply BitVec.eq_of_getLsbD_eq
  intro i hi
  rw [BitVec.getLsbD_ushiftRight, BitVec.getLsbD_ushiftRight, BitVec.getLsbD_and]
  have : ∀ i : Fin 32, i.val < 28 → (4294967280#32).getLsbD (4 + i.val) = true := by decide
  by_cases h28 : i < 28
  · rw [this ⟨i, hi⟩ h28, Bool.and_true]
  · rw [BitVec.getLsbD_of_ge r (4 + i) (by omega), Bool.false_and]
theorem st4_low (m : B32) (h : m.toNat < 16) : st4 m = tabB m := by
  have key : ∀ n : Fin 16, st4 (BitVec.ofNat 32 n.val) = tabB (BitVec.ofNat 32 n.val) := by decide +kernel
  have := key ⟨m.toNat, h⟩
  simp only [BitVec.ofNat_toNat, BitVec.setWidth_eq] at this
  exact this
theorem low_lt (r : B32) : (r &&& 15#32).toNat < 16 := by
  rw [BitVec.toNat_and]
  exact Nat.lt_of_le_of_lt Nat.and_le_right (by decide)
theorem st4_eq (r : B32) : st4 r = (r >>> 4) ^^^ tabB (r &&& 15#32) := by
  have e : r = (r &&& 4294967280#32) ^^^ (r &&& 15#32) := by
    apply BitVec.eq_of_getLsbD_eq
    intro i hi
    rw [BitVec.getLsbD_xor, BitVec.getLsbD_and, BitVec.getLsbD_and]
    have : ∀ i : Fin 32, (15#32).getLsbD i.val = !(4294967280#32).getLsbD i.val := by decide
    rw [this ⟨i, hi⟩]
    cases r.getLsbD i <;> cases (4294967280#32).getLsbD i <;> rfl
  conv => lhs; rw [e]
  rw [st4_xor, st4_high, st4_low _ (low_lt r)]
def st8 (r : B32) : B32 := st4 (st4 r)
def rowB (r : B32) (l : List Int) : B32 := l.foldl (fun r c => st8 (r ^^^ BitVec.ofInt 32 c)) r
theorem tab_wv (r : B32) : ixArr 16 (bAnd .u32 (wv r) (15 : Int)) = true ∧ bXor .u32 (sShr .u32 (wv r) (4 : Int)) (ixL (0 : Int) tabCrcHalves (bAnd .u32 (wv r) (15 : Int))) = wv (st4 r) := by
  have e1 : bAnd .u32 (wv r) (15 : Int) = wv (r &&& 15#32) := and_wv r 15#32
  have hl := low_lt r
  have e2 : sShr .u32 (wv r) (4 : Int) = wv (r >>> 4) := shr_wv r 4 (by omega)
  rw [e1, e2]
  refine ⟨by unfold ixArr wv; simp only [Bool.and_eq_true, decide_eq_true_eq]; omega, ?_⟩
  have e3 : ixL (0 : Int) tabCrcHalves (wv (r &&& 15#32)) = wv (tabB (r &&& 15#32)) := by
    have key : ∀ n : Fin 16, ixL (0 : Int) tabCrcHalves (wv (BitVec.ofNat 32 n.val)) = wv (tabB (BitVec.ofNat 32 n.val)) := by decide +kernel
    have := key ⟨(r &&& 15#32).toNat, hl⟩
    simp only [BitVec.ofNat_toNat, BitVec.setWidth_eq] at this
    exact this
  rw [e3, xor_wv, st4_eq]
def By (l : List Int) : Prop := ∀ b ∈ l, (0 : Int) ≤ b ∧ b ≤ 255
theorem carry_rounds (fu : Nat) (k2 : Int → Option (Int × Unit)) (b : List Int) (hb : By b) (hl : b.length ≤ 1000000) : ∀ (m i : Nat) (r : B32), i ≤ b.length → b.length < i + m →
    crcCarry.l2 fu k2 m (wv r) b b.length i = k2 (wv (rowB r (b.drop i))) := by
  intro m
  induction m with
  | zero => intro i r h1 h2; omega
  | succ m ih =>
    intro i r h1 h2
    unfold crcCarry.l2 crcCarry.b2
    by_cases h : i < b.length
    · have hi : (i : Int) < b.length := by omega
      have hx : ixOk b i = true := by simp [ixOk, h]
      have e1 : IntKind.i64.wrap ((i : Int) + 1) = (i + 1 : Nat) := wrap_i64 (by omega) (by omega)
      have hc := hb _ (List.getElem_mem h)
      rw [List.drop_eq_getElem_cons h]
      simp only [hi, decide_true, cond_true, chk, hx, ixL_get h]
      generalize b[i] = c at hc
      have e2 : bXor .u32 (wv r) (IntKind.u32.wrap c) = wv (r ^^^ BitVec.ofInt 32 c) := by
        rw [wrap_u32 (by omega) (by omega), ← xor_wv, wv_ofInt (by omega) (by omega)]
      obtain ⟨q1, q2⟩ := tab_wv (r ^^^ BitVec.ofInt 32 c)
      obtain ⟨q3, q4⟩ := tab_wv (st4 (r ^^^ BitVec.ofInt 32 c))
      simp only [e1, e2, q1, q2, q3, q4, cond_true]
      exact ih (i + 1) (st8 (r ^^^ BitVec.ofInt 32 c)) (by omega) (by omega)
    · have hi : ¬ (i : Int) < b.length := by omega
      rw [List.drop_of_length_le (by omega)]
      simp only [hi, decide_false, cond_false]
      rfl
theorem carry_eq (fu : Nat) (b : List Int) (hb : By b) (hl : b.length ≤ 1000000) (hf : b.length < fu) (r : B32) : crcCarry fu (wv r) b = some (wv (rowB r b), ()) := by
  unfold crcCarry
  have := carry_rounds fu (fun q => some (q, ())) b hb hl fu 0 r (by omega) (by omega)
  rw [List.drop_zero] at this
  exact this
def moreB (s : B32) (b : List Int) : B32 := rowB (s ^^^ 4294967295#32) b ^^^ 4294967295#32
theorem more_eq (fu : Nat) (b : List Int) (hb : By b) (hl : b.length ≤ 1000000) (hf : b.length < fu) (s : B32) : crcMore fu (wv s) b = some (wv (moreB s b), ()) := by
  unfold crcMore
  rw [not_wv, carry_eq fu b hb hl hf]
  simp only [Option.bind_some, not_wv]
  rfl
theorem sum_eq (fu : Nat) (b : List Int) (hb : By b) (hl : b.length ≤ 1000000) (hf : b.length < fu) : crcSum fu b = some (wv (moreB 0#32 b), ()) := by
  unfold crcSum
  have := more_eq fu b hb hl hf 0#32
  rw [show wv 0#32 = 0 from rfl] at this
  rw [this]
  rfl
theorem byOf {l : List Int} (h : (Kd.slice (.int .u8)).ok l) : By l := fun x hx => by
  have := h.2 x hx
  simp [Kd.ok, inR, IntKind.min, IntKind.max, IntKind.signed, IntKind.bits] at this
  omega
theorem wrap_u8 (x : Int) : IntKind.u8.wrap x = x % 256 := by
  simp only [IntKind.wrap, IntKind.signed, IntKind.bits]
  simp
def zN : Nat → B32 → B32
  | 0, r => r
  | n + 1, r => zN n (st8 r)
theorem st8_xor (a b : B32) : st8 (a ^^^ b) = st8 a ^^^ st8 b := by unfold st8; rw [st4_xor, st4_xor]
theorem rowB_xor : ∀ (b : List Int) (x y : B32), rowB (x ^^^ y) b = rowB x b ^^^ zN b.length y
  | [], x, y => rfl
  | c :: b, x, y => by
    show rowB (st8 (x ^^^ y ^^^ BitVec.ofInt 32 c)) b = rowB (st8 (x ^^^ BitVec.ofInt 32 c)) b ^^^ zN b.length (st8 y)
    rw [← rowB_xor b, ← st8_xor]
    congr 2
    ac_rfl
theorem st1_zero {r : B32} (h : st1 r = 0#32) : r = 0#32 := by
  have hb : ∀ i, (st1 r).getLsbD i = false := fun i => by rw [h]; simp
  by_cases h0 : r.getLsbD 0 = true
  · have := hb 31
    unfold st1 at this
    rw [h0, if_pos rfl, BitVec.getLsbD_xor, BitVec.getLsbD_ushiftRight, BitVec.getLsbD_of_ge r _ (by omega)] at this
    rw [show pol.getLsbD 31 = true by decide] at this
    cases this
  · have h0 : r.getLsbD 0 = false := by simpa using h0
    rw [st1_even h0] at h
    apply BitVec.eq_of_getLsbD_eq
    intro i hi
    rw [show (0#32).getLsbD i = false by simp]
    cases i with
    | zero => exact h0
    | succ i =>
      have : (r >>> 1).getLsbD i = false := by rw [h]; simp
      rw [BitVec.getLsbD_ushiftRight, Nat.add_comm] at this
      exact this
theorem st8_zero {r : B32} (h : st8 r = 0#32) : r = 0#32 := by
  unfold st8 st4 at h
  exact st1_zero (st1_zero (st1_zero (st1_zero (st1_zero (st1_zero (st1_zero (st1_zero h)))))))
theorem xor_zero_eq {a b : B32} (h : a ^^^ b = 0#32) : a = b := by
  have : a ^^^ b ^^^ b = 0#32 ^^^ b := by rw [h]
  rwa [BitVec.xor_assoc, BitVec.xor_self, BitVec.xor_zero, BitVec.zero_xor] at this
theorem st8_inj {a b : B32} (h : st8 a = st8 b) : a = b := xor_zero_eq (st8_zero (by rw [st8_xor, h, BitVec.xor_self]))
theorem zN_zero : ∀ (n : Nat) {r : B32}, zN n r = 0#32 → r = 0#32
  | 0, _, h => h
  | n + 1, _, h => st8_zero (zN_zero n h)
theorem st1_up {x : B32} (h : x.toNat < 2147483648) : st1 (x <<< 1) = x := by
  have h0 : (x <<< 1).getLsbD 0 = false := by rw [BitVec.getLsbD_shiftLeft]; simp
  rw [st1_even h0]
  apply BitVec.eq_of_toNat_eq
  rw [BitVec.toNat_ushiftRight, BitVec.toNat_shiftLeft, Nat.shiftLeft_eq, Nat.shiftRight_eq_div_pow]
  omega
theorem up_toNat (x : B32) {k n : Nat} (h : x.toNat * 2 ^ k < n) (hn : n ≤ 4294967296) : (x <<< k).toNat = x.toNat * 2 ^ k := by
  rw [BitVec.toNat_shiftLeft, Nat.shiftLeft_eq]
  exact Nat.mod_eq_of_lt (by omega)
theorem st8_up {x : B32} (h : x.toNat < 16777216) : st8 (x <<< 8) = x := by
  have e : x <<< 8 = (((((((x <<< 1) <<< 1) <<< 1) <<< 1) <<< 1) <<< 1) <<< 1) <<< 1 := by
    rw [← BitVec.shiftLeft_add, ← BitVec.shiftLeft_add, ← BitVec.shiftLeft_add, ← BitVec.shiftLeft_add, ← BitVec.shiftLeft_add, ← BitVec.shiftLeft_add, ← BitVec.shiftLeft_add]
  have t1 := up_toNat x (k := 1) (n := 2147483648) (by omega) (by omega)
  have t2 := up_toNat (x <<< 1) (k := 1) (n := 2147483648) (by omega) (by omega)
  have t3 := up_toNat (x <<< 1 <<< 1) (k := 1) (n := 2147483648) (by omega) (by omega)
  have t4 := up_toNat (x <<< 1 <<< 1 <<< 1) (k := 1) (n := 2147483648) (by omega) (by omega)
  have t5 := up_toNat (x <<< 1 <<< 1 <<< 1 <<< 1) (k := 1) (n := 2147483648) (by omega) (by omega)
  have t6 := up_toNat (x <<< 1 <<< 1 <<< 1 <<< 1 <<< 1) (k := 1) (n := 2147483648) (by omega) (by omega)
  have t7 := up_toNat (x <<< 1 <<< 1 <<< 1 <<< 1 <<< 1 <<< 1) (k := 1) (n := 2147483648) (by omega) (by omega)
  rw [e]
  unfold st8 st4
  rw [st1_up (by omega), st1_up (by omega), st1_up (by omega), st1_up (by omega), st1_up (by omega), st1_up (by omega), st1_up (by omega), st1_up (by omega)]
theorem byte_bit {d : B32} (h : d.toNat < 256) {i : Nat} (hi : 8 ≤ i) : d.getLsbD i = false := by
  rw [BitVec.getLsbD, Nat.testBit_lt_two_pow (Nat.lt_of_lt_of_le h (Nat.pow_le_pow_right (by omega) hi : 2 ^ 8 ≤ 2 ^ i))]
theorem four_zero {d0 d1 d2 d3 : B32} (h0 : d0.toNat < 256) (h1 : d1.toNat < 256) (h2 : d2.toNat < 256) (h3 : d3.toNat < 256)
    (h : st8 (st8 (st8 (st8 d0 ^^^ d1) ^^^ d2) ^^^ d3) = 0#32) : d0 = 0#32 ∧ d1 = 0#32 ∧ d2 = 0#32 ∧ d3 = 0#32 := by
  have s1 := fun (d : B32) (hd : d.toNat < 256) => up_toNat d (k := 8) (n := 65536) (by omega) (by omega)
  have s2 := fun (d : B32) (hd : d.toNat < 256) => up_toNat (d <<< 8) (k := 8) (n := 16777216) (by have := s1 d hd; omega) (by omega)
  have e1 := xor_zero_eq (st8_zero h)
  have e2 : st8 (st8 d0 ^^^ d1) ^^^ d2 = d3 <<< 8 := st8_inj (by rw [e1, st8_up (by omega)])
  have e3 : st8 (st8 d0 ^^^ d1) = st8 (d2 <<< 8 ^^^ d3 <<< 8 <<< 8) := by
    rw [st8_xor (d2 <<< 8), st8_up (by omega), st8_up (by have := s1 d3 h3; omega), ← e2, BitVec.xor_comm d2, BitVec.xor_assoc, BitVec.xor_self, BitVec.xor_zero]
  have e4 := st8_inj e3
  have e5 : st8 d0 = st8 (d1 <<< 8 ^^^ (d2 <<< 8 <<< 8 ^^^ d3 <<< 8 <<< 8 <<< 8)) := by
    rw [st8_xor (d1 <<< 8), st8_xor, st8_up (by omega), st8_up (by have := s1 d2 h2; omega), st8_up (by have := s2 d3 h3; have := s1 d3 h3; omega), ← e4, BitVec.xor_comm d1, BitVec.xor_assoc, BitVec.xor_self, BitVec.xor_zero]
  have e6 := st8_inj e5
  have bits : ∀ i, i < 32 → d0.getLsbD i = ((d1 <<< 8).getLsbD i ^^ ((d2 <<< 8 <<< 8).getLsbD i ^^ (d3 <<< 8 <<< 8 <<< 8).getLsbD i)) := fun i _ => by rw [e6, BitVec.getLsbD_xor, BitVec.getLsbD_xor]
  have up : ∀ (d : B32) i, i < 32 → (d <<< 8).getLsbD i = (!decide (i < 8) && d.getLsbD (i - 8)) := fun d i hi => by rw [BitVec.getLsbD_shiftLeft]; simp [hi]
  have up2 : ∀ (d : B32) i, i < 32 → (d <<< 8 <<< 8).getLsbD i = (!decide (i < 16) && d.getLsbD (i - 16)) := fun d i hi => by
    rw [← BitVec.shiftLeft_add, BitVec.getLsbD_shiftLeft]; simp [hi]
  have up3 : ∀ (d : B32) i, i < 32 → (d <<< 8 <<< 8 <<< 8).getLsbD i = (!decide (i < 24) && d.getLsbD (i - 24)) := fun d i hi => by
    rw [← BitVec.shiftLeft_add, ← BitVec.shiftLeft_add, BitVec.getLsbD_shiftLeft]; simp [hi]
  have B : ∀ j, j < 8 → d0.getLsbD j = false ∧ d1.getLsbD j = false ∧ d2.getLsbD j = false ∧ d3.getLsbD j = false := fun j hj => by
    have T : ∀ {a b : Nat}, a < b → (!decide (a < b)) = false := fun h => by rw [decide_eq_true h]; rfl
    have F : ∀ {a b : Nat}, b ≤ a → (!decide (a < b)) = true := fun h => by rw [decide_eq_false (by omega)]; rfl
    have b0 := bits j (by omega)
    have b1 := bits (8 + j) (by omega)
    have b2 := bits (16 + j) (by omega)
    have b3 := bits (24 + j) (by omega)
    rw [up _ _ (by omega), up2 _ _ (by omega), up3 _ _ (by omega)] at b0 b1 b2 b3
    rw [T (show j < 8 by omega), T (show j < 16 by omega), T (show j < 24 by omega)] at b0
    rw [byte_bit h0 (by omega), F (show 8 ≤ 8 + j by omega), T (show 8 + j < 16 by omega), T (show 8 + j < 24 by omega), show 8 + j - 8 = j by omega] at b1
    rw [byte_bit h0 (by omega), F (show 8 ≤ 16 + j by omega), F (show 16 ≤ 16 + j by omega), T (show 16 + j < 24 by omega), byte_bit h1 (show 8 ≤ 16 + j - 8 by omega), show 16 + j - 16 = j by omega] at b2
    rw [byte_bit h0 (by omega), F (show 8 ≤ 24 + j by omega), F (show 16 ≤ 24 + j by omega), F (show 24 ≤ 24 + j by omega), byte_bit h1 (show 8 ≤ 24 + j - 8 by omega), byte_bit h2 (show 8 ≤ 24 + j - 16 by omega), show 24 + j - 24 = j by omega] at b3
    simp only [Bool.false_and, Bool.true_and, Bool.xor_false, Bool.false_xor] at b0 b1 b2 b3
    exact ⟨b0, b1.symm, b2.symm, b3.symm⟩
  have Z : ∀ d : B32, d.toNat < 256 → (∀ j, j < 8 → d.getLsbD j = false) → d = 0#32 := fun d hd hz => by
    apply BitVec.eq_of_getLsbD_eq
    intro i hi
    rw [show (0#32).getLsbD i = false by simp]
    rcases Nat.lt_or_ge i 8 with h | h
    · exact hz i h
    · exact byte_bit hd h
  exact ⟨Z d0 h0 fun j hj => (B j hj).1, Z d1 h1 fun j hj => (B j hj).2.1, Z d2 h2 fun j hj => (B j hj).2.2.1, Z d3 h3 fun j hj => (B j hj).2.2.2⟩
theorem xor_byte {x d : Int} (hx : 0 ≤ x ∧ x ≤ 255) (hd : 0 ≤ d ∧ d ≤ 255) : (0 ≤ bXor .u8 x d ∧ bXor .u8 x d ≤ 255) ∧ BitVec.ofInt 32 (bXor .u8 x d) = BitVec.ofInt 32 x ^^^ BitVec.ofInt 32 d := by
  obtain ⟨n, rfl⟩ := Int.eq_ofNat_of_zero_le hx.1
  obtain ⟨m, rfl⟩ := Int.eq_ofNat_of_zero_le hd.1
  have hn : n < 256 := by omega
  have hm : m < 256 := by omega
  have hlt : n ^^^ m < 256 := Nat.xor_lt_two_pow (n := 8) (by omega) (by omega)
  have e : bXor .u8 (n : Int) (m : Int) = ((n ^^^ m : Nat) : Int) := by
    show IntKind.u8.wrap (((BitVec.ofInt 8 (n : Int) ^^^ BitVec.ofInt 8 (m : Int)).toNat : Nat) : Int) = _
    rw [BitVec.toNat_xor, BitVec.ofInt_natCast, BitVec.ofInt_natCast, BitVec.toNat_ofNat, BitVec.toNat_ofNat, Nat.mod_eq_of_lt hn, Nat.mod_eq_of_lt hm, wrap_u8]
    omega
  rw [e]
  refine ⟨by omega, ?_⟩
  rw [BitVec.ofInt_natCast, BitVec.ofInt_natCast, BitVec.ofInt_natCast]
  apply BitVec.eq_of_toNat_eq
  rw [BitVec.toNat_xor, BitVec.toNat_ofNat, BitVec.toNat_ofNat, BitVec.toNat_ofNat, Nat.mod_eq_of_lt (show n < 2 ^ 32 by omega), Nat.mod_eq_of_lt (show m < 2 ^ 32 by omega), Nat.mod_eq_of_lt (show n ^^^ m < 2 ^ 32 by omega)]
theorem of_byte {d : Int} (hd : 0 ≤ d ∧ d ≤ 255) : (BitVec.ofInt 32 d).toNat < 256 ∧ (BitVec.ofInt 32 d = 0#32 → d = 0) := by
  obtain ⟨m, rfl⟩ := Int.eq_ofNat_of_zero_le hd.1
  have e : (BitVec.ofInt 32 ((m : Nat) : Int)).toNat = m := by rw [BitVec.ofInt_natCast, BitVec.toNat_ofNat]; exact Nat.mod_eq_of_lt (by omega)
  refine ⟨by rw [e]; omega, fun h => ?_⟩
  rw [h] at e
  have : m = 0 := e.symm
  omega
theorem row_spoilt (A : B32) (w0 w1 w2 w3 d0 d1 d2 d3 : Int) (s : List Int) (v0 v1 v2 v3 : Int) (h0 : BitVec.ofInt 32 v0 = BitVec.ofInt 32 w0 ^^^ BitVec.ofInt 32 d0) (h1 : BitVec.ofInt 32 v1 = BitVec.ofInt 32 w1 ^^^ BitVec.ofInt 32 d1) (h2 : BitVec.ofInt 32 v2 = BitVec.ofInt 32 w2 ^^^ BitVec.ofInt 32 d2) (h3 : BitVec.ofInt 32 v3 = BitVec.ofInt 32 w3 ^^^ BitVec.ofInt 32 d3) :
    rowB A (v0 :: v1 :: v2 :: v3 :: s) = rowB A (w0 :: w1 :: w2 :: w3 :: s) ^^^ zN s.length (st8 (st8 (st8 (st8 (BitVec.ofInt 32 d0) ^^^ BitVec.ofInt 32 d1) ^^^ BitVec.ofInt 32 d2) ^^^ BitVec.ofInt 32 d3)) := by
  have step : ∀ (x y : B32) (v w d : Int), BitVec.ofInt 32 v = BitVec.ofInt 32 w ^^^ BitVec.ofInt 32 d → st8 ((x ^^^ y) ^^^ BitVec.ofInt 32 v) = st8 (x ^^^ BitVec.ofInt 32 w) ^^^ st8 (y ^^^ BitVec.ofInt 32 d) := fun x y v w d h => by
    rw [h, ← st8_xor]; congr 1; ac_rfl
  show rowB (st8 (st8 (st8 (st8 (A ^^^ BitVec.ofInt 32 v0) ^^^ BitVec.ofInt 32 v1) ^^^ BitVec.ofInt 32 v2) ^^^ BitVec.ofInt 32 v3)) s = rowB (st8 (st8 (st8 (st8 (A ^^^ BitVec.ofInt 32 w0) ^^^ BitVec.ofInt 32 w1) ^^^ BitVec.ofInt 32 w2) ^^^ BitVec.ofInt 32 w3)) s ^^^ _
  have e0 : st8 (A ^^^ BitVec.ofInt 32 v0) = st8 (A ^^^ BitVec.ofInt 32 w0) ^^^ st8 (BitVec.ofInt 32 d0) := by rw [h0, ← BitVec.xor_assoc, st8_xor]
  rw [e0, step _ _ _ _ _ h1, step _ _ _ _ _ h2, step _ _ _ _ _ h3, rowB_xor]
theorem more_spoilt (x : B32) (p s : List Int) {w0 w1 w2 w3 d0 d1 d2 d3 : Int} (hw0 : 0 ≤ w0 ∧ w0 ≤ 255) (hw1 : 0 ≤ w1 ∧ w1 ≤ 255) (hw2 : 0 ≤ w2 ∧ w2 ≤ 255) (hw3 : 0 ≤ w3 ∧ w3 ≤ 255) (hd0 : 0 ≤ d0 ∧ d0 ≤ 255) (hd1 : 0 ≤ d1 ∧ d1 ≤ 255) (hd2 : 0 ≤ d2 ∧ d2 ≤ 255) (hd3 : 0 ≤ d3 ∧ d3 ≤ 255)
    (hn : ¬ (d0 = 0 ∧ d1 = 0 ∧ d2 = 0 ∧ d3 = 0)) : moreB x (p ++ bXor .u8 w0 d0 :: bXor .u8 w1 d1 :: bXor .u8 w2 d2 :: bXor .u8 w3 d3 :: s) ≠ moreB x (p ++ w0 :: w1 :: w2 :: w3 :: s) := by
  intro h
  have happ : ∀ (r : B32) (a b : List Int), rowB r (a ++ b) = rowB (rowB r a) b := fun r a b => List.foldl_append
  unfold moreB at h
  have h := congrArg (· ^^^ 4294967295#32) h
  simp only [BitVec.xor_assoc, BitVec.xor_self, BitVec.xor_zero] at h
  rw [happ, happ, row_spoilt _ w0 w1 w2 w3 d0 d1 d2 d3 s _ _ _ _ (xor_byte hw0 hd0).2 (xor_byte hw1 hd1).2 (xor_byte hw2 hd2).2 (xor_byte hw3 hd3).2] at h
  have h := congrArg (rowB (rowB (x ^^^ 4294967295#32) p) (w0 :: w1 :: w2 :: w3 :: s) ^^^ ·) h
  simp only [← BitVec.xor_assoc, BitVec.xor_self, BitVec.zero_xor] at h
  obtain ⟨z0, z1, z2, z3⟩ := four_zero (of_byte hd0).1 (of_byte hd1).1 (of_byte hd2).1 (of_byte hd3).1 (zN_zero _ h)
  exact hn ⟨(of_byte hd0).2 z0, (of_byte hd1).2 z1, (of_byte hd2).2 z2, (of_byte hd3).2 z3⟩
theorem sum_ne {a b : B32} (h : a ≠ b) : (wv a != wv b) = true := by
  rw [bne_iff_ne]
  intro e
  apply h
  rw [← ofInt_wv a, e, ofInt_wv]
theorem stL_at (p s : List Int) (x y : Int) {i : Int} (h : i = (p.length : Int)) : stL (p ++ x :: s) i y = p ++ y :: s := by
  subst h
  unfold stL
  rw [Int.toNat_natCast, List.set_append]
  simp
theorem ixL_at (p s : List Int) (x : Int) {i : Int} (h : i = (p.length : Int)) : ixL (0 : Int) (p ++ x :: s) i = x := by
  subst h
  unfold ixL
  simp
theorem ix_four {l : List Int} (h : l.length = 4) : ∃ a b c d, l = [a, b, c, d] := by
  match l, h with
  | [a, b, c, d], _ => exact ⟨a, b, c, d, rfl⟩
theorem window {b : List Int} {k : Nat} (h : k + 4 ≤ b.length) : ∃ p w0 w1 w2 w3 s, b = p ++ w0 :: w1 :: w2 :: w3 :: s ∧ p.length = k := by
  have hd : (b.drop k).length = b.length - k := by simp
  match hb : b.drop k with
  | w0 :: w1 :: w2 :: w3 :: s => exact ⟨b.take k, w0, w1, w2, w3, s, by rw [← hb, List.take_append_drop], by simp; omega⟩
  | [] => rw [hb] at hd; simp at hd; omega
  | [_] => rw [hb] at hd; simp at hd; omega
  | [_, _] => rw [hb] at hd; simp at hd; omega
  | [_, _, _] => rw [hb] at hd; simp at hd; omega
theorem or_add32 (n a k : Nat) (h : n < 2 ^ k) (ht : n + a * 2 ^ k < 4294967296) : bOr .u32 ((a * 2 ^ k : Nat) : Int) (n : Int) = (a * 2 ^ k + n : Nat) := by
  show IntKind.u32.wrap (((BitVec.ofInt 32 ((a * 2 ^ k : Nat) : Int) ||| BitVec.ofInt 32 (n : Int)).toNat : Nat) : Int) = _
  rw [BitVec.ofInt_natCast, BitVec.ofInt_natCast]
  have h1 : n < 2 ^ 32 := by omega
  have h2 : a * 2 ^ k < 2 ^ 32 := by omega
  rw [BitVec.toNat_or, BitVec.toNat_ofNat, BitVec.toNat_ofNat, Nat.mod_eq_of_lt h1, Nat.mod_eq_of_lt h2, Nat.mul_comm a, ← Nat.two_pow_add_eq_or_of_lt h]
  rw [Nat.mul_comm a] at ht
  rw [wrap_u32 (by omega) (by omega)]
theorem shl32 (x : Int) (k : Nat) (hk : k < 32) (h0 : 0 ≤ x) (h : x * 2 ^ k < 4294967296) : sShl .u32 x (k : Int) = x * 2 ^ k := by
  unfold sShl
  have e : min (k : Int).toNat IntKind.u32.bits = k := by simp only [IntKind.bits]; omega
  rw [e]
  exact wrap_u32 (Int.mul_nonneg h0 (by exact_mod_cast Nat.zero_le _)) h
theorem shr32 (x : Int) (k : Nat) (hk : k < 32) : sShr .u32 x (k : Int) = x / 2 ^ k := by
  unfold sShr
  have e : min (k : Int).toNat IntKind.u32.bits = k := by simp only [IntKind.bits]; omega
  rw [e, Int.fdiv_eq_ediv_of_nonneg]
  exact_mod_cast Nat.zero_le _
def four (n : Int) : List Int := [n / 16777216 % 256, n / 65536 % 256, n / 256 % 256, n % 256]
theorem four_len (n : Int) : (four n).length = 4 := rfl
theorem four_by (n : Int) : By (four n) := fun x hx => by
  simp only [four, List.mem_cons, List.not_mem_nil, or_false] at hx
  omega
def val4 (l : List Int) : Int := ixL (0 : Int) l 0 * 16777216 + ixL (0 : Int) l 1 * 65536 + ixL (0 : Int) l 2 * 256 + ixL (0 : Int) l 3
theorem four_val (a b c d : Int) (ha : 0 ≤ a ∧ a ≤ 255) (hb : 0 ≤ b ∧ b ≤ 255) (hc : 0 ≤ c ∧ c ≤ 255) (hd : 0 ≤ d ∧ d ≤ 255) (r : List Int) : four (val4 (a :: b :: c :: d :: r)) = [a, b, c, d] := by
  show four (a * 16777216 + b * 65536 + c * 256 + d) = _
  unfold four
  simp only [List.cons.injEq, and_true]
  omega
theorem val_four (n : Int) (h0 : 0 ≤ n) (h1 : n < 4294967296) (r : List Int) : val4 (four n ++ r) = n := by
  show n / 16777216 % 256 * 16777216 + n / 65536 % 256 * 65536 + n / 256 % 256 * 256 + n % 256 = n
  omega
theorem split4 {l : List Int} (hl : 4 ≤ l.length) : ∃ a b c d r, l = a :: b :: c :: d :: r := by
  match l, hl with
  | a :: b :: c :: d :: r, _ => exact ⟨a, b, c, d, r, rfl⟩
theorem val4_in {l : List Int} (hb : By l) (hl : 4 ≤ l.length) : 0 ≤ val4 l ∧ val4 l < 4294967296 := by
  obtain ⟨a, b, c, d, r, rfl⟩ := split4 hl
  have ha := hb a (by simp)
  have hb' := hb b (by simp)
  have hc := hb c (by simp)
  have hd := hb d (by simp)
  show 0 ≤ a * 16777216 + b * 65536 + c * 256 + d ∧ a * 16777216 + b * 65536 + c * 256 + d < _
  omega
theorem get4_eq (fu : Nat) {l : List Int} (hb : By l) (hl : 4 ≤ l.length) : recGetF33 fu l = some (val4 l, ()) := by
  obtain ⟨a, b, c, d, r, rfl⟩ := split4 hl
  have ha := hb a (by simp)
  have hb' := hb b (by simp)
  have hc := hb c (by simp)
  have hd := hb d (by simp)
  have x0 : ixOk (a :: b :: c :: d :: r) 0 = true := by simp [ixOk]; omega
  have x1 : ixOk (a :: b :: c :: d :: r) 1 = true := by simp [ixOk]; omega
  have x2 : ixOk (a :: b :: c :: d :: r) 2 = true := by simp [ixOk]; omega
  have x3 : ixOk (a :: b :: c :: d :: r) 3 = true := by simp [ixOk]; omega
  have y0 : ixL (0 : Int) (a :: b :: c :: d :: r) 0 = a := rfl
  have y1 : ixL (0 : Int) (a :: b :: c :: d :: r) 1 = b := rfl
  have y2 : ixL (0 : Int) (a :: b :: c :: d :: r) 2 = c := rfl
  have y3 : ixL (0 : Int) (a :: b :: c :: d :: r) 3 = d := rfl
  have w : ∀ x : Int, 0 ≤ x → x ≤ 255 → IntKind.u32.wrap x = x := fun x h0 h1 => wrap_u32 h0 (by omega)
  unfold recGetF33 val4
  simp only [x0, x1, x2, x3, y0, y1, y2, y3, chk, cond_true, w a ha.1 ha.2, w b hb'.1 hb'.2, w c hc.1 hc.2, w d hd.1 hd.2]
  have s1 : sShl .u32 a 24 = a * 16777216 := by have := shl32 a 24 (by omega) ha.1 (by omega); simpa using this
  have s2 : sShl .u32 b 16 = b * 65536 := by have := shl32 b 16 (by omega) hb'.1 (by omega); simpa using this
  have s3 : sShl .u32 c 8 = c * 256 := by have := shl32 c 8 (by omega) hc.1 (by omega); simpa using this
  rw [s1, s2, s3]
  obtain ⟨A, rfl⟩ := Int.eq_ofNat_of_zero_le ha.1
  obtain ⟨B, rfl⟩ := Int.eq_ofNat_of_zero_le hb'.1
  obtain ⟨C, rfl⟩ := Int.eq_ofNat_of_zero_le hc.1
  obtain ⟨D, rfl⟩ := Int.eq_ofNat_of_zero_le hd.1
  have o1 : bOr .u32 ((A : Int) * 16777216) ((B : Int) * 65536) = (A : Int) * 16777216 + (B : Int) * 65536 := by
    have := or_add32 (B * 65536) A 24 (by omega) (by omega)
    simpa using this
  have o2 : bOr .u32 ((A : Int) * 16777216 + (B : Int) * 65536) ((C : Int) * 256) = (A : Int) * 16777216 + (B : Int) * 65536 + (C : Int) * 256 := by
    have := or_add32 (C * 256) (A * 256 + B) 16 (by omega) (by omega)
    rw [show (A * 256 + B) * 2 ^ 16 = A * 16777216 + B * 65536 by omega] at this
    simpa using this
  have o3 : bOr .u32 ((A : Int) * 16777216 + (B : Int) * 65536 + (C : Int) * 256) (D : Int) = (A : Int) * 16777216 + (B : Int) * 65536 + (C : Int) * 256 + (D : Int) := by
    have := or_add32 D (A * 65536 + B * 256 + C) 8 (by omega) (by omega)
    rw [show (A * 65536 + B * 256 + C) * 2 ^ 8 = A * 16777216 + B * 65536 + C * 256 by omega] at this
    simpa using this
  rw [o1, o2, o3]
theorem apOk1 {xs ys : List Int} (h : xs.length + ys.length ≤ 1000000) : apOk xs ys 1 = true := by
  unfold apOk
  exact decide_eq_true (Nat.le_trans (Nat.mul_le_mul_right 1 h) (by decide))
theorem put4_eq (fu : Nat) (b : List Int) (n : Int) (hl : b.length ≤ 900000) (h0 : 0 ≤ n) (h1 : n < 4294967296) : recPutF31 fu b n = some ((b ++ four n, ()), ()) := by
  unfold recPutF31
  have s1 : sShr .u32 n 24 = n / 16777216 := by have := shr32 n 24 (by omega); simpa using this
  have s2 : sShr .u32 n 16 = n / 65536 := by have := shr32 n 16 (by omega); simpa using this
  have s3 : sShr .u32 n 8 = n / 256 := by have := shr32 n 8 (by omega); simpa using this
  simp only [s1, s2, s3, wrap_u8]
  rw [apOk1 (by simp; omega)]
  rfl
def sumI (b : List Int) : Int := wv (moreB 0#32 b)
theorem sumI_in (b : List Int) : 0 ≤ sumI b ∧ sumI b < 4294967296 := wv_lt _
theorem more_more (a b : List Int) : moreB (moreB 0#32 a) b = moreB 0#32 (a ++ b) := by
  unfold moreB
  rw [BitVec.xor_assoc, BitVec.xor_self, BitVec.xor_zero]
  unfold rowB
  rw [List.foldl_append]
def frame (r : List Int) : List Int := four r.length ++ four (sumI (four r.length ++ r)) ++ r
theorem frame_len (r : List Int) : (frame r).length = 8 + r.length := by unfold frame; simp [four_len]; omega
theorem by_app {a b : List Int} (ha : By a) (hb : By b) : By (a ++ b) := fun x hx => by
  rcases List.mem_append.1 hx with h | h
  · exact ha x h
  · exact hb x h
theorem by_cut {l : List Int} (h : By l) (a e : Int) : By (cutL l a e) := fun b hb => h b (List.mem_of_mem_drop (List.mem_of_mem_take hb))
theorem by_drop {l : List Int} (h : By l) (n : Nat) : By (l.drop n) := fun b hb => h b (List.mem_of_mem_drop hb)
theorem frame_by {r : List Int} (h : By r) : By (frame r) := by_app (by_app (four_by _) (four_by _)) h
theorem cutOk_of {b : List Int} {x y : Int} (h0 : 0 ≤ x) (h1 : x ≤ y) (h2 : y ≤ b.length) : cutOk b x y = true := by simp [cutOk, h0, h1, h2]
theorem cut_end (b : List Int) (x : Int) : cutL b x b.length = b.drop x.toNat := by
  unfold cutL
  rw [List.take_of_length_le]
  rw [List.length_drop]; omega
def got8 (b : List Int) (at' : Int) : List Int × Int × Int :=
  if at' < 0 ∨ at' > (b.length : Int) - 4 then ([], 0, 3)
  else if val4 (b.drop at'.toNat) > 65536 then ([], 0, 4)
  else if 8 + val4 (b.drop at'.toNat) > (b.length : Int) - at' then ([], 0, 3)
  else if sumI (cutL b at' (at' + 4) ++ cutL b (at' + 8) (at' + 8 + val4 (b.drop at'.toNat))) ≠ val4 (b.drop (at' + 4).toNat) then ([], 0, 6)
  else (cutL b (at' + 8) (at' + 8 + val4 (b.drop at'.toNat)), at' + 8 + val4 (b.drop at'.toNat), 0)
theorem clone_eq (fu : Nat) (l : List Int) (hl : l.length ≤ 900000) : slicesCloneDat fu l = some (l, ()) := by
  unfold slicesCloneDat
  cases l with
  | nil =>
    show both _ _ = _
    have : (chk (apOk ([] : List Int) [] 1) (some (([] : List Int) ++ [], ())) : Option (List Int × Unit)) = some ([], ()) := by rw [apOk1 (by simp)]; rfl
    unfold both
    rw [if_pos this.symm]
  | cons x r =>
    show chk (apOk [] (x :: r) 1) _ = _
    rw [apOk1 (by simp at hl ⊢; omega)]
    rfl
theorem recGet_eq (fu : Nat) (b : List Int) (hb : By b) (hl : b.length ≤ 100000) (hfu : b.length < fu) (at' : Int) (h63 : -9223372036854775808 ≤ at' ∧ at' < 9223372036854775808) : recGet fu b at' = some ((got8 b at').1, (got8 b at').2.1, (got8 b at').2.2, ()) := by
  unfold recGet got8
  by_cases h0 : at' < 0
  · have : at' < 0 ∨ at' > (b.length : Int) - 4 := .inl h0
    rw [if_pos this]
    simp only [h0, decide_true, cond_true]
  · have e1 : IntKind.i64.wrap ((b.length : Int) - 4) = b.length - 4 := wrap_i64 (by omega) (by omega)
    by_cases h1 : at' > (b.length : Int) - 4
    · have : at' < 0 ∨ at' > (b.length : Int) - 4 := .inr h1
      rw [if_pos this]
      simp only [h0, h1, e1, decide_true, decide_false, cond_true, cond_false]
    · have h2 : ¬ (at' < 0 ∨ at' > (b.length : Int) - 4) := by omega
      have hd : By (b.drop at'.toNat) := by_drop hb _
      have hdl : 4 ≤ (b.drop at'.toNat).length := by rw [List.length_drop]; omega
      have hv := val4_in hd hdl
      rw [if_neg h2]
      simp only [h0, h1, e1, decide_false, cond_false, cut_end, get4_eq fu hd hdl, Option.bind_some]
      rw [cutOk_of (by omega) (by omega) (Int.le_refl _)]
      simp only [chk, cond_true]
      generalize hn : val4 (b.drop at'.toNat) = n at hv
      by_cases h3 : n > 65536
      · simp only [h3, decide_true, cond_true, if_true]
      · have w1 : IntKind.i64.wrap n = n := wrap_i64 (by omega) (by omega)
        have w2 : IntKind.i64.wrap ((8 : Int) + n) = 8 + n := wrap_i64 (by omega) (by omega)
        have w3 : IntKind.i64.wrap ((b.length : Int) - at') = b.length - at' := wrap_i64 (by omega) (by omega)
        simp only [h3, decide_false, cond_false, if_false, w1, w2, w3]
        by_cases h4 : 8 + n > (b.length : Int) - at'
        · simp only [h4, decide_true, cond_true, if_true]
        · have w4 : IntKind.i64.wrap (at' + 8) = at' + 8 := wrap_i64 (by omega) (by omega)
          have w5 : IntKind.i64.wrap (at' + 8 + n) = at' + 8 + n := wrap_i64 (by omega) (by omega)
          have w6 : IntKind.i64.wrap (at' + 4) = at' + 4 := wrap_i64 (by omega) (by omega)
          have c1 : cutOk b (at' + 8) (at' + 8 + n) = true := cutOk_of (by omega) (by omega) (by omega)
          have c2 : cutOk b at' (at' + 4) = true := cutOk_of (by omega) (by omega) (by omega)
          have c3 : cutOk b (at' + 4) b.length = true := cutOk_of (by omega) (by omega) (by omega)
          have l1 : (cutL b at' (at' + 4)).length ≤ b.length := by unfold cutL; rw [List.length_take, List.length_drop]; omega
          have l2 : (cutL b (at' + 8) (at' + 8 + n)).length ≤ b.length := by unfold cutL; rw [List.length_take, List.length_drop]; omega
          have hd2 : By (b.drop (at' + 4).toNat) := by_drop hb _
          have hdl2 : 4 ≤ (b.drop (at' + 4).toNat).length := by rw [List.length_drop]; omega
          simp only [h4, decide_false, cond_false, if_false, w4, w5, w6, c1, c2, c3, cond_true, sum_eq fu _ (by_cut hb _ _) (Nat.le_trans l1 (by omega)) (Nat.lt_of_le_of_lt l1 hfu), more_eq fu _ (by_cut hb _ _) (Nat.le_trans l2 (by omega)) (Nat.lt_of_le_of_lt l2 hfu), Option.bind_some, more_more, get4_eq fu hd2 hdl2, clone_eq fu _ (Nat.le_trans l2 (by omega))]
          show (cond (sumI (cutL b at' (at' + 4) ++ cutL b (at' + 8) (at' + 8 + n)) != val4 (b.drop (at' + 4).toNat)) _ _ : Option _) = _
          by_cases h5 : sumI (cutL b at' (at' + 4) ++ cutL b (at' + 8) (at' + 8 + n)) = val4 (b.drop (at' + 4).toNat)
          · have : (sumI (cutL b at' (at' + 4) ++ cutL b (at' + 8) (at' + 8 + n)) != val4 (b.drop (at' + 4).toNat)) = false := by rw [h5]; simp
            rw [this, if_neg (fun hx => hx h5)]
            rfl
          · have : (sumI (cutL b at' (at' + 4) ++ cutL b (at' + 8) (at' + 8 + n)) != val4 (b.drop (at' + 4).toNat)) = true := bne_iff_ne.2 h5
            rw [this, if_pos h5]
            rfl
theorem fixed08 : law08Fixed 200000 = some (true, ()) := by kernel_rfl
theorem cut_mid (a s r : List Int) (x y : Int) (hx : x = a.length) (hy : y = a.length + s.length) : cutL (a ++ s ++ r) x y = s := by
  subst hx hy
  unfold cutL
  rw [show ((a.length : Int) + (s.length : Int) - (a.length : Int)).toNat = s.length by omega, Int.toNat_natCast, List.append_assoc, List.drop_left, List.take_left]
theorem u16Of {x : Int} (h : inR .u16 x) : 0 ≤ x ∧ x < 65536 := by
  simp [inR, IntKind.min, IntKind.max, IntKind.signed, IntKind.bits] at h
  omega
theorem spoil8_rounds (fu : Nat) k2 (cb : Nat) (ch : Bool) (p s : List Int) (w0 w1 w2 w3 d0 d1 d2 d3 : Int) (m : Nat) (hl : p.length ≤ 1000000) (n : Nat) (hn : n = (p ++ w0 :: w1 :: w2 :: w3 :: s).length) :
    law08RecSpoilt.l11 fu k2 (m + 5) n cb (p.length : Int) ch [d0, d1, d2, d3] 0 (p ++ w0 :: w1 :: w2 :: w3 :: s) = k2 n cb ((((ch || (d0 != 0)) || (d1 != 0)) || (d2 != 0)) || (d3 != 0)) (p ++ bXor .u8 w0 d0 :: bXor .u8 w1 d1 :: bXor .u8 w2 d2 :: bXor .u8 w3 d3 :: s) := by
  have hn0 : n = p.length + (s.length + 4) := by rw [hn]; simp
  have nok : ∀ v0 v1 v2 v3 : Int, nOk (p ++ v0 :: v1 :: v2 :: v3 :: s) n = true := fun v0 v1 v2 v3 => by unfold nOk; rw [hn]; simp
  have ia : ∀ j : Nat, j < 4 → IntKind.i64.wrap ((p.length : Int) + (j : Int)) = ((p.length + j : Nat) : Int) ∧ ixArr n ((p.length + j : Nat) : Int) = true ∧ ixArr 4 (j : Int) = true ∧ IntKind.i64.wrap ((j : Int) + 1) = ((j + 1 : Nat) : Int) ∧ decide ((j : Int) < 4) = true := fun j hj => by
    refine ⟨by rw [wrap_i64 (by omega) (by omega)]; omega, ?_, ?_, by rw [wrap_i64 (by omega) (by omega)]; omega, decide_eq_true (by omega)⟩
    · unfold ixArr; simp; omega
    · unfold ixArr; simp; omega
  obtain ⟨a1, a2, a3, a4, a5⟩ := ia 0 (by omega)
  obtain ⟨b1, b2, b3, b4, b5⟩ := ia 1 (by omega)
  obtain ⟨c1, c2, c3, c4, c5⟩ := ia 2 (by omega)
  obtain ⟨e1, e2, e3, e4, e5⟩ := ia 3 (by omega)
  have g0 : ixL (0 : Int) [d0, d1, d2, d3] ((0 : Nat) : Int) = d0 := rfl
  have g1 : ixL (0 : Int) [d0, d1, d2, d3] ((1 : Nat) : Int) = d1 := rfl
  have g2 : ixL (0 : Int) [d0, d1, d2, d3] ((2 : Nat) : Int) = d2 := rfl
  have g3 : ixL (0 : Int) [d0, d1, d2, d3] ((3 : Nat) : Int) = d3 := rfl
  have r0 : law08RecSpoilt.l11 fu k2 (m + 5) n cb (p.length : Int) ch [d0, d1, d2, d3] ((0 : Nat) : Int) (p ++ w0 :: w1 :: w2 :: w3 :: s) = law08RecSpoilt.l11 fu k2 (m + 4) n cb (p.length : Int) (ch || (d0 != 0)) [d0, d1, d2, d3] ((1 : Nat) : Int) (p ++ bXor .u8 w0 d0 :: w1 :: w2 :: w3 :: s) := by
    rw [law08RecSpoilt.l11, law08RecSpoilt.b11]
    simp only [a1, a2, a3, a4, a5, nok, chk, cond_true, g0, ixL_at p _ w0 (show ((p.length + 0 : Nat) : Int) = (p.length : Int) by omega), stL_at p _ w0 _ (show ((p.length + 0 : Nat) : Int) = (p.length : Int) by omega)]
    cases ch <;> rfl
  have r1 : law08RecSpoilt.l11 fu k2 (m + 4) n cb (p.length : Int) (ch || (d0 != 0)) [d0, d1, d2, d3] ((1 : Nat) : Int) (p ++ bXor .u8 w0 d0 :: w1 :: w2 :: w3 :: s) = law08RecSpoilt.l11 fu k2 (m + 3) n cb (p.length : Int) ((ch || (d0 != 0)) || (d1 != 0)) [d0, d1, d2, d3] ((2 : Nat) : Int) (p ++ bXor .u8 w0 d0 :: bXor .u8 w1 d1 :: w2 :: w3 :: s) := by
    generalize bXor .u8 w0 d0 = v0
    have hl : ((p.length + 1 : Nat) : Int) = ((p ++ [v0]).length : Int) := by simp
    have x1 := ixL_at (p ++ [v0]) (w2 :: w3 :: s) w1 hl
    have x2 := stL_at (p ++ [v0]) (w2 :: w3 :: s) w1 (bXor .u8 w1 d1) hl
    rw [List.append_assoc, List.singleton_append] at x1 x2
    rw [List.append_assoc, List.singleton_append] at x2
    rw [law08RecSpoilt.l11, law08RecSpoilt.b11]
    simp only [b1, b2, b3, b4, b5, nok, chk, cond_true, g1, x1, x2]
    generalize (ch || (d0 != 0)) = ch'
    cases ch' <;> rfl
  have r2 : law08RecSpoilt.l11 fu k2 (m + 3) n cb (p.length : Int) ((ch || (d0 != 0)) || (d1 != 0)) [d0, d1, d2, d3] ((2 : Nat) : Int) (p ++ bXor .u8 w0 d0 :: bXor .u8 w1 d1 :: w2 :: w3 :: s) = law08RecSpoilt.l11 fu k2 (m + 2) n cb (p.length : Int) (((ch || (d0 != 0)) || (d1 != 0)) || (d2 != 0)) [d0, d1, d2, d3] ((3 : Nat) : Int) (p ++ bXor .u8 w0 d0 :: bXor .u8 w1 d1 :: bXor .u8 w2 d2 :: w3 :: s) := by
    generalize bXor .u8 w0 d0 = v0
    generalize bXor .u8 w1 d1 = v1
    have hl : ((p.length + 2 : Nat) : Int) = ((p ++ [v0, v1]).length : Int) := by simp
    have x1 := ixL_at (p ++ [v0, v1]) (w3 :: s) w2 hl
    have x2 := stL_at (p ++ [v0, v1]) (w3 :: s) w2 (bXor .u8 w2 d2) hl
    rw [List.append_assoc, show [v0, v1] ++ w2 :: w3 :: s = v0 :: v1 :: w2 :: w3 :: s from rfl] at x1 x2
    rw [List.append_assoc, show [v0, v1] ++ bXor .u8 w2 d2 :: w3 :: s = v0 :: v1 :: bXor .u8 w2 d2 :: w3 :: s from rfl] at x2
    rw [law08RecSpoilt.l11, law08RecSpoilt.b11]
    simp only [c1, c2, c3, c4, c5, nok, chk, cond_true, g2, x1, x2]
    generalize ((ch || (d0 != 0)) || (d1 != 0)) = ch'
    cases ch' <;> rfl
  have r3 : law08RecSpoilt.l11 fu k2 (m + 2) n cb (p.length : Int) (((ch || (d0 != 0)) || (d1 != 0)) || (d2 != 0)) [d0, d1, d2, d3] ((3 : Nat) : Int) (p ++ bXor .u8 w0 d0 :: bXor .u8 w1 d1 :: bXor .u8 w2 d2 :: w3 :: s) = law08RecSpoilt.l11 fu k2 (m + 1) n cb (p.length : Int) ((((ch || (d0 != 0)) || (d1 != 0)) || (d2 != 0)) || (d3 != 0)) [d0, d1, d2, d3] ((4 : Nat) : Int) (p ++ bXor .u8 w0 d0 :: bXor .u8 w1 d1 :: bXor .u8 w2 d2 :: bXor .u8 w3 d3 :: s) := by
    generalize bXor .u8 w0 d0 = v0
    generalize bXor .u8 w1 d1 = v1
    generalize bXor .u8 w2 d2 = v2
    have hl : ((p.length + 3 : Nat) : Int) = ((p ++ [v0, v1, v2]).length : Int) := by simp
    have x1 := ixL_at (p ++ [v0, v1, v2]) s w3 hl
    have x2 := stL_at (p ++ [v0, v1, v2]) s w3 (bXor .u8 w3 d3) hl
    rw [List.append_assoc, show [v0, v1, v2] ++ w3 :: s = v0 :: v1 :: v2 :: w3 :: s from rfl] at x1 x2
    rw [List.append_assoc, show [v0, v1, v2] ++ bXor .u8 w3 d3 :: s = v0 :: v1 :: v2 :: bXor .u8 w3 d3 :: s from rfl] at x2
    rw [law08RecSpoilt.l11, law08RecSpoilt.b11]
    simp only [e1, e2, e3, e4, e5, nok, chk, cond_true, g3, x1, x2]
    generalize (((ch || (d0 != 0)) || (d1 != 0)) || (d2 != 0)) = ch'
    cases ch' <;> rfl
  have r4 : law08RecSpoilt.l11 fu k2 (m + 1) n cb (p.length : Int) ((((ch || (d0 != 0)) || (d1 != 0)) || (d2 != 0)) || (d3 != 0)) [d0, d1, d2, d3] ((4 : Nat) : Int) (p ++ bXor .u8 w0 d0 :: bXor .u8 w1 d1 :: bXor .u8 w2 d2 :: bXor .u8 w3 d3 :: s) = k2 n cb ((((ch || (d0 != 0)) || (d1 != 0)) || (d2 != 0)) || (d3 != 0)) (p ++ bXor .u8 w0 d0 :: bXor .u8 w1 d1 :: bXor .u8 w2 d2 :: bXor .u8 w3 d3 :: s) := by
    rw [law08RecSpoilt.l11, law08RecSpoilt.b11]
    rfl
  exact r0.trans (r1.trans (r2.trans (r3.trans r4)))

theorem roomPut_eq (fu : Nat) (xs : List Int) (n c : Nat) (v : Int) (hl : xs.length = c) (hn : n + 4 ≤ c) (h0 : 0 ≤ v) (h1 : v < 4294967296) :
    recPutDatRoom fu (xs, n, c) v = some (((n + 4, c), ()), (xs.take n ++ four v ++ xs.drop (n + 4), ())) := by
  have e := put4_eq fu [] v (by simp) h0 h1
  unfold recPutF31 at e
  have e4 : [IntKind.u8.wrap (sShr .u32 v (24 : Int)), IntKind.u8.wrap (sShr .u32 v (16 : Int)), IntKind.u8.wrap (sShr .u32 v (8 : Int)), IntKind.u8.wrap v] = four v := by
    simp only [chk] at e
    cases ha : apOk ([] : List Int) [IntKind.u8.wrap (sShr .u32 v (24 : Int)), IntKind.u8.wrap (sShr .u32 v (16 : Int)), IntKind.u8.wrap (sShr .u32 v (8 : Int)), IntKind.u8.wrap v] 1 with
    | false => rw [ha] at e; cases e
    | true =>
      rw [ha] at e
      simp only [cond_true, List.nil_append, Option.some.injEq, Prod.mk.injEq, and_true] at e
      exact e
  unfold recPutDatRoom
  simp only [e4, four_len]
  have hk : (nOk xs c && Nat.ble (n + 4) c) = true := by
    rw [Bool.and_eq_true]
    exact ⟨by unfold nOk; rw [hl]; simp, Nat.ble_eq_true_of_le hn⟩
  rw [hk]
  rfl
theorem putRow_eq (fu : Nat) (hfu : 90000 ≤ fu) (r : List Int) (hr : By r) (hrl : r.length ≤ 5000) :
    recPutRow fu [] r = some (((frame r, 8 + r.length, 8 + r.length), 0, ()), ()) := by
  have h' : ¬ (r.length : Int) > 65536 := by omega
  have e1 : IntKind.i64.wrap ((8 : Int) + (r.length : Int)) = 8 + r.length := wrap_i64 (by omega) (by omega)
  have e2 : IntKind.i64.wrap (((0 : Nat) : Int) + (8 + (r.length : Int))) = 8 + r.length := by rw [wrap_i64 (by omega) (by omega)]; omega
  have e3 : mkOk ((0 : Nat) : Int) ((8 : Int) + r.length) 1 = true := by
    have hL : (1000000 : Int) ≤ (LIM : Int) := by decide
    unfold mkOk
    simp only [Bool.and_eq_true, decide_eq_true_eq]
    omega
  have e5 : IntKind.u32.wrap (r.length : Int) = r.length := wrap_u32 (by omega) (by omega)
  have e6 : ((8 : Int) + (r.length : Int)).toNat = 8 + r.length := by omega
  have hS := sumI_in (four r.length ++ r)
  unfold recPutRow recSize
  simp only [h', decide_false, cond_false, Option.bind_some, e1, e2, e3, e5, e6, chk, cond_true, List.length_nil, show Nat.beq 0 0 = true from rfl, show ((0 : Nat) : Int).toNat = 0 from rfl, show decide (((0 : Nat) : Int) = 0) = true from rfl]
  rw [roomPut_eq fu _ 0 (8 + r.length) r.length (by simp) (by omega) (by omega) (by omega)]
  simp only [Option.bind_some, List.take_zero, List.nil_append, Nat.zero_add]
  have hd : (List.replicate (8 + r.length) (0 : Int)).drop 4 = List.replicate (4 + r.length) 0 := by rw [List.drop_replicate]; congr 1; omega
  rw [hd]
  have hnok : ∀ l : List Int, l.length = 8 + r.length → nOk l (8 + r.length) = true := fun l h => by unfold nOk; rw [h]; simp
  have ht4 : (four r.length ++ List.replicate (4 + r.length) (0 : Int)).take 4 = four r.length := by rw [show 4 = (four r.length).length from rfl, List.take_left]
  rw [hnok _ (by simp [four_len]; omega), ht4]
  simp only [Bool.and_self, cond_true]
  rw [sum_eq fu (four r.length) (four_by _) (by simp [four_len]) (by rw [four_len]; omega)]
  simp only [Option.bind_some]
  rw [more_eq fu r hr (by omega) (by omega)]
  simp only [Option.bind_some]
  rw [more_more, roomPut_eq fu _ 4 (8 + r.length) (wv (moreB 0#32 (four r.length ++ r))) (by simp [four_len]; omega) (by omega) (wv_lt _).1 (wv_lt _).2]
  simp only [Option.bind_some]
  have hd8 : (four r.length ++ List.replicate (4 + r.length) (0 : Int)).drop (4 + 4) = List.replicate r.length 0 := by
    rw [← List.drop_drop, show (4 : Nat) = (four r.length).length from rfl, List.drop_left, four_len, List.drop_replicate]; congr 1; omega
  rw [ht4, hd8]
  have hl8 : (four r.length ++ four (wv (moreB 0#32 (four r.length ++ r))) ++ List.replicate r.length (0 : Int)).length = 8 + r.length := by simp [four_len]; omega
  rw [hnok _ hl8, show Nat.ble (4 + 4 + r.length) (8 + r.length) = true from Nat.ble_eq_true_of_le (by omega)]
  simp only [Bool.and_self, cond_true]
  have ht8 : (four r.length ++ four (wv (moreB 0#32 (four r.length ++ r))) ++ List.replicate r.length (0 : Int)).take (4 + 4) = four r.length ++ four (wv (moreB 0#32 (four r.length ++ r))) := by
    rw [show 4 + 4 = (four r.length ++ four (wv (moreB 0#32 (four r.length ++ r)))).length by simp [four_len], List.take_left]
  rw [ht8, List.drop_of_length_le (by rw [hl8]; omega), List.append_nil]
  rfl
theorem got6 (S r : List Int) (h4 : S.length = 4) (hr : r.length ≤ 65536) (hne : sumI (four r.length ++ r) ≠ val4 (S ++ r)) : (got8 (four r.length ++ S ++ r) 0).2.2 = 6 := by
  have hd1 : (four r.length ++ S ++ r).drop (0 : Int).toNat = four r.length ++ (S ++ r) := by
    show (four r.length ++ S ++ r).drop 0 = _
    rw [List.drop_zero, List.append_assoc]
  have hd2 : (four r.length ++ S ++ r).drop ((0 : Int) + 4).toNat = S ++ r := by
    show (four r.length ++ S ++ r).drop 4 = _
    rw [List.append_assoc, show 4 = (four r.length).length from rfl, List.drop_left]
  have v1 : val4 ((four r.length ++ S ++ r).drop (0 : Int).toNat) = r.length := by rw [hd1]; exact val_four _ (by omega) (by omega) _
  have hl : ((four r.length ++ S ++ r).length : Int) = 8 + r.length := by simp [four_len, h4]; omega
  have c1 : cutL (four r.length ++ S ++ r) (0 : Int) ((0 : Int) + 4) = four r.length := by
    have := cut_mid [] (four r.length) (S ++ r) 0 (0 + 4) rfl rfl
    rw [List.nil_append, ← List.append_assoc] at this
    exact this
  have c2 : cutL (four r.length ++ S ++ r) ((0 : Int) + 8) ((0 : Int) + 8 + r.length) = r := by
    have := cut_mid (four r.length ++ S) r [] (0 + 8) (0 + 8 + r.length) (by simp [four_len, h4]) (by simp [four_len, h4])
    rw [List.append_nil] at this
    exact this
  unfold got8
  rw [v1, hd2, c1, c2, hl, if_neg (by omega), if_neg (by omega), if_neg (by omega), if_pos hne]
theorem by_spoilt {p s : List Int} {w0 w1 w2 w3 d0 d1 d2 d3 : Int} (hb : By (p ++ w0 :: w1 :: w2 :: w3 :: s)) (hd : ∀ x ∈ [d0, d1, d2, d3], (0 : Int) ≤ x ∧ x ≤ 255) : By (p ++ bXor .u8 w0 d0 :: bXor .u8 w1 d1 :: bXor .u8 w2 d2 :: bXor .u8 w3 d3 :: s) := fun x hx => by
  have hw : ∀ x ∈ [w0, w1, w2, w3], (0 : Int) ≤ x ∧ x ≤ 255 := fun x hx => hb x (by simp at hx ⊢; rcases hx with rfl | rfl | rfl | rfl <;> simp)
  simp only [List.mem_append, List.mem_cons] at hx
  rcases hx with hx | rfl | rfl | rfl | rfl | hx
  · exact hb x (by simp [hx])
  · exact (xor_byte (hw w0 (by simp)) (hd d0 (by simp))).1
  · exact (xor_byte (hw w1 (by simp)) (hd d1 (by simp))).1
  · exact (xor_byte (hw w2 (by simp)) (hd d2 (by simp))).1
  · exact (xor_byte (hw w3 (by simp)) (hd d3 (by simp))).1
  · exact hb x (by simp [hx])
theorem j9_eq (k1 : Bool → Option (Bool × Unit)) (p s : List Int) (w0 w1 w2 w3 d0 d1 d2 d3 : Int) (hb : By (p ++ w0 :: w1 :: w2 :: w3 :: s)) (hd : ∀ x ∈ [d0, d1, d2, d3], (0 : Int) ≤ x ∧ x ≤ 255) (hl : (p ++ w0 :: w1 :: w2 :: w3 :: s).length ≤ 10000) (n : Nat) (hn : n = (p ++ w0 :: w1 :: w2 :: w3 :: s).length)
    (hnz : ¬ (d0 = 0 ∧ d1 = 0 ∧ d2 = 0 ∧ d3 = 0)) (h6 : (got8 (p ++ bXor .u8 w0 d0 :: bXor .u8 w1 d1 :: bXor .u8 w2 d2 :: bXor .u8 w3 d3 :: s) 0).2.2 = 6) :
    law08RecSpoilt.j9 200000 k1 n n (p.length : Int) d0 d1 d2 d3 (p ++ w0 :: w1 :: w2 :: w3 :: s) = k1 true := by
  unfold law08RecSpoilt.j9
  rw [spoil8_rounds 200000 _ n false p s w0 w1 w2 w3 d0 d1 d2 d3 199995 (by simp at hl; omega) n hn]
  have hc := by_spoilt hb hd
  have hlen : (p ++ bXor .u8 w0 d0 :: bXor .u8 w1 d1 :: bXor .u8 w2 d2 :: bXor .u8 w3 d3 :: s).length = n := by rw [hn]; simp
  have hch : ((((false || (d0 != 0)) || (d1 != 0)) || (d2 != 0)) || (d3 != 0)) = true := by
    by_cases q0 : d0 = 0
    · by_cases q1 : d1 = 0
      · by_cases q2 : d2 = 0
        · by_cases q3 : d3 = 0
          · exact (hnz ⟨q0, q1, q2, q3⟩).elim
          · simp [bne_iff_ne.2 q3]
        · simp [bne_iff_ne.2 q2]
      · simp [bne_iff_ne.2 q1]
    · simp [bne_iff_ne.2 q0]
  have hnok : nOk (p ++ bXor .u8 w0 d0 :: bXor .u8 w1 d1 :: bXor .u8 w2 d2 :: bXor .u8 w3 d3 :: s) n = true := by unfold nOk; rw [hlen]; simp
  rw [hch, hnok, hlen, show Nat.ble n n = true from Nat.ble_eq_true_of_le (Nat.le_refl _), List.take_of_length_le (by rw [hlen]; exact Nat.le_refl _)]
  rw [recGet_eq 200000 _ hc (by omega) (by omega) 0 (by omega), fixed08]
  simp only [Bool.and_self, chk, cond_true, Option.bind_some, h6]
  rfl
/-- THE LAW. -/
theorem lawRecSpoilt (r : List Int) (at0 : Int) (q : List Int) (h : okAll law08RecSpoilt.con.ps (r, at0, q, ())) : law08RecSpoilt 200000 r at0 q = some (true, ()) := by
  have hr : By r := byOf h.1
  have hat : 0 ≤ at0 ∧ at0 < 65536 := u16Of h.2.1
  have hq : q.length = 4 ∧ ∀ x ∈ q, (0 : Int) ≤ x ∧ x ≤ 255 := ⟨h.2.2.1.1, fun x hx => by
    have := h.2.2.1.2 x hx
    simp [Kd.ok, inR, IntKind.min, IntKind.max, IntKind.signed, IntKind.bits] at this
    omega⟩
  obtain ⟨d0, d1, d2, d3, rfl⟩ := ix_four hq.1
  have hd : ∀ x ∈ [d0, d1, d2, d3], (0 : Int) ≤ x ∧ x ≤ 255 := hq.2
  unfold law08RecSpoilt
  rw [fixed08]
  by_cases h1 : (r.length : Int) > 5000
  · simp only [decide_eq_true h1, cond_true, Option.bind_some]
  have hg : [List.getD [d0, d1, d2, d3] 0 (0 : Int), List.getD [d0, d1, d2, d3] 1 (0 : Int), List.getD [d0, d1, d2, d3] 2 (0 : Int), List.getD [d0, d1, d2, d3] 3 (0 : Int)] = [d0, d1, d2, d3] := rfl
  rw [hg]
  simp only [decide_eq_false h1, cond_false, Option.bind_some]
  by_cases h2 : d0 = 0 ∧ d1 = 0 ∧ d2 = 0 ∧ d3 = 0
  · obtain ⟨rfl, rfl, rfl, rfl⟩ := h2
    rw [beq_self_eq_true, cond_true]
  have h2' : ([d0, d1, d2, d3] == [(0 : Int), 0, 0, 0]) = false := by
    rw [beq_eq_false_iff_ne]
    intro e
    injection e with e0 e; injection e with e1 e; injection e with e2 e; injection e with e3 e
    exact h2 ⟨e0, e1, e2, e3⟩
  rw [h2', cond_false, putRow_eq 200000 (by omega) r hr (by omega)]
  have e1 : IntKind.i64.wrap ((8 : Int) + (r.length : Int)) = ((8 + r.length : Nat) : Int) := by rw [wrap_i64 (by omega) (by omega)]; omega
  simp only [Option.bind_some, bne_self_eq_false, cond_false, e1]
  have hS := sumI_in (four r.length ++ r)
  have hfb := frame_by hr
  have hfl := frame_len r
  have z0 := hd d0 (by simp)
  have z1 := hd d1 (by simp)
  have z2 := hd d2 (by simp)
  have z3 := hd d3 (by simp)
  -- the sum
  have caseA : ∀ k1, law08RecSpoilt.j9 200000 k1 (8 + r.length) (8 + r.length) 4 d0 d1 d2 d3 (frame r) = k1 true := fun k1 => by
    obtain ⟨w0, w1, w2, w3, hw⟩ := ix_four (four_len (sumI (four r.length ++ r)))
    have hfr : frame r = four r.length ++ w0 :: w1 :: w2 :: w3 :: r := by
      unfold frame; rw [hw, List.append_assoc]; rfl
    have hwb : ∀ x ∈ [w0, w1, w2, w3], (0 : Int) ≤ x ∧ x ≤ 255 := fun x hx => by rw [← hw] at hx; exact four_by _ x hx
    have y0 := xor_byte (hwb w0 (by simp)) z0
    have y1 := xor_byte (hwb w1 (by simp)) z1
    have y2 := xor_byte (hwb w2 (by simp)) z2
    have y3 := xor_byte (hwb w3 (by simp)) z3
    rw [hfr] at hfb hfl ⊢
    refine j9_eq k1 (four r.length) r w0 w1 w2 w3 d0 d1 d2 d3 hfb hd (by omega) _ hfl.symm h2 ?_
    have := got6 [bXor .u8 w0 d0, bXor .u8 w1 d1, bXor .u8 w2 d2, bXor .u8 w3 d3] r rfl (by omega) (fun e => by
      have e2 : four (sumI (four r.length ++ r)) = [bXor .u8 w0 d0, bXor .u8 w1 d1, bXor .u8 w2 d2, bXor .u8 w3 d3] := by
        rw [e]; exact four_val _ _ _ _ y0.1 y1.1 y2.1 y3.1 r
      rw [hw] at e2
      injection e2 with g0 e2; injection e2 with g1 e2; injection e2 with g2 e2; injection e2 with g3 e2
      have un : ∀ {w d : Int}, 0 ≤ d ∧ d ≤ 255 → w = bXor .u8 w d → BitVec.ofInt 32 (bXor .u8 w d) = BitVec.ofInt 32 w ^^^ BitVec.ofInt 32 d → d = 0 := fun {w d} hd1 hw1 hx => by
        rw [← hw1] at hx
        refine (of_byte hd1).2 ?_
        have := congrArg (BitVec.ofInt 32 w ^^^ ·) hx
        simp only [← BitVec.xor_assoc, BitVec.xor_self, BitVec.zero_xor] at this
        exact this.symm
      exact h2 ⟨un z0 g0 y0.2, un z1 g1 y1.2, un z2 g2 y2.2, un z3 g3 y3.2⟩)
    rw [List.append_assoc] at this
    exact this
  -- the record
  have caseB : ∀ k1 (t : Nat), t + 4 ≤ r.length → law08RecSpoilt.j9 200000 k1 (8 + r.length) (8 + r.length) ((8 + t : Nat) : Int) d0 d1 d2 d3 (frame r) = k1 true := fun k1 t ht => by
    obtain ⟨p, w0, w1, w2, w3, s, hrr, hp⟩ := window (b := r) (k := t) ht
    have hwb : ∀ x ∈ [w0, w1, w2, w3], (0 : Int) ≤ x ∧ x ≤ 255 := fun x hx => hr x (by rw [hrr]; simp at hx ⊢; rcases hx with rfl | rfl | rfl | rfl <;> simp)
    have hfr : frame r = (four r.length ++ four (sumI (four r.length ++ r)) ++ p) ++ w0 :: w1 :: w2 :: w3 :: s := by
      unfold frame; rw [List.append_assoc _ p, ← hrr]
    have hpl : ((8 + t : Nat) : Int) = ((four r.length ++ four (sumI (four r.length ++ r)) ++ p).length : Int) := by simp [four_len, hp]; omega
    rw [hpl]
    rw [hfr] at hfb hfl ⊢
    refine j9_eq k1 _ s w0 w1 w2 w3 d0 d1 d2 d3 hfb hd (by omega) _ hfl.symm h2 ?_
    have hlen : (p ++ bXor .u8 w0 d0 :: bXor .u8 w1 d1 :: bXor .u8 w2 d2 :: bXor .u8 w3 d3 :: s).length = r.length := by rw [hrr]; simp
    have hms := more_spoilt 0#32 (four r.length ++ p) s (hwb w0 (by simp)) (hwb w1 (by simp)) (hwb w2 (by simp)) (hwb w3 (by simp)) z0 z1 z2 z3 h2
    rw [List.append_assoc, List.append_assoc (four r.length) p, ← hrr] at hms
    have := got6 (four (sumI (four r.length ++ r))) (p ++ bXor .u8 w0 d0 :: bXor .u8 w1 d1 :: bXor .u8 w2 d2 :: bXor .u8 w3 d3 :: s) (four_len _) (by rw [hlen]; omega) (by
      rw [hlen, val_four _ hS.1 hS.2]
      exact bne_iff_ne.1 (sum_ne hms))
    rw [hlen] at this
    rw [List.append_assoc _ p]
    exact this
  by_cases h3 : (r.length : Int) ≥ 4
  · simp only [decide_eq_true h3, cond_true]
    unfold law08RecSpoilt.j48008
    have hg2 : List.getD [d0, d1, d2, d3] 0 (0 : Int) = d0 ∧ List.getD [d0, d1, d2, d3] 1 (0 : Int) = d1 ∧ List.getD [d0, d1, d2, d3] 2 (0 : Int) = d2 ∧ List.getD [d0, d1, d2, d3] 3 (0 : Int) = d3 := ⟨rfl, rfl, rfl, rfl⟩
    rw [hg2.1, hg2.2.1, hg2.2.2.1, hg2.2.2.2]
    cases decide (Int.tmod at0 8 > 0) with
    | false =>
      simp only [cond_false]
      rw [caseA]
    | true =>
      have t1 : IntKind.u16.wrap (Int.tdiv at0 8) = at0 / 8 := by
        rw [Int.tdiv_eq_ediv_of_nonneg hat.1]
        simp [IntKind.wrap, IntKind.signed, IntKind.bits]
        omega
      have t2 : IntKind.i64.wrap ((r.length : Int) - 3) = (r.length : Int) - 3 := wrap_i64 (by omega) (by omega)
      have t3 : IntKind.i64.wrap (at0 / 8) = at0 / 8 := wrap_i64 (by omega) (by omega)
      have t4 : (((r.length : Int) - 3) != 0) = true := bne_iff_ne.2 (by omega)
      have t5 : Int.tmod (at0 / 8) ((r.length : Int) - 3) = (at0 / 8) % ((r.length : Int) - 3) := Int.tmod_eq_emod_of_nonneg (by omega)
      have m0 := Int.emod_nonneg (at0 / 8) (show (r.length : Int) - 3 ≠ 0 by omega)
      have m1 := Int.emod_lt_of_pos (at0 / 8) (show 0 < (r.length : Int) - 3 by omega)
      simp only [cond_true, t1, t2, t3, t4, t5, chk]
      generalize (at0 / 8) % ((r.length : Int) - 3) = z at m0 m1 ⊢
      obtain ⟨t, rfl⟩ := Int.eq_ofNat_of_zero_le m0
      have t6 : IntKind.i64.wrap ((8 : Int) + (t : Int)) = ((8 + t : Nat) : Int) := by rw [wrap_i64 (by omega) (by omega)]; omega
      rw [t6, caseB _ t (by omega)]
  · simp only [decide_eq_false h3, cond_false]
    unfold law08RecSpoilt.j48008
    simp only [cond_false]
    have hg2 : List.getD [d0, d1, d2, d3] 0 (0 : Int) = d0 ∧ List.getD [d0, d1, d2, d3] 1 (0 : Int) = d1 ∧ List.getD [d0, d1, d2, d3] 2 (0 : Int) = d2 ∧ List.getD [d0, d1, d2, d3] 3 (0 : Int) = d3 := ⟨rfl, rfl, rfl, rfl⟩
    rw [hg2.1, hg2.2.1, hg2.2.2.1, hg2.2.2.2, caseA]

end Go.Shal.Pr
