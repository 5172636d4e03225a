/- The plain laws of sums joined. By an AI agent. -/
import Derived.Test.YtpfmaljnnhammaaDoorGen01p
set_option linter.unusedVariables false
namespace Go.Shal.Pr
open Go Go.Shal Go.Proofs

theorem wrap_i64 {x : Int} (h0 : -9223372036854775808 ≤ x) (h1 : x < 9223372036854775808) : IntKind.i64.wrap x = x := by
  simp only [IntKind.wrap, IntKind.signed, IntKind.bits]
  simp
  omega
theorem wrap_u32 {x : Int} (h0 : 0 ≤ x) (h1 : x < 4294967296) : IntKind.u32.wrap x = x := by
  simp only [IntKind.wrap, IntKind.signed, IntKind.bits]
  simp
  omega
theorem ixL_get {l : List Int} {i : Nat} (h : i < l.length) : ixL (0 : Int) l i = l[i] := by
  unfold ixL
  simp [List.getElem?_eq_getElem h]
abbrev B32 := BitVec 32
def wv (a : B32) : Int := (a.toNat : Int)
theorem wv_lt (a : B32) : 0 ≤ wv a ∧ wv a < 4294967296 := by have := a.isLt; unfold wv; omega
theorem ofInt_wv (a : B32) : BitVec.ofInt 32 (wv a) = a := by
  unfold wv
  rw [BitVec.ofInt_natCast, BitVec.ofNat_toNat, BitVec.setWidth_eq]
theorem wv_ofInt {x : Int} (h0 : 0 ≤ x) (h1 : x < 4294967296) : wv (BitVec.ofInt 32 x) = x := by
  obtain ⟨n, rfl⟩ := Int.eq_ofNat_of_zero_le h0
  show ((BitVec.ofInt 32 (n : Int)).toNat : Int) = n
  rw [BitVec.ofInt_natCast, BitVec.toNat_ofNat, Nat.mod_eq_of_lt (by omega)]
theorem xor_wv (a b : B32) : bXor .u32 (wv a) (wv b) = wv (a ^^^ b) := by
  show IntKind.u32.wrap (((BitVec.ofInt 32 (wv a) ^^^ BitVec.ofInt 32 (wv b)).toNat : Nat) : Int) = _
  rw [ofInt_wv, ofInt_wv]
  exact wrap_u32 (wv_lt _).1 (wv_lt _).2
theorem and_wv (a b : B32) : bAnd .u32 (wv a) (wv b) = wv (a &&& b) := by
  show IntKind.u32.wrap (((BitVec.ofInt 32 (wv a) &&& BitVec.ofInt 32 (wv b)).toNat : Nat) : Int) = _
  rw [ofInt_wv, ofInt_wv]
  exact wrap_u32 (wv_lt _).1 (wv_lt _).2
theorem not_wv (a : B32) : bNot .u32 (wv a) = wv (a ^^^ 4294967295#32) := by
  have e : bNot .u32 (wv a) = bXor .u32 4294967295 (wv a) := rfl
  rw [e, show (4294967295 : Int) = wv 4294967295#32 from rfl, xor_wv, BitVec.xor_comm]
theorem shr_wv (a : B32) (k : Nat) (hk : k < 32) : sShr .u32 (wv a) (k : Int) = wv (a >>> k) := by
  unfold sShr
  have e : min (k : Int).toNat IntKind.u32.bits = k := by simp only [IntKind.bits]; omega
  rw [e]
  unfold wv
  rw [BitVec.toNat_ushiftRight, Nat.shiftRight_eq_div_pow, Int.fdiv_eq_ediv_of_nonneg _ (by exact_mod_cast Nat.zero_le _), Int.natCast_ediv, Int.natCast_pow]
  rfl
def pol : B32 := 3988292384#32
def st1 (r : B32) : B32 := (r >>> 1) ^^^ (if r.getLsbD 0 = true then pol else 0#32)
theorem st1_xor (a b : B32) : st1 (a ^^^ b) = st1 a ^^^ st1 b := by
  unfold st1
  rw [BitVec.ushiftRight_xor_distrib, BitVec.getLsbD_xor]
  have e : (if (a.getLsbD 0 ^^ b.getLsbD 0) = true then pol else 0#32) = (if a.getLsbD 0 = true then pol else 0#32) ^^^ (if b.getLsbD 0 = true then pol else 0#32) := by
    cases a.getLsbD 0 <;> cases b.getLsbD 0 <;> simp
  rw [e]
  ac_rfl
def st4 (r : B32) : B32 := st1 (st1 (st1 (st1 r)))
theorem st4_xor (a b : B32) : st4 (a ^^^ b) = st4 a ^^^ st4 b := by unfold st4; simp only [st1_xor]
def tabB (m : B32) : B32 := BitVec.ofInt 32 (ixL (0 : Int) tabCrcHalves (wv m))
theorem st1_even {a : B32} (h : a.getLsbD 0 = false) : st1 a = a >>> 1 := by unfold st1; rw [h]; simp
theorem st4_high (r : B32) : st4 (r &&& 4294967280#32) = r >>> 4 := by
  have b : ∀ i, i < 4 → (r &&& 4294967280#32).getLsbD i = false := fun i hi => by
    rw [BitVec.getLsbD_and]
    have : (4294967280#32).getLsbD i = false := by
      match i, hi with
      | 0, _ => rfl
      | 1, _ => rfl
      | 2, _ => rfl
      | 3, _ => rfl
    rw [this, Bool.and_false]
  have go : ∀ (k : Nat), k < 4 → st1 ((r &&& 4294967280#32) >>> k) = (r &&& 4294967280#32) >>> (k + 1) := fun k hk => by
    rw [st1_even (by rw [BitVec.getLsbD_ushiftRight, Nat.add_zero]; exact b k hk), BitVec.shiftRight_add]
  have g0 := go 0 (by omega)
  rw [BitVec.ushiftRight_zero] at g0
  unfold st4
  rw [g0, go 1 (by omega), go 2 (by omega), go 3 (by omega)]
  apply BitVec.eq_of_getLsbD_eq
  intro i hi
  rw [BitVec.getLsbD_ushiftRight, BitVec.getLsbD_ushiftRight, BitVec.getLsbD_and]
  have : ∀ i : Fin 32, i.val < 28 → (4294967280#32).getLsbD (4 + i.val) = true := by decide
  by_cases h28 : i < 28
  · rw [this ⟨i, hi⟩ h28, Bool.and_true]
  · rw [BitVec.getLsbD_of_ge r (4 + i) (by omega), Bool.false_and]
theorem st4_low (m : B32) (h : m.toNat < 16) : st4 m = tabB m := by
  have key : ∀ n : Fin 16, st4 (BitVec.ofNat 32 n.val) = tabB (BitVec.ofNat 32 n.val) := by decide +kernel
  have := key ⟨m.toNat, h⟩
  simp only [BitVec.ofNat_toNat, BitVec.setWidth_eq] at this
  exact this
theorem low_lt (r : B32) : (r &&& 15#32).toNat < 16 := by
  rw [BitVec.toNat_and]
  exact Nat.lt_of_le_of_lt Nat.and_le_right (by decide)
theorem st4_eq (r : B32) : st4 r = (r >>> 4) ^^^ tabB (r &&& 15#32) := by
  have e : r = (r &&& 4294967280#32) ^^^ (r &&& 15#32) := by
    apply BitVec.eq_of_getLsbD_eq
    intro i hi
    rw [BitVec.getLsbD_xor, BitVec.getLsbD_and, BitVec.getLsbD_and]
    have : ∀ i : Fin 32, (15#32).getLsbD i.val = !(4294967280#32).getLsbD i.val := by decide
    rw [this ⟨i, hi⟩]
    cases r.getLsbD i <;> cases (4294967280#32).getLsbD i <;> rfl
  conv => lhs; rw [e]
  rw [st4_xor, st4_high, st4_low _ (low_lt r)]
def st8 (r : B32) : B32 := st4 (st4 r)
def rowB (r : B32) (l : List Int) : B32 := l.foldl (fun r c => st8 (r ^^^ BitVec.ofInt 32 c)) r
theorem tab_wv (r : B32) : ixArr 16 (bAnd .u32 (wv r) (15 : Int)) = true ∧ bXor .u32 (sShr .u32 (wv r) (4 : Int)) (ixL (0 : Int) tabCrcHalves (bAnd .u32 (wv r) (15 : Int))) = wv (st4 r) := by
  have e1 : bAnd .u32 (wv r) (15 : Int) = wv (r &&& 15#32) := and_wv r 15#32
  have hl := low_lt r
  have e2 : sShr .u32 (wv r) (4 : Int) = wv (r >>> 4) := shr_wv r 4 (by omega)
  rw [e1, e2]
  refine ⟨by unfold ixArr wv; simp only [Bool.and_eq_true, decide_eq_true_eq]; omega, ?_⟩
  have e3 : ixL (0 : Int) tabCrcHalves (wv (r &&& 15#32)) = wv (tabB (r &&& 15#32)) := by
    have key : ∀ n : Fin 16, ixL (0 : Int) tabCrcHalves (wv (BitVec.ofNat 32 n.val)) = wv (tabB (BitVec.ofNat 32 n.val)) := by decide +kernel
    have := key ⟨(r &&& 15#32).toNat, hl⟩
    simp only [BitVec.ofNat_toNat, BitVec.setWidth_eq] at this
    exact this
  rw [e3, xor_wv, st4_eq]
def By (l : List Int) : Prop := ∀ b ∈ l, (0 : Int) ≤ b ∧ b ≤ 255
theorem carry_rounds (fu : Nat) (k2 : Int → Option (Int × Unit)) (b : List Int) (hb : By b) (hl : b.length ≤ 1000000) : ∀ (m i : Nat) (r : B32), i ≤ b.length → b.length < i + m →
    crcCarry.l2 fu k2 m (wv r) b b.length i = k2 (wv (rowB r (b.drop i))) := by
  intro m
  induction m with
  | zero => intro i r h1 h2; omega
  | succ m ih =>
    intro i r h1 h2
    unfold crcCarry.l2 crcCarry.b2
    by_cases h : i < b.length
    · have hi : (i : Int) < b.length := by omega
      have hx : ixOk b i = true := by simp [ixOk, h]
      have e1 : IntKind.i64.wrap ((i : Int) + 1) = (i + 1 : Nat) := wrap_i64 (by omega) (by omega)
      have hc := hb _ (List.getElem_mem h)
      rw [List.drop_eq_getElem_cons h]
      simp only [hi, decide_true, cond_true, chk, hx, ixL_get h]
      generalize b[i] = c at hc
      have e2 : bXor .u32 (wv r) (IntKind.u32.wrap c) = wv (r ^^^ BitVec.ofInt 32 c) := by
        rw [wrap_u32 (by omega) (by omega), ← xor_wv, wv_ofInt (by omega) (by omega)]
      obtain ⟨q1, q2⟩ := tab_wv (r ^^^ BitVec.ofInt 32 c)
      obtain ⟨q3, q4⟩ := tab_wv (st4 (r ^^^ BitVec.ofInt 32 c))
      simp only [e1, e2, q1, q2, q3, q4, cond_true]
      exact ih (i + 1) (st8 (r ^^^ BitVec.ofInt 32 c)) (by omega) (by omega)
    · have hi : ¬ (i : Int) < b.length := by omega
      rw [List.drop_of_length_le (by omega)]
      simp only [hi, decide_false, cond_false]
      rfl
theorem carry_eq (fu : Nat) (b : List Int) (hb : By b) (hl : b.length ≤ 1000000) (hf : b.length < fu) (r : B32) : crcCarry fu (wv r) b = some (wv (rowB r b), ()) := by
  unfold crcCarry
  have := carry_rounds fu (fun q => some (q, ())) b hb hl fu 0 r (by omega) (by omega)
  rw [List.drop_zero] at this
  exact this
def moreB (s : B32) (b : List Int) : B32 := rowB (s ^^^ 4294967295#32) b ^^^ 4294967295#32
theorem more_eq (fu : Nat) (b : List Int) (hb : By b) (hl : b.length ≤ 1000000) (hf : b.length < fu) (s : B32) : crcMore fu (wv s) b = some (wv (moreB s b), ()) := by
  unfold crcMore
  rw [not_wv, carry_eq fu b hb hl hf]
  simp only [Option.bind_some, not_wv]
  rfl
theorem sum_eq (fu : Nat) (b : List Int) (hb : By b) (hl : b.length ≤ 1000000) (hf : b.length < fu) : crcSum fu b = some (wv (moreB 0#32 b), ()) := by
  unfold crcSum
  have := more_eq fu b hb hl hf 0#32
  rw [show wv 0#32 = 0 from rfl] at this
  rw [this]
  rfl
theorem byOf {l : List Int} (h : (Kd.slice (.int .u8)).ok l) : By l := fun x hx => by
  have := h.2 x hx
  simp [Kd.ok, inR, IntKind.min, IntKind.max, IntKind.signed, IntKind.bits] at this
  omega
theorem fixed01 : law01Fixed 6000 = some (true, ()) := by kernel_rfl
theorem shr32 (x : Int) (k : Nat) (hk : k < 32) : sShr .u32 x (k : Int) = x / 2 ^ k := by
  unfold sShr
  have e : min (k : Int).toNat IntKind.u32.bits = k := by simp only [IntKind.bits]; omega
  rw [e, Int.fdiv_eq_ediv_of_nonneg]
  exact_mod_cast Nat.zero_le _
theorem apOk1 {xs ys : List Int} (h : xs.length + ys.length ≤ 1000000) : apOk xs ys 1 = true := by
  unfold apOk
  exact decide_eq_true (Nat.le_trans (Nat.mul_le_mul_right 1 h) (by decide))
theorem more_more (a b : List Int) : moreB (moreB 0#32 a) b = moreB 0#32 (a ++ b) := by
  unfold moreB
  rw [BitVec.xor_assoc, BitVec.xor_self, BitVec.xor_zero]
  unfold rowB
  rw [List.foldl_append]
theorem by_app {a b : List Int} (ha : By a) (hb : By b) : By (a ++ b) := fun x hx => by
  rcases List.mem_append.1 hx with h | h
  · exact ha x h
  · exact hb x h
/-! ### Rows of zero bytes -/
def zN : Nat → B32 → B32
  | 0, r => r
  | n + 1, r => zN n (st8 r)
theorem st8_xor (a b : B32) : st8 (a ^^^ b) = st8 a ^^^ st8 b := by unfold st8; rw [st4_xor, st4_xor]
theorem zN_xor : ∀ (n : Nat) (a b : B32), zN n (a ^^^ b) = zN n a ^^^ zN n b
  | 0, _, _ => rfl
  | n + 1, a, b => by
    show zN n (st8 (a ^^^ b)) = zN n (st8 a) ^^^ zN n (st8 b)
    rw [st8_xor, zN_xor n]
theorem zN_add : ∀ (m n : Nat) (r : B32), zN (m + n) r = zN n (zN m r)
  | 0, n, r => by rw [Nat.zero_add]; rfl
  | m + 1, n, r => by
    rw [show m + 1 + n = (m + n) + 1 by omega]
    show zN (m + n) (st8 r) = zN n (zN m (st8 r))
    exact zN_add m n _
theorem rowB_xor : ∀ (b : List Int) (x y : B32), rowB (x ^^^ y) b = rowB x b ^^^ zN b.length y
  | [], x, y => rfl
  | c :: b, x, y => by
    show rowB (st8 (x ^^^ y ^^^ BitVec.ofInt 32 c)) b = rowB (st8 (x ^^^ BitVec.ofInt 32 c)) b ^^^ zN b.length (st8 y)
    rw [← rowB_xor b, ← st8_xor]
    congr 2
    ac_rfl
theorem join_sum (a b : List Int) : zN b.length (moreB 0#32 a) ^^^ moreB 0#32 b = moreB 0#32 (a ++ b) := by
  have happ : ∀ r, rowB r (a ++ b) = rowB (rowB r a) b := fun r => List.foldl_append
  unfold moreB
  rw [happ]
  rw [BitVec.zero_xor]
  generalize 4294967295#32 = F0
  generalize rowB F0 a = A
  have e : rowB A b = rowB F0 b ^^^ zN b.length (A ^^^ F0) := by
    rw [← rowB_xor, BitVec.xor_comm A F0, ← BitVec.xor_assoc, BitVec.xor_self, BitVec.zero_xor]
  rw [e]
  ac_rfl
/-! ### Tables of what becomes of each bit -/
def mat (f : B32 → B32) : List Int := (List.range 32).map fun i => wv (f (1#32 <<< i))
theorem mat_len (f : B32 → B32) : (mat f).length = 32 := by unfold mat; simp
theorem mat_ix (f : B32 → B32) {i : Nat} (h : i < 32) : ixL (0 : Int) (mat f) i = wv (f (1#32 <<< i)) := by
  unfold ixL mat
  rw [Int.toNat_natCast]
  simp [h]
theorem lin0 {f : B32 → B32} (hf : ∀ a b, f (a ^^^ b) = f a ^^^ f b) : f 0#32 = 0#32 := by
  have := hf 0#32 0#32
  rw [BitVec.xor_self, BitVec.xor_self] at this
  exact this
theorem and1_wv (x : B32) : (bAnd .u32 (wv x) (1 : Int) == 1) = x.getLsbD 0 := by
  have e1 : bAnd .u32 (wv x) (1 : Int) = wv (x &&& 1#32) := by
    show IntKind.u32.wrap (((BitVec.ofInt 32 (wv x) &&& BitVec.ofInt 32 1).toNat : Nat) : Int) = _
    rw [ofInt_wv]
    have := wv_lt (x &&& 1#32)
    exact wrap_u32 this.1 (by omega)
  rw [e1]
  unfold wv
  rw [BitVec.toNat_and, show (1#32).toNat = 1 from rfl, Nat.and_one_is_mod]
  rw [BitVec.getLsbD, Nat.testBit_zero]
  by_cases h : x.toNat % 2 = 1
  · rw [h]; rfl
  · rw [show x.toNat % 2 = 0 by omega]; rfl
theorem shr1_wv (x : B32) : sShr .u32 (wv x) (1 : Int) = wv (x >>> 1) := by
  have := shr32 (wv x) 1 (by omega)
  rw [show ((1 : Nat) : Int) = 1 from rfl] at this
  rw [this]
  unfold wv
  rw [BitVec.toNat_ushiftRight, Nat.shiftRight_eq_div_pow]
  omega
theorem split_bit (r : B32) (i : Nat) (hi : i < 32) : (r >>> i) <<< i = ((r >>> (i + 1)) <<< (i + 1)) ^^^ (if r.getLsbD i = true then 1#32 <<< i else 0#32) := by
  apply BitVec.eq_of_getLsbD_eq
  intro j hj
  rw [BitVec.getLsbD_xor, BitVec.getLsbD_shiftLeft, BitVec.getLsbD_shiftLeft, BitVec.getLsbD_ushiftRight, BitVec.getLsbD_ushiftRight]
  have hone : (if r.getLsbD i = true then 1#32 <<< i else 0#32).getLsbD j = (r.getLsbD i && decide (j = i)) := by
    have h1 : (1#32 <<< i).getLsbD j = decide (j = i) := by
      rw [BitVec.getLsbD_shiftLeft, BitVec.getLsbD_one]
      by_cases h : j < i
      · simp [h]; omega
      · by_cases h2 : j = i
        · subst h2; simp [hj]
        · simp [h, h2]; omega
    cases r.getLsbD i with
    | true => simp only [if_true, h1, Bool.true_and]
    | false => simp
  rw [hone]
  by_cases h : j < i
  · have h1 : ¬ j = i := by omega
    have h2 : j < i + 1 := by omega
    simp [h, h1, h2]
  · by_cases h2 : j = i
    · subst h2; simp [hj]
    · have h3 : ¬ j < i + 1 := by omega
      have h4 : i + (j - i) = j := by omega
      have h5 : i + 1 + (j - (i + 1)) = j := by omega
      simp [h, h2, h3, h4, h5]
theorem times_rounds (fu : Nat) (k2 : Int → Option (Int × Unit)) {f : B32 → B32} (hf : ∀ a b, f (a ^^^ b) = f a ^^^ f b) (r : B32) : ∀ (k m i : Nat) (o : B32), i + k = 32 → k < m →
    crcMatrixTimes.l3 fu k2 m (mat f) (wv (r >>> i)) (wv o) i = k2 (wv (o ^^^ f ((r >>> i) <<< i))) := by
  have hz : ∀ (m i : Nat) (o : B32), r >>> i = 0#32 → crcMatrixTimes.l3 fu k2 (m + 1) (mat f) (wv (r >>> i)) (wv o) i = k2 (wv (o ^^^ f ((r >>> i) <<< i))) := fun m i o h => by
    rw [h]
    unfold crcMatrixTimes.l3 crcMatrixTimes.b3
    rw [show (0#32) <<< i = 0#32 by simp, lin0 hf, BitVec.xor_zero]
    rfl
  intro k
  induction k with
  | zero =>
    intro m i o h1 h2
    obtain ⟨m, rfl⟩ : ∃ j, m = j + 1 := ⟨m - 1, by omega⟩
    exact hz m i o (by
      obtain rfl : i = 32 := by omega
      apply BitVec.eq_of_getLsbD_eq
      intro j hj
      rw [BitVec.getLsbD_ushiftRight, BitVec.getLsbD_of_ge r _ (by omega)]; simp)
  | succ k ih =>
    intro m i o h1 h2
    obtain ⟨m, rfl⟩ : ∃ j, m = j + 1 := ⟨m - 1, by omega⟩
    by_cases h : r >>> i = 0#32
    · exact hz m i o h
    · have hne : (wv (r >>> i) != 0) = true := by
        rw [bne_iff_ne]
        intro e
        apply h
        have := ofInt_wv (r >>> i)
        rw [e] at this
        rw [← this]; rfl
      have e1 : IntKind.i64.wrap ((i : Int) + 1) = ((i + 1 : Nat) : Int) := by rw [wrap_i64 (by omega) (by omega)]; omega
      have e2 : ixArr 32 (i : Int) = true := by unfold ixArr; simp; omega
      have hb : (r >>> i).getLsbD 0 = r.getLsbD i := by rw [BitVec.getLsbD_ushiftRight, Nat.add_zero]
      have hs : (r >>> i) >>> 1 = r >>> (i + 1) := by rw [BitVec.shiftRight_add]
      rw [split_bit r i (by omega), hf]
      unfold crcMatrixTimes.l3 crcMatrixTimes.b3
      rw [hne, cond_true]
      simp only [and1_wv, shr1_wv, hb, hs, e1, e2, mat_ix f (show i < 32 by omega), chk, cond_true, xor_wv]
      cases r.getLsbD i with
      | true =>
        simp only [cond_true, if_true]
        rw [ih m (i + 1) _ (by omega) (by omega)]
        congr 2
        ac_rfl
      | false =>
        simp only [cond_false, Bool.false_eq_true, if_false]
        rw [ih m (i + 1) _ (by omega) (by omega), lin0 hf, BitVec.xor_zero]
theorem times_eq (fu : Nat) (hfu : 100 ≤ fu) {f : B32 → B32} (hf : ∀ a b, f (a ^^^ b) = f a ^^^ f b) (r : B32) : crcMatrixTimes fu (mat f) (wv r) = some (wv (f r), ()) := by
  have := times_rounds fu (fun o => some (o, ())) hf r 32 fu 0 0#32 (by omega) (by omega)
  rw [BitVec.ushiftRight_zero, BitVec.shiftLeft_zero, BitVec.zero_xor] at this
  exact this
/-! ### The tables themselves -/
theorem get32 {l : List Int} (h : l.length = 32) : ([List.getD l 0 (0 : Int), List.getD l 1 (0 : Int), List.getD l 2 (0 : Int), List.getD l 3 (0 : Int), List.getD l 4 (0 : Int), List.getD l 5 (0 : Int), List.getD l 6 (0 : Int), List.getD l 7 (0 : Int), List.getD l 8 (0 : Int), List.getD l 9 (0 : Int), List.getD l 10 (0 : Int), List.getD l 11 (0 : Int), List.getD l 12 (0 : Int), List.getD l 13 (0 : Int), List.getD l 14 (0 : Int), List.getD l 15 (0 : Int), List.getD l 16 (0 : Int), List.getD l 17 (0 : Int), List.getD l 18 (0 : Int), List.getD l 19 (0 : Int), List.getD l 20 (0 : Int), List.getD l 21 (0 : Int), List.getD l 22 (0 : Int), List.getD l 23 (0 : Int), List.getD l 24 (0 : Int), List.getD l 25 (0 : Int), List.getD l 26 (0 : Int), List.getD l 27 (0 : Int), List.getD l 28 (0 : Int), List.getD l 29 (0 : Int), List.getD l 30 (0 : Int), List.getD l 31 (0 : Int)] : List Int) = l := by
  have e : l = (List.range 32).map fun i => l.getD i (0 : Int) := by
    refine List.ext_getElem (by simp [h]) fun i h1 h2 => ?_
    simp [List.getD, h1]
  exact (show ([List.getD l 0 (0 : Int), List.getD l 1 (0 : Int), List.getD l 2 (0 : Int), List.getD l 3 (0 : Int), List.getD l 4 (0 : Int), List.getD l 5 (0 : Int), List.getD l 6 (0 : Int), List.getD l 7 (0 : Int), List.getD l 8 (0 : Int), List.getD l 9 (0 : Int), List.getD l 10 (0 : Int), List.getD l 11 (0 : Int), List.getD l 12 (0 : Int), List.getD l 13 (0 : Int), List.getD l 14 (0 : Int), List.getD l 15 (0 : Int), List.getD l 16 (0 : Int), List.getD l 17 (0 : Int), List.getD l 18 (0 : Int), List.getD l 19 (0 : Int), List.getD l 20 (0 : Int), List.getD l 21 (0 : Int), List.getD l 22 (0 : Int), List.getD l 23 (0 : Int), List.getD l 24 (0 : Int), List.getD l 25 (0 : Int), List.getD l 26 (0 : Int), List.getD l 27 (0 : Int), List.getD l 28 (0 : Int), List.getD l 29 (0 : Int), List.getD l 30 (0 : Int), List.getD l 31 (0 : Int)] : List Int) = (List.range 32).map fun i => l.getD i (0 : Int) from rfl).trans e.symm
def part (f : B32 → B32) (i : Nat) : List Int := (List.range 32).map fun j => if j < i then wv (f (1#32 <<< j)) else 0
theorem part_len (f : B32 → B32) (i : Nat) : (part f i).length = 32 := by unfold part; simp
theorem part_set (f : B32 → B32) {i : Nat} (hi : i < 32) : stL (part f i) (i : Int) (wv (f (1#32 <<< i))) = part f (i + 1) := by
  unfold stL part
  rw [Int.toNat_natCast]
  refine List.ext_getElem (by simp) fun j h1 h2 => ?_
  rw [List.getElem_set]
  simp only [List.getElem_map, List.getElem_range]
  by_cases h : i = j
  · subst h; rw [if_pos rfl, if_pos (by omega)]
  · rw [if_neg h]
    by_cases h' : j < i
    · rw [if_pos h', if_pos (by omega)]
    · rw [if_neg h', if_neg (by omega)]
theorem part_all (f : B32 → B32) : part f 32 = mat f := by
  unfold part mat
  refine List.ext_getElem (by simp) fun j h1 h2 => ?_
  simp only [List.getElem_map, List.getElem_range]
  rw [if_pos (by simpa using h1)]
theorem part_none (f : B32 → B32) : part f 0 = List.replicate 32 (0 : Int) := rfl
theorem twice_rounds (fu : Nat) (hfu : 100 ≤ fu) k2 {f : B32 → B32} (hf : ∀ a b, f (a ^^^ b) = f a ^^^ f b) (c0 c1 c2 c3 c4 c5 c6 c7 c8 c9 c10 c11 c12 c13 c14 c15 c16 c17 c18 c19 c20 c21 c22 c23 c24 c25 c26 c27 c28 c29 c30 c31 : Int) : ∀ (k m i : Nat), i + k = 32 → k < m →
    crcMatrixTwice.l3 fu k2 m (mat f) (mat f) i c0 c1 c2 c3 c4 c5 c6 c7 c8 c9 c10 c11 c12 c13 c14 c15 c16 c17 c18 c19 c20 c21 c22 c23 c24 c25 c26 c27 c28 c29 c30 c31 (part (fun r => f (f r)) i) = k2 c0 c1 c2 c3 c4 c5 c6 c7 c8 c9 c10 c11 c12 c13 c14 c15 c16 c17 c18 c19 c20 c21 c22 c23 c24 c25 c26 c27 c28 c29 c30 c31 (part (fun r => f (f r)) 32) := by
  intro k
  induction k with
  | zero =>
    intro m i h1 h2
    obtain ⟨m, rfl⟩ : ∃ j, m = j + 1 := ⟨m - 1, by omega⟩
    obtain rfl : i = 32 := by omega
    unfold crcMatrixTwice.l3 crcMatrixTwice.b3
    rfl
  | succ k ih =>
    intro m i h1 h2
    obtain ⟨m, rfl⟩ : ∃ j, m = j + 1 := ⟨m - 1, by omega⟩
    have hi : i < 32 := by omega
    have e1 : IntKind.i64.wrap ((i : Int) + 1) = ((i + 1 : Nat) : Int) := by rw [wrap_i64 (by omega) (by omega)]; omega
    have e2 : ixArr 32 (i : Int) = true := by unfold ixArr; simp; omega
    have e3 : nOk (part (fun r => f (f r)) i) 32 = true := by unfold nOk; rw [part_len]; rfl
    unfold crcMatrixTwice.l3 crcMatrixTwice.b3
    simp only [decide_eq_true (show (i : Int) < 32 by omega), cond_true, e1, e2, e3, chk, mat_ix f hi, times_eq fu hfu hf, Option.bind_some, part_set (fun r => f (f r)) hi]
    exact ih m (i + 1) (by omega) (by omega)
theorem one_rounds (fu : Nat) (hfu : 100 ≤ fu) k2 (c0 c1 c2 c3 c4 c5 c6 c7 c8 c9 c10 c11 c12 c13 c14 c15 c16 c17 c18 c19 c20 c21 c22 c23 c24 c25 c26 c27 c28 c29 c30 c31 : Int) : ∀ (k m i : Nat), i + k = 32 → k < m →
    crcOne.l3 fu k2 m i c0 c1 c2 c3 c4 c5 c6 c7 c8 c9 c10 c11 c12 c13 c14 c15 c16 c17 c18 c19 c20 c21 c22 c23 c24 c25 c26 c27 c28 c29 c30 c31 (part (zN 1) i) = k2 c0 c1 c2 c3 c4 c5 c6 c7 c8 c9 c10 c11 c12 c13 c14 c15 c16 c17 c18 c19 c20 c21 c22 c23 c24 c25 c26 c27 c28 c29 c30 c31 (part (zN 1) 32) := by
  intro k
  induction k with
  | zero =>
    intro m i h1 h2
    obtain ⟨m, rfl⟩ : ∃ j, m = j + 1 := ⟨m - 1, by omega⟩
    obtain rfl : i = 32 := by omega
    unfold crcOne.l3 crcOne.b3
    rfl
  | succ k ih =>
    intro m i h1 h2
    obtain ⟨m, rfl⟩ : ∃ j, m = j + 1 := ⟨m - 1, by omega⟩
    have hi : i < 32 := by omega
    have e1 : IntKind.i64.wrap ((i : Int) + 1) = ((i + 1 : Nat) : Int) := by rw [wrap_i64 (by omega) (by omega)]; omega
    have e2 : ixArr 32 (i : Int) = true := by unfold ixArr; simp; omega
    have e3 : nOk (part (zN 1) i) 32 = true := by unfold nOk; rw [part_len]; rfl
    have e4 : sShl .u32 (1 : Int) (i : Int) = wv (1#32 <<< i) := by
      have : ∀ j : Fin 32, sShl .u32 (1 : Int) (j.val : Int) = wv (1#32 <<< j.val) := by decide
      exact this ⟨i, hi⟩
    have e5 : rowB (1#32 <<< i) [0] = zN 1 (1#32 <<< i) := by
      show st8 ((1#32 <<< i) ^^^ BitVec.ofInt 32 0) = st8 (1#32 <<< i)
      rw [show BitVec.ofInt 32 0 = 0#32 from rfl, BitVec.xor_zero]
    unfold crcOne.l3 crcOne.b3
    simp only [decide_eq_true (show (i : Int) < 32 by omega), decide_eq_false (show ¬ (i : Int) < 0 by omega), Bool.not_false, cond_true, e1, e2, e3, e4, chk]
    rw [carry_eq fu [0] (fun x hx => by simp at hx; omega) (by simp) (by simp; omega), e5]
    simp only [Option.bind_some, part_set (zN 1) hi]
    exact ih m (i + 1) (by omega) (by omega)
theorem twice_eq8 (fu : Nat) (hfu : 100 ≤ fu) {f : B32 → B32} (hf : ∀ a b, f (a ^^^ b) = f a ^^^ f b) : crcMatrixTwice fu (mat f) = some (mat (fun r => f (f r)), ()) := by
  unfold crcMatrixTwice
  rw [show (List.replicate 32 (0 : Int)) = part (fun r => f (f r)) 0 from rfl, show (0 : Int) = ((0 : Nat) : Int) from rfl]
  refine (twice_rounds fu hfu _ hf 0 0 0 0 0 0 0 0 0 0 0 0 0 0 0 0 0 0 0 0 0 0 0 0 0 0 0 0 0 0 0 0 32 fu 0 (by omega) (by omega)).trans ?_
  rw [part_all]
  have e3 : nOk (mat fun r => f (f r)) 32 = true := by unfold nOk; rw [mat_len]; rfl
  rw [e3]
  show some (_, ()) = _
  rw [show ((0 : Nat) : Int) = 0 from rfl, get32 (mat_len fun r => f (f r))]
theorem one_eq (fu : Nat) (hfu : 100 ≤ fu) : crcOne fu = some (mat (zN 1), ()) := by
  unfold crcOne
  rw [show (List.replicate 32 (0 : Int)) = part (zN 1) 0 from rfl, show (0 : Int) = ((0 : Nat) : Int) from rfl]
  refine (one_rounds fu hfu _ 0 0 0 0 0 0 0 0 0 0 0 0 0 0 0 0 0 0 0 0 0 0 0 0 0 0 0 0 0 0 0 0 32 fu 0 (by omega) (by omega)).trans ?_
  rw [part_all]
  have e3 : nOk (mat (zN 1)) 32 = true := by unfold nOk; rw [mat_len]; rfl
  rw [e3]
  show some (_, ()) = _
  rw [show ((0 : Nat) : Int) = 0 from rfl, get32 (mat_len (zN 1))]
theorem and1_i64 (n : Nat) (h : n < 9223372036854775808) : (bAnd .i64 (n : Int) (1 : Int) == 1) = decide (n % 2 = 1) := by
  have e1 : bAnd .i64 (n : Int) (1 : Int) = ((n % 2 : Nat) : Int) := by
    show IntKind.i64.wrap (((BitVec.ofInt 64 (n : Int) &&& BitVec.ofInt 64 1).toNat : Nat) : Int) = _
    rw [BitVec.toNat_and, BitVec.ofInt_natCast, BitVec.toNat_ofNat, Nat.mod_eq_of_lt (by omega), show (BitVec.ofInt 64 1).toNat = 1 from rfl, Nat.and_one_is_mod]
    exact wrap_i64 (by omega) (by omega)
  rw [e1]
  by_cases h : n % 2 = 1
  · rw [h]; rfl
  · rw [show n % 2 = 0 by omega]; rfl
theorem shr1_i64 (n : Nat) : sShr .i64 (n : Int) (1 : Int) = ((n / 2 : Nat) : Int) := by
  unfold sShr
  rw [show min (1 : Int).toNat IntKind.i64.bits = 1 from rfl]
  rw [Int.fdiv_eq_ediv_of_nonneg _ (by decide)]
  omega
theorem join_rounds (fu : Nat) (hfu : 100 ≤ fu) (k2 : Int → Int → Option (Int × Unit)) (b : Int) : ∀ (m n e : Nat) (x : B32), n < m → n < 9223372036854775808 →
    crcJoin.l2 fu k2 m (wv x) b n (List.getD (mat (zN e)) 0 (0 : Int)) (List.getD (mat (zN e)) 1 (0 : Int)) (List.getD (mat (zN e)) 2 (0 : Int)) (List.getD (mat (zN e)) 3 (0 : Int)) (List.getD (mat (zN e)) 4 (0 : Int)) (List.getD (mat (zN e)) 5 (0 : Int)) (List.getD (mat (zN e)) 6 (0 : Int)) (List.getD (mat (zN e)) 7 (0 : Int)) (List.getD (mat (zN e)) 8 (0 : Int)) (List.getD (mat (zN e)) 9 (0 : Int)) (List.getD (mat (zN e)) 10 (0 : Int)) (List.getD (mat (zN e)) 11 (0 : Int)) (List.getD (mat (zN e)) 12 (0 : Int)) (List.getD (mat (zN e)) 13 (0 : Int)) (List.getD (mat (zN e)) 14 (0 : Int)) (List.getD (mat (zN e)) 15 (0 : Int)) (List.getD (mat (zN e)) 16 (0 : Int)) (List.getD (mat (zN e)) 17 (0 : Int)) (List.getD (mat (zN e)) 18 (0 : Int)) (List.getD (mat (zN e)) 19 (0 : Int)) (List.getD (mat (zN e)) 20 (0 : Int)) (List.getD (mat (zN e)) 21 (0 : Int)) (List.getD (mat (zN e)) 22 (0 : Int)) (List.getD (mat (zN e)) 23 (0 : Int)) (List.getD (mat (zN e)) 24 (0 : Int)) (List.getD (mat (zN e)) 25 (0 : Int)) (List.getD (mat (zN e)) 26 (0 : Int)) (List.getD (mat (zN e)) 27 (0 : Int)) (List.getD (mat (zN e)) 28 (0 : Int)) (List.getD (mat (zN e)) 29 (0 : Int)) (List.getD (mat (zN e)) 30 (0 : Int)) (List.getD (mat (zN e)) 31 (0 : Int)) = k2 (wv (zN (e * n) x)) b := by
  intro m
  induction m with
  | zero => intro n e x h; omega
  | succ m ih =>
    intro n e x h1 h2
    unfold crcJoin.l2 crcJoin.b2
    by_cases h0 : n = 0
    · subst h0
      rw [decide_eq_false (show ¬ ((0 : Nat) : Int) > 0 by omega), cond_false, Nat.mul_zero]; rfl
    · have hd := fun r => ih (n / 2) (e + e) r (by omega) (by omega)
      have hz : (fun r => zN e (zN e r)) = zN (e + e) := funext fun r => (zN_add e e r).symm
      rw [decide_eq_true (show (n : Int) > 0 by omega), cond_true]
      simp only [get32 (mat_len (zN e)), and1_i64 n h2, shr1_i64, times_eq fu hfu (zN_xor e), twice_eq8 fu hfu (zN_xor e), Option.bind_some, hz, get32 (mat_len (zN (e + e))), hd]
      by_cases ho : n % 2 = 1
      · rw [decide_eq_true ho, cond_true, ← zN_add]
        congr 3
        have : n = 2 * (n / 2) + 1 := by omega
        conv => rhs; rw [this]
        rw [Nat.mul_add, Nat.mul_one, Nat.add_mul, ← Nat.mul_assoc, Nat.mul_comm e 2, Nat.mul_assoc, Nat.two_mul]
        omega
      · rw [decide_eq_false ho, cond_false]
        congr 3
        have : n = 2 * (n / 2) := by omega
        conv => rhs; rw [this]
        rw [Nat.add_mul, ← Nat.mul_assoc, Nat.mul_comm e 2, Nat.mul_assoc, Nat.two_mul]
theorem join_eq (fu : Nat) (x y : B32) (n : Nat) (hfu : 100 ≤ fu) (hn : n < fu) (h2 : n < 9223372036854775808) : crcJoin fu (wv x) (wv y) n = some (wv (zN n x ^^^ y), ()) := by
  unfold crcJoin
  rw [one_eq fu hfu]
  simp only [Option.bind_some]
  refine (join_rounds fu hfu _ (wv y) fu n 1 x hn h2).trans ?_
  rw [Nat.one_mul]
  simp only [xor_wv]
/-- THE LAW. -/
theorem lawCrcParts (a b : List Int) (h : okAll law01CrcParts.con.ps (a, b, ())) : law01CrcParts 11000 a b = some (true, ()) := by
  have ha : By a := byOf h.1
  have hb : By b := byOf h.2.1
  have hf : law01Fixed 11000 = some (true, ()) := by kernel_rfl
  unfold law01CrcParts
  by_cases h1 : (a.length : Int) > 5000
  · simp only [decide_eq_true h1, cond_true, hf, Option.bind_some]
  by_cases h2 : (b.length : Int) > 5000
  · simp only [decide_eq_false h1, decide_eq_true h2, cond_true, cond_false, hf, Option.bind_some]
  have e1 : apOk ([] : List Int) a 1 = true := apOk1 (by simp; omega)
  have e2 : apOk a b 1 = true := apOk1 (by omega)
  simp only [decide_eq_false h1, decide_eq_false h2, cond_false, e1, e2, List.nil_append, chk, cond_true, hf, Option.bind_some]
  rw [sum_eq 11000 (a ++ b) (by_app ha hb) (by simp; omega) (by simp; omega), sum_eq 11000 a ha (by omega) (by omega), sum_eq 11000 b hb (by omega) (by omega)]
  simp only [Option.bind_some, more_eq 11000 b hb (by omega) (by omega), more_more, beq_self_eq_true, cond_true]
  rw [join_eq 11000 _ _ b.length (by omega) (by omega) (by omega), join_sum]
  simp only [Option.bind_some, beq_self_eq_true]

end Go.Shal.Pr
