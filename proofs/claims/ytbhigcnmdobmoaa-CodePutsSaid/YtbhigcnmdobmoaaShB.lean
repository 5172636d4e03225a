/- An abstract interpreter of the model's code, proved right against the model: part 2. By an AI agent. -/
import Derived.Test.YtbhigcnmdobmoaaShA
import Derived.Laws.Externs
set_option linter.unusedVariables false
namespace Go.Shal
open Go.RowKit
section
variable {P : Program} {E : Env} {w0 : World} {R0 : RO} {p : Pr}
variable {g : Gh} {s : St} {a : Act} {w : World}
theorem Zoa (h : Inv w0 R0 p g s a w) {sv : SV} {v : Value} {s' : St} {d : Option Nat} (t : TypeId) (hv : SRep g sv v) (he : Zig s d sv = some s') :
  ∃ u w', (newVar t v).run P w = .ok u w' ∧ Then w0 R0 p s' (a.put d (.pointer (some u))) w' := by
 obtain ⟨cs, hc, rfl⟩ := Option.map_eq_some_iff.1 he
 have hb : BRep (g.newB w.heap.size) (.cells cs) v.cells.toList := (hv.cells hc).imp fun _ _ q => .inr (q.ext (Gh.newB_ext _ _))
 have m := h.toMem.alloc v.cells t (.cells cs) hb
 refine ⟨⟨w.heap.size, 0, none⟩, _, rfl, g.newB w.heap.size, (h.ext m (Gh.newB_ext _ _)).put (sv := .ptr s.heap.length 0) ⟨?_, ?_⟩ d⟩
 ·simp [Gh.newB, h.n]
 ·simp [Gh.newB, h.n]
theorem Zog (off : Nat) : ∀ (vs : List Value) (k : Nat) (cells : Array Value), off + k + vs.length ≤ cells.size →
  ((vs.zipIdx k).foldl (fun cs (x : Value × Nat) => cs.setIfInBounds (off + x.2) x.1) cells).toList = cells.toList.take (off + k) ++ vs ++ cells.toList.drop (off + k + vs.length)
 | [], k, cells, _ => by simp
 | v :: vs, k, cells, h => by
  simp only [List.zipIdx_cons, List.foldl_cons]
  rw [Zog off vs (k + 1) _ (by simp at h ⊢; omega), Array.toList_setIfInBounds]
  have ho : off + k < cells.toList.length := by simp at h ⊢; omega
  rw [show off + (k + 1) = off + k + 1 by omega, List.drop_set_of_lt (by omega), show off + k + 1 + vs.length = off + k + (v :: vs).length by simp; omega,
   List.take_succ_eq_append_getElem (by simpa using ho), List.take_set_of_le (Nat.le_refl _)]
  simp
theorem Zoe {place : Nat → Option (Nat × Nat)} {cells : Array Value} {j off size : Nat} {v : Value} {rest : List (Nat × Value)} (hp : place j = some (off, size)) (hs : v.cells.size = size) (hfit : off + size ≤ cells.size) :
  ∃ cells', Instr.fill place cells ((j, v) :: rest) = Instr.fill place cells' rest ∧ cells'.toList = cells.toList.take off ++ v.cells.toList ++ cells.toList.drop (off + v.cells.toList.length) := by
 refine ⟨v.cells.zipIdx.foldl (fun cs (c, j) => cs.setIfInBounds (off + j) c) cells, ?_, ?_⟩
 ·have h1 : ¬ ((v.cells.size != size) = true) := by simp [hs]
  simp only [Instr.fill, hp]
  rw [if_neg (by simp [hs]; omega)]
 ·rw [← Array.foldl_toList, Array.toList_zipIdx]
  have := Zog off v.cells.toList 0 cells (by simp; omega)
  simpa using this
theorem Zfd : ∀ {k : Kd} {j o : Nat} {f : Kd}, k.fieldAt j = some (o, f) → o + f.size ≤ k.size
 | .pair a b, 0, o, f, h => by cases h; simp [Kd.size]
 | .pair a b, j + 1, o, f, h => by
  obtain ⟨⟨o', f'⟩, h', e⟩ := Option.map_eq_some_iff.1 (show (b.fieldAt j).map (fun (x : Nat × Kd) => (a.size + x.1, x.2)) = some (o, f) from h)
  cases e
  have := Zfd h'
  simp only [Kd.size]; omega
 | .int _, 0, _, _, h => by cases h
 | .int _, _ + 1, _, _, h => by cases h
 | .bool, 0, _, _, h => by cases h
 | .bool, _ + 1, _, _, h => by cases h
 | .np, 0, _, _, h => by cases h
 | .np, _ + 1, _, _, h => by cases h
 | .rp _, 0, _, _, h => by cases h
 | .rp _, _ + 1, _, _, h => by cases h
 | .nsl, 0, _, _, h => by cases h
 | .nsl, _ + 1, _, _, h => by cases h
 | .tre k, 0, o, f, h => by cases h; simp [Kd.size]
 | .tre k, 1, o, f, h => by cases h; simp [Kd.size]
 | .tre k, _ + 2, _, _, h => by cases h
 | .flt, 0, _, _, h => by cases h
 | .flt, _ + 1, _, _, h => by cases h
 | .str, 0, _, _, h => by cases h
 | .str, _ + 1, _, _, h => by cases h
 | .slice _, 0, _, _, h => by cases h
 | .slice _, _ + 1, _, _, h => by cases h
 | .unit, 0, _, _, h => by cases h
 | .unit, _ + 1, _, _, h => by cases h
 | .arr _ _, 0, _, _, h => by cases h
 | .arr _ _, _ + 1, _, _, h => by cases h
theorem SRep.shut {sv : SV} {v : Value} (h : SRep g sv v) : SRep g sv.shut v := by
 cases sv with
 | own t k xs => exact DRep.of_one (k := .slice k) rfl h.1
 | fresh k xs => exact DRep.of_one (k := .slice k) rfl h.1
 | mo _ _ => trivial
 | _ => exact h
theorem ZpE (sv : SV) : sv.shut.plain = true := by cases sv <;> rfl
theorem SRep.cellsP {sv : SV} {v : Value} {cs : List SV} (h : SRep g sv v) (hp : sv.plain = true) (e : sv.cells = some cs) : All2 (PRep g) cs v.cells.toList := by
 have hc := h.cells e
 cases sv with
 | dat k x => cases e; exact Rep.split (DRep.cells h)
 | own _ _ _ => cases hp
 | agg cs' => cases e; obtain ⟨vs, rfl, h⟩ := h; exact h
 | cst c =>
  replace e : (match c.cells.toList.all (·.oneCell') with
   | true => some (c.cells.toList.map SV.cst)
   | false => none) = some cs := e
  split at e
  ·cases e
   generalize v.cells.toList = us at hc
   generalize c.cells.toList = l at hc
   induction l generalizing us with
   | nil => cases hc; exact .nil
   | cons x l ih => cases hc with
    | cons q r => exact .cons ⟨rfl, q⟩ (ih _ r)
  ·cases e
 | fresh a b =>
  cases e
  generalize v.cells.toList = us at hc
  cases hc with
  | cons q r => exact .cons ⟨rfl, q⟩ (by cases r; exact .nil)
 | ptr a b =>
  cases e
  generalize v.cells.toList = us at hc
  cases hc with
  | cons q r => exact .cons ⟨rfl, q⟩ (by cases r; exact .nil)
 | undef => cases e
 | rptr _ _ => cases e
 | tup _ => cases e
 | func _ _ => cases e
 | sl _ _ _ => cases e
 | eptr _ _ _ _ => cases e
 | mq _ _ _ => cases e
 | mo _ _ => cases hp
 | jk a b =>
  cases e
  generalize v.cells.toList = us at hc
  cases hc with
  | cons q r => exact .cons ⟨rfl, q⟩ (by cases r; exact .nil)
 | jp _ => cases e
 | rm _ _ _ _ => cases e
 | mp _ => cases e
 | raw _ _ _ => cases e
theorem Zhe {k : Kd} {sz : Array (Nat × Nat)} (hsz : ∀ j o f, k.fieldAt j = some (o, f) → sz[j]? = some (o, f.size)) (h : Inv w0 R0 p g s a w) :
  ∀ (parts : List (Nat × Operand)) (cs cs' : List SV) (cells : Array Value), All2 (PRep g) cs cells.toList → cs.length = k.size → Zeb k cs (parts.map fun (j, x) => (j, (s.eval x).shut)) = some cs' →
   ∃ cells', Instr.fill (sz[·]?) cells (parts.map fun (j, x) => (j, a.eval x)) = some cells' ∧ All2 (PRep g) cs' cells'.toList ∧ cs'.length = k.size
 | [], cs, cs', cells, hc, hl, he => by
  cases he
  exact ⟨cells, rfl, hc, hl⟩
 | (j, x) :: parts, cs, cs', cells, hc, hl, he => by
  simp only [List.map_cons, Zeb] at he
  split at he
  ·rename_i o f vs hf hcell
   split at he
   ·rename_i hb
    have hb := Nat.eq_of_beq_eq_true hb
    have hvs := (h.eval x).shut.cellsP (ZpE _) hcell
    have hlen := hvs.length
    have hfit := Zfd hf
    have hlc := hc.length
    obtain ⟨cells1, e1, e2⟩ := Zoe (place := (sz[·]?)) (rest := parts.map fun (j, x) => (j, a.eval x)) (v := a.eval x) (cells := cells) (hsz j o f hf) (by simp at hlen; omega) (by simp at hlc; omega)
    have hnew := Zmb (fun _ _ q => q) hc hvs (o := o) (by omega)
    rw [← e2] at hnew
    have hl' : (Zjs cs o vs).length = k.size := by
     rw [hnew.length, e2]
     simp at hlc hlen ⊢; omega
    obtain ⟨cells', e3, e4⟩ := Zhe hsz h parts _ _ cells1 hnew hl' he
    exact ⟨cells', by rw [List.map_cons]; exact e1.trans e3, e4⟩
   ·cases he
  ·cases he
theorem ZiR {fs : Array Field} {k : Kd} (hf : ∀ j, (j < fs.size → ∃ o f, k.fieldAt j = some (o, f)) ∧ ∀ o f, k.fieldAt j = some (o, f) → ZhV P fs j o f) (w : World) :
  ∃ sz : Array (Nat × Nat), (fs.mapM (m := Sem) fun f => do pure (f.offset, ← sizeOf f.type)).run P w = .ok sz w ∧ ∀ j o f, k.fieldAt j = some (o, f) → sz[j]? = some (o, f.size) := by
 have hone : ∀ j (hj : j < fs.size), ∃ o f inf, k.fieldAt j = some (o, f) ∧ fs[j].offset = o ∧ P.info? fs[j].type = some inf ∧ inf.size = f.size := by
  intro j hj
  obtain ⟨o, f, e⟩ := (hf j).1 hj
  obtain ⟨fld, inf, h1, h2, h3, h4, _⟩ := (hf j).2 o f e
  have h1' : fs[j] = fld := by simpa [hj] using h1
  exact ⟨o, f, inf, e, by rw [h1']; exact h2, by rw [h1']; exact h3, h4⟩
 have key : ∀ (l : List Field), (∀ x ∈ l, ∃ inf, P.info? x.type = some inf) → ∃ sz : List (Nat × Nat), (l.mapM (m := Sem) fun f => do pure (f.offset, ← sizeOf f.type)).run P w = .ok sz w ∧ sz.length = l.length ∧ ∀ (j : Nat) (fld : Field) (inf : TypeInfo), l[j]? = some fld → P.info? fld.type = some inf → sz[j]? = some (fld.offset, inf.size) := by
  intro l
  induction l with
  | nil => intro _; exact ⟨[], by simp, rfl, fun j fld inf h => by simp at h⟩
  | cons x l ih =>
   intro hx
   obtain ⟨inf, hi⟩ := hx x (by simp)
   obtain ⟨sz, h1, h2, h3⟩ := ih fun y hy => hx y (by simp [hy])
   refine ⟨(x.offset, inf.size) :: sz, ?_, by simp [h2], fun j fld inf' hj hi' => ?_⟩
   ·rw [List.mapM_cons, Sem.run_bind, Sem.run_bind, ZaY hi]
    simp only [Result.andThen_ok, Sem.run_pure]
    rw [Sem.run_bind, h1]
    rfl
   ·cases j with
    | zero =>
     obtain rfl : x = fld := by simpa using hj
     rw [hi] at hi'
     cases hi'
     rfl
    | succ j => exact h3 j fld inf' (by simpa using hj) hi'
 obtain ⟨sz, h1, h2, h3⟩ := key fs.toList fun x hx => by
  obtain ⟨j, hj, rfl⟩ := List.mem_iff_getElem.1 hx
  obtain ⟨o, f, inf, _, _, h, _⟩ := hone j (by simpa using hj)
  exact ⟨inf, by simpa using h⟩
 refine ⟨sz.toArray, ?_, fun j o f e => ?_⟩
 ·rw [Array.mapM_eq_mapM_toList, Sem.run_map, h1]
  rfl
 ·obtain ⟨fld, inf, e1, e2, e3, e4, _⟩ := (hf j).2 o f e
  have := h3 j fld inf (by simpa using e1) e3
  simp only [List.getElem?_toArray]
  rw [this, e2, e4]
theorem ZeE {g : Gh} : ∀ (k : Kd) {cs r : List Value}, k.ofCells cs = some (k.zero, r) → ∃ c, cs = c ++ r ∧ All2 (PRep g) k.zsplit c
 | .int k, cs, r, h => by
  replace h : cInt k cs = some ((0 : Int), r) := h
  unfold cInt at h
  split at h
  ·split at h
   ·rename_i n _ _ hd
    simp only [Bool.and_eq_true, decide_eq_true_eq] at hd
    obtain ⟨rfl, h1, h2⟩ := hd
    cases h
    exact ⟨[.int _ 0], rfl, .cons ⟨rfl, rfl, rfl, h1, h2⟩ .nil⟩
   ·cases h
  ·cases h
 | .bool, cs, r, h => by
  replace h : ZoQ cs = some (false, r) := h
  unfold ZoQ at h
  split at h
  ·cases h; exact ⟨[.bool false], rfl, .cons ⟨rfl, rfl, rfl⟩ .nil⟩
  ·cases h
 | .flt, cs, r, h => by
  replace h : cFlt cs = some ((0 : Nat), r) := h
  unfold cFlt at h
  split at h
  ·cases h; exact ⟨[.float .f64 0], rfl, .cons ⟨rfl, rfl, rfl⟩ .nil⟩
  ·cases h
 | .str, cs, r, h => by
  obtain ⟨c, h1, h2⟩ := Rep.ofCells g.R h
  obtain ⟨s, e, h3⟩ := h2
  subst e
  exact ⟨[.string s], h1, .cons ⟨rfl, rfl, s, rfl, h3⟩ .nil⟩
 | .slice k, cs, r, h => by
  replace h : cNil k.T cs = some (([] : List k.T), r) := h
  unfold cNil at h
  split at h
  ·cases h; exact ⟨[.slice none 0 0], rfl, .cons ⟨rfl, rfl, rfl⟩ .nil⟩
  ·cases h
 | .np, cs, r, h => by
  replace h : cNp cs = some ((), r) := h
  unfold cNp at h
  split at h
  ·cases h; exact ⟨[.pointer none], rfl, .cons ⟨rfl, rfl, rfl⟩ .nil⟩
  ·cases h
 | .nsl, cs, r, h => by
  replace h : cNsl cs = some ((), r) := h
  unfold cNsl at h
  split at h
  ·cases h; exact ⟨[.slice none 0 0], rfl, .cons ⟨rfl, rfl, rfl⟩ .nil⟩
  ·cases h
 | .rp _, cs, r, h => by cases h
 | .tre k, cs, r, h => by
  replace h : ((k.ofCells cs).bind fun x => (cNil (Tr k.T) x.2).bind fun y => some (Tr.mk x.1 y.1, y.2)) = some (Tr.mk k.zero [], r) := h
  obtain ⟨⟨y, r1⟩, e1, h⟩ := Option.bind_eq_some_iff.1 h
  obtain ⟨⟨z, r2⟩, e2, h⟩ := Option.bind_eq_some_iff.1 h
  cases h
  obtain ⟨c, rfl, h1⟩ := ZeE k e1
  unfold cNil at e2
  split at e2
  ·rename_i r' hy
   cases e2
   dsimp only at hy
   refine ⟨c ++ [.slice none 0 0], by rw [hy]; simp, h1.append (.cons ⟨rfl, rfl, rfl⟩ .nil)⟩
  ·cases e2
 | .unit, cs, r, h => by cases h; exact ⟨[], rfl, .nil⟩
 | .pair a b, cs, r, h => by
  replace h : ((a.ofCells cs).bind fun x => (b.ofCells x.2).bind fun y => some ((x.1, y.1), y.2)) = some ((a.zero, b.zero), r) := h
  obtain ⟨⟨y, r1⟩, e1, h⟩ := Option.bind_eq_some_iff.1 h
  obtain ⟨⟨z, r2⟩, e2, h⟩ := Option.bind_eq_some_iff.1 h
  cases h
  obtain ⟨c, rfl, h1⟩ := ZeE a e1
  obtain ⟨d, h2, h3⟩ := ZeE b e2
  dsimp only at h2
  subst h2
  exact ⟨c ++ d, by rw [List.append_assoc], h1.append h3⟩
 | .arr n k, cs, r, h => by
  have key : ∀ (n : Nat) {cs r : List Value}, Zls k.ofCells n cs = some (List.replicate n k.zero, r) → ∃ c, cs = c ++ r ∧ All2 (PRep g) ((List.range n).flatMap fun _ => k.zsplit) c := by
   intro n
   induction n with
   | zero => intro cs r h; cases h; exact ⟨[], rfl, .nil⟩
   | succ n ih =>
    intro cs r h
    obtain ⟨⟨y, r1⟩, e1, h⟩ := Option.bind_eq_some_iff.1 h
    obtain ⟨⟨z, r2⟩, e2, h⟩ := Option.bind_eq_some_iff.1 h
    simp only [Option.some.injEq, Prod.mk.injEq, List.replicate_succ, List.cons.injEq] at h
    obtain ⟨⟨rfl, rfl⟩, rfl⟩ := h
    obtain ⟨c, rfl, h1⟩ := ZeE k e1
    obtain ⟨d, h2, h3⟩ := ih e2
    dsimp only at h2
    subst h2
    refine ⟨c ++ d, by rw [List.append_assoc], ?_⟩
    rw [List.range_succ_eq_map, List.flatMap_cons, List.flatMap_map]
    exact h1.append h3
  exact key n h
theorem Zkb {g : Gh} {k : Kd} {z : Value} (h : k.ofVal z = some k.zero) : All2 (PRep g) k.zsplit z.cells.toList := by
 unfold Kd.ofVal at h
 split at h
 ·split at h
  ·obtain ⟨c, h1, h2⟩ := ZeE (g := g) k (ZgP h)
   rw [List.append_nil] at h1
   subst h1
   simpa [Value.cells] using h2
  ·cases h
 ·rename_i hk
  obtain ⟨c, h1, h2⟩ := ZeE (g := g) k (ZgP h)
  rw [List.append_nil] at h1
  have hr := (DRep.ofVal g.R (k := k) (v := z) (x := k.zero) (by unfold Kd.ofVal; rw [hk]; exact h)).cells
  have : z.cells.toList = [z] := by
   have h3 := Rep.ofCells g.R (ZgP h)
   obtain ⟨c', h4, h5⟩ := h3
   rw [List.append_nil] at h4
   exact ZdY (h5.oneCells z (by rw [← h4]; simp))
  rw [this, h1]; exact h2
theorem SRep.zeroOf {g : Gh} {k : Kd} {z : Value} (h : k.ofVal z = some k.zero) : SRep g (SV.zeroOf k) z := by
 have hz := Zkb (g := g) h
 have hd := DRep.ofVal g.R h
 unfold SV.zeroOf
 cases hk : k.agg with
 | true =>
  obtain ⟨cs, h1, rfl⟩ := hd
  rw [ZbN hk] at hz ⊢
  exact ⟨cs, rfl, by simpa [Value.cells] using hz⟩
 | false =>
  simp only []
  have h1 := (hd.one hk).oneCells z (by simp)
  rw [ZdY h1] at hz
  split
  ·rename_i v hv
   rw [hv] at hz
   cases hz with
   | cons q _ => exact q.2.srep
  ·trivial
theorem SRep.packZ {g : Gh} {k : Kd} {cs : List SV} {vs : List Value} (h : All2 (PRep g) cs vs) (hl : cs.length = k.size) : SRep g (Shal.packZ k cs) (k.val vs) := by
 have hall : All2 (fun s v => s = .undef ∨ CRep g s v) cs vs := h.imp fun _ _ q => .inr q.2
 unfold Shal.packZ
 split
 ·split
  ·rename_i hk
   rw [ZbN hk]
   refine ⟨vs, rfl, All2.mapL h fun s v q => ?_⟩
   obtain ⟨q1, q2⟩ := q
   cases s with
   | own _ _ _ => cases q1
   | mo _ _ => cases q1
   | fresh k xs => exact ⟨rfl, rfl, q2.1⟩
   | _ => exact ⟨rfl, q2⟩
  ·exact SRep.pack hall hl
 ·exact SRep.pack hall hl
theorem ZrM (hE : EnvTy P E) (h : Inv w0 R0 p g s a w) {t : TypeId} {i : TyInfo} (hty : E.ty t = some i) {parts : Array (Nat × Operand)} {cs : List SV} (hst : i.kd.isPair = true)
  (he : Zeb i.kd i.kd.zsplit (parts.toList.map fun (j, x) => (j, (s.eval x).shut)) = some cs) :
  ∃ v, (Instr.build t (parts.map fun (j, x) => (j, a.eval x))).run P w = .ok v w ∧ SRep g (Shal.packZ i.kd cs) v := by
 obtain ⟨inf, z, ht⟩ := hE.ty t i hty
 have hkd := ht.kd
 have hag : i.kd.agg = true := by revert hst; cases i.kd <;> first | exact fun _ => rfl | (intro h; cases h)
 obtain ⟨fs, hu, hf⟩ : ∃ fs, P.underlying t = some (.struct fs) ∧ ∀ j, (j < fs.size → ∃ o f, i.kd.fieldAt j = some (o, f)) ∧ ∀ o f, i.kd.fieldAt j = some (o, f) → ZhV P fs j o f := by
  revert hst hkd
  cases i.kd <;> first | exact fun _ h => h | (intro h; cases h)
 obtain ⟨sz, hm, hsz⟩ := ZiR hf w
 have hz := (DRep.ofVal g.R ht.zeroIs).cells
 have hsplit := Zkb (g := g) ht.zeroIs
 have hl : i.kd.zsplit.length = i.kd.size := by rw [hsplit.length, hz.length]
 obtain ⟨cells', h1, h2, h3⟩ := Zhe hsz h parts.toList _ _ z.cells hsplit hl he
 refine ⟨.agg cells', ?_, ?_⟩
 ·unfold Instr.build
  rw [Sem.run_bind, Zcj ht.info ht.zero, Result.andThen_ok, Sem.run_bind, run_underlying hu, Result.andThen_ok]
  simp only []
  rw [Sem.run_bind, hm, Result.andThen_ok]
  rw [Array.toList_map, h1]
  rfl
 ·have hall : All2 (fun s v => s = .undef ∨ CRep g s v) cs cells'.toList := h2.imp fun _ _ q => .inr q.2
  have := SRep.packZ h2 h3
  rw [ZbN hag] at this
  simpa using this
end
end Go.Shal
set_option linter.unusedVariables false
namespace Go.Shal
open Go.RowKit
section
variable {P : Program} {E : Env} {w0 : World} {R0 : RO} {p : Pr}
variable {g : Gh} {s : St} {a : Act} {w : World}
theorem Zbx (hE : EnvTy P E) {t e : Nat} {i : TyInfo} (h : E.elem t = some (e, i)) : P.underlying t = some (.slice e) ∧ ∃ inf z, TyOk P e i inf z := by
 unfold Env.elem at h
 obtain ⟨e', h1, h⟩ := Option.bind_eq_some_iff.1 h
 obtain ⟨i', h2, h⟩ := Option.bind_eq_some_iff.1 h
 cases h
 exact ⟨hE.elem t e h1, hE.ty e i h2⟩
theorem Zbp.set {R : RO} {k : Kd} {xs : List k.T} {cells c : List Value} {j : Nat} {x : k.T} (h : Zbp R k xs cells) (hj : j < xs.length) (hc : Rep R k x c) :
  Zbp R k (xs.set j x) (cells.take (j * k.size) ++ c ++ cells.drop (j * k.size + c.length)) := by
 have hl := hc.length
 have hfit : j * k.size + k.size ≤ cells.length := by
  rw [h.1, ← Nat.succ_mul]; exact Nat.mul_le_mul_right _ hj
 refine ⟨by
  simp only [List.length_append, List.length_take, List.length_drop, List.length_set]
  rw [h.1] at hfit ⊢
  rw [Nat.min_eq_left (by omega), hl]
  omega, fun i y hy => ?_⟩
 rw [List.getElem?_set] at hy
 split at hy
 ·rename_i e
  subst e
  obtain rfl := Option.some.inj hy
  refine ⟨c, hc, fun q u hu => ?_⟩
  have hq := (List.getElem?_eq_some_iff.1 hu).1
  rw [List.append_assoc, List.getElem?_append_right (by rw [List.length_take]; omega), List.length_take, List.getElem?_append_left (by omega)]
  rw [show j * k.size + q - min (j * k.size) cells.length = q by omega]; exact hu
 ·rename_i e
  obtain ⟨c', h1, h2⟩ := h.2 i y hy
  refine ⟨c', h1, fun q u hu => ?_⟩
  have := h2 q u hu
  have hq := (List.getElem?_eq_some_iff.1 hu).1
  rw [h1.length] at hq
  rcases Nat.lt_or_gt_of_ne e with hlt | hgt
  ·have hge : j * k.size + k.size ≤ i * k.size := by rw [← Nat.succ_mul]; exact Nat.mul_le_mul_right _ hlt
   rw [List.append_assoc, List.getElem?_append_right (by rw [List.length_take]; omega), List.length_take, List.getElem?_append_right (by omega), List.getElem?_drop]
   rw [show j * k.size + c.length + (i * k.size + q - min (j * k.size) cells.length - c.length) = i * k.size + q by omega]; exact this
  ·have hge : i * k.size + k.size ≤ j * k.size := by rw [← Nat.succ_mul]; exact Nat.mul_le_mul_right _ hgt
   rw [List.append_assoc, List.getElem?_append_left (by rw [List.length_take]; omega), List.getElem?_take_of_lt (by omega)]; exact this
theorem ZoD {α : Type} : ∀ {xs ys : List α} {j : Nat} {x : α}, setAt xs j x = some ys → ys = xs.set j x ∧ j < xs.length
 | [], _, _, _, h => by cases h
 | y :: r, ys, 0, x, h => by cases h; simp
 | y :: r, ys, j + 1, x, h => by
  obtain ⟨zs, h', rfl⟩ := Option.map_eq_some_iff.1 (show (setAt r j x).map (y :: ·) = some ys from h)
  obtain ⟨rfl, h2⟩ := ZoD h'
  exact ⟨rfl, by simpa using h2⟩
theorem Zen {k : Kd} (h : Inv w0 R0 p g s a w) : ∀ (parts : List (Nat × Operand)) (xs ys : List k.T) (cells : Array Value), Zbp g.R k xs cells.toList → Zdl k xs (parts.map fun (j, x) => (j, s.eval x)) = some ys →
  ∃ cells', Instr.fill (fun i => some (i * k.size, k.size)) cells (parts.map fun (j, x) => (j, a.eval x)) = some cells' ∧ Zbp g.R k ys cells'.toList ∧ ys.length = xs.length
 | [], xs, ys, cells, hr, he => by cases he; exact ⟨cells, rfl, hr, rfl⟩
 | (j, x) :: parts, xs, ys, cells, hr, he => by
  simp only [List.map_cons, Zdl] at he
  obtain ⟨v, e1, he⟩ := Option.bind_eq_some_iff.1 he
  obtain ⟨zs, e2, he⟩ := Option.bind_eq_some_iff.1 he
  obtain ⟨rfl, hj⟩ := ZoD e2
  have hc := ((h.eval x).as e1).cells
  have hlen := hc.length
  have hfit : j * k.size + k.size ≤ cells.toList.length := by rw [hr.1, ← Nat.succ_mul]; exact Nat.mul_le_mul_right _ hj
  obtain ⟨cells1, f1, f2⟩ := Zoe (place := fun i => some (i * k.size, k.size)) (rest := parts.map fun (j, x) => (j, a.eval x)) (v := a.eval x) (cells := cells) (j := j) rfl (by simpa using hlen) (by simpa using hfit)
  have hnew := hr.set hj hc
  rw [← f2] at hnew
  obtain ⟨cells', f3, f4, f5⟩ := Zen h parts _ ys cells1 hnew he
  exact ⟨cells', by rw [List.map_cons]; exact f1.trans f3, f4, by rw [f5, List.length_set]⟩
theorem ZfD {t : TypeId} {i : TyInfo} {inf : TypeInfo} {z : Value} (ht : TyOk P t i inf z) (R : RO) (len : Nat) {zc : Array Value} (hzc : (len * inf.size = 0) ∨ (zc = z.cells)) :
  Zbp R i.kd (List.replicate len i.kd.zero) ((List.range (len * i.kd.size)).map (zc[· % zc.size]!)) := by
 have hz := (DRep.ofVal R ht.zeroIs).cells
 have hzl := hz.length
 refine ⟨by rw [List.length_replicate]; simp, fun j x hx => ?_⟩
 have hj := (List.getElem?_eq_some_iff.1 hx).1
 rw [List.length_replicate] at hj
 rw [List.getElem?_replicate, if_pos hj] at hx
 obtain rfl := Option.some.inj hx
 refine ⟨_, hz, fun q u hq => ?_⟩
 have hq' := (List.getElem?_eq_some_iff.1 hq).1
 rw [hzl] at hq'
 have hin : j * i.kd.size + q < len * i.kd.size := by
  have : j * i.kd.size + i.kd.size ≤ len * i.kd.size := by rw [← Nat.succ_mul]; exact Nat.mul_le_mul_right _ hj
  omega
 have hzc : zc = z.cells := by
  rcases hzc with e | e
  ·rw [ht.size] at e; omega
  ·exact e
 subst hzc
 have hsz : z.cells.size = i.kd.size := by rw [← hzl]; simp
 have hqz : q < z.cells.size := by omega
 rw [List.getElem?_map, List.getElem?_range hin, Option.map_some]
 have hm : (j * i.kd.size + q) % z.cells.size = q := by
  rw [hsz, Nat.mul_add_mod', Nat.mod_eq_of_lt hq']
 rw [hm, getElem!_pos z.cells q hqz]
 rw [Array.getElem?_toList] at hq
 simpa [hqz] using hq
theorem Zcg (k : IntKind) (n : Int) (w : World) : (asIntOf (.int k n)).run P w = .ok (k, n) w := rfl
theorem ZlT (hE : EnvTy P E) (h : Inv w0 R0 p g s a w) {t : Nat} {x y : Operand} {d : Nat} {s' : St} (he : Zik E s d t (s.eval x) (s.eval y) = .go true s') :
  ∃ v w', (Instr.makeSlice t (a.eval x) (a.eval y)).run P w = .ok v w' ∧ Then w0 R0 p s' (a.put (some d) v) w' := by
 unfold Zik at he
 split at he
 ·cases he
 ·rename_i e i hel
  obtain ⟨hu, inf, z, ht⟩ := Zbx hE hel
  split at he
  ·rename_i l c b hl hc hby
   injection he with hok he
   subst he
   simp only [Bool.and_eq_true, decide_eq_true_eq, LIM] at hok
   obtain ⟨h0, h1, h2⟩ := hok
   obtain ⟨ev, r1⟩ := (h.eval x).asInt hl
   obtain ⟨ev', r2⟩ := (h.eval y).asInt hc
   have hbytes : inf.bytes = b + 1 := by rw [ht.bytes, hby]
   have hwrap : ∀ n : Int, inR .i64 n → IntKind.i64.wrap n = n := fun n hn => by
    have e1 : IntKind.i64.min = -9223372036854775808 := by decide
    have e2 : IntKind.i64.max = 9223372036854775807 := by decide
    obtain ⟨q1, q2⟩ := hn
    rw [e1] at q1
    rw [e2] at q2
    rw [IntKind.wrap_i64]
    omega
   have h2 := of_decide_eq_true h2
   have hc64 : c.toNat ≤ 140737488355328 := by
    have : c * 1 ≤ c * ((b + 1 : Nat) : Int) := Int.mul_le_mul_of_nonneg_left (by omega) (by omega)
    omega
   have hcond : (decide (c < 0) || decide ((inf.bytes : Int) * c > 2 ^ 48) || decide (l < 0) || decide (l > c)) = false := by
    rw [hbytes, Int.mul_comm]
    simp only [Bool.or_eq_false_iff, decide_eq_false_iff_not]
    refine ⟨⟨⟨by omega, by omega⟩, by omega⟩, by omega⟩
   have hzero : ∃ zc : Array Value, ((c.toNat * inf.size = 0 ∧ zc = #[]) ∨ (¬ c.toNat * inf.size = 0 ∧ zc = z.cells)) ∧ Zbp g.R i.kd (List.replicate l.toNat i.kd.zero) ((List.range (l.toNat * i.kd.size)).map (zc[· % zc.size]!)) := by
    by_cases h0 : c.toNat * inf.size = 0
    ·refine ⟨#[], .inl ⟨h0, rfl⟩, ZfD ht g.R l.toNat (.inl ?_)⟩
     have : l.toNat * inf.size ≤ c.toNat * inf.size := Nat.mul_le_mul_right _ (by omega)
     omega
    ·exact ⟨z.cells, .inr ⟨h0, rfl⟩, ZfD ht g.R l.toNat (.inr rfl)⟩
   obtain ⟨zc, hzr, hrow⟩ := hzero
   have hsub : ∀ (j : Nat) (v : Value), ((List.range (l.toNat * i.kd.size)).map (zc[· % zc.size]!))[j]? = some v → ((Array.range (c.toNat * inf.size)).map (zc[· % zc.size]!))[j]? = some v := by
    intro j v hv
    have hj := (List.getElem?_eq_some_iff.1 hv).1
    simp only [List.length_map, List.length_range] at hj
    have : l.toNat * i.kd.size ≤ c.toNat * inf.size := by rw [ht.size]; exact Nat.mul_le_mul_right _ (by omega)
    rw [List.getElem?_map, List.getElem?_range hj, Option.map_some] at hv
    rw [← Array.getElem?_toList, Array.toList_map, Array.toList_range, List.getElem?_map, List.getElem?_range (by omega), Option.map_some]; exact hv
   obtain ⟨m, hle⟩ := h.toMem.freshRow ((Array.range (c.toNat * inf.size)).map (zc[· % zc.size]!)) e _ hsub
   have hlen : ((List.range (l.toNat * i.kd.size)).map (zc[· % zc.size]!)).length = l.toNat * i.kd.size := by simp
   generalize hcs : ((List.range (l.toNat * i.kd.size)).map (zc[· % zc.size]!)) = cs at *
   have hnl : ∀ u b, live g u b → b ≠ w.heap.size := fun u b hl => by have := ZfV h.toMem hl; omega
   have hext : g.ext { g with R := RO.with g.R w.heap.size cs } := ⟨hle, fun _ _ => rfl, Nat.le_refl _, rfl, rfl, fun _ h => h, fun _ _ h => h, rfl⟩
   have i1 := h.ext m hext
   have m2 := i1.toMem.setTok d (.slice (some ⟨w.heap.size, 0, none⟩) l.toNat c.toNat) i.kd.size (by
    rcases Int.lt_or_le l c with hlt | hge
    ·refine .inr ⟨w.heap.size, l.toNat, c.toNat, _, e, 0, (Gh.setTok_same _ _ _ _).1, by omega, by simp only [maxLen]; omega, by show (w.heap.push _)[w.heap.size]? = _; simp; rfl, ?_, fun o ho => ?_, fun i' hi' => ?_, fun hp => ?_⟩
     ·rw [(Gh.setTok_same _ _ _ _).2]; simp [ht.size]
     ·rw [(Gh.setTok_same _ _ _ _).2, Nat.zero_add] at ho
      show RO.with g.R w.heap.size cs w.heap.size o = none
      rw [RO.with_same]
      exact List.getElem?_eq_none (by omega)
     ·have := h.toMem.blkLt i' hi'
      show g.β i' ≠ w.heap.size
      omega
     ·have := h.toMem.pLt hp; omega
    ·exact .inl ⟨some ⟨w.heap.size, 0, none⟩, l.toNat, by rw [(Gh.setTok_same _ _ _ _).1, show c = l by omega]⟩) (by
    rintro u b' hu hl' ⟨n', c', z', e', hc'⟩
    rw [(Gh.setTok_same _ _ _ _).1] at e'
    injection e' with e1 _ _
    injection e1 with e1
    injection e1 with e1
    exact hnl u b' hl' e1.symm) (by
    rintro b' hf ⟨n', c', z', e', hc'⟩
    rw [(Gh.setTok_same _ _ _ _).1] at e'
    injection e' with e1 _ _
    injection e1 with e1
    injection e1 with e1
    have := (h.fr b' hf).1
    omega) (by
    rintro q hq ⟨n', c', z', e', hc'⟩
    rw [(Gh.setTok_same _ _ _ _).1] at e'
    injection e' with e1 _ _
    injection e1 with e1
    injection e1 with e1
    have := h.toMem.moLt hq
    omega)
   refine ⟨.slice (some ⟨w.heap.size, 0, none⟩) l.toNat c.toNat, w.alloc (.cells ((Array.range (c.toNat * inf.size)).map (zc[· % zc.size]!)) e), ?_, _, (i1.turn m2 (Zcz _ d _ _)).put (sv := .own d i.kd (List.replicate l.toNat i.kd.zero)) ⟨?_, (Gh.setTok_same _ _ _ _).1.symm, (Gh.setTok_same _ _ _ _).2⟩ (some d)⟩
   ·rw [ev, ev']
    unfold Instr.makeSlice
    simp only [Sem.run_bind, run_underlying hu, Result.andThen_ok]
    simp only [Go.asInt, Sem.run_bind, Zcg, Result.andThen_ok, Sem.run_pure, Zeq ht.info]
    rw [hwrap l r1, hwrap c r2]
    rw [if_neg (by rw [hcond]; simp)]
    simp only [Sem.run_bind, run_askRoom, Result.andThen_ok, ZaY ht.info]
    rcases hzr with ⟨q, rfl⟩ | ⟨q, rfl⟩
    ·rw [if_pos q]
     simp only [Sem.run_bind, Sem.run_pure, Result.andThen_ok]
     rfl
    ·rw [if_neg q]
     simp only [Sem.run_bind, Zcj ht.info ht.zero, Sem.run_pure, Result.andThen_ok]
     rfl
   ·have key := ZcO (b := w.heap.size) (o := 0) (cap := c.toNat) (hrow.mono hle) (fun j u hu => by
     rw [Nat.zero_add]; exact (RO.with_same g.R w.heap.size cs j).trans hu) (by rw [List.length_replicate]; omega) (by simp only [maxLen]; omega)
    rw [List.length_replicate] at key
    exact key
  ·cases he
theorem Zkf (hE : EnvTy P E) (h : Inv w0 R0 p g s a w) {t e : Nat} {i : TyInfo} (hel : E.elem t = some (e, i)) {len : Nat} (hlen : Nat.ble (len * (i.kd.size + 1)) 16777216 = true) {parts : Array (Nat × Operand)} {xs : List i.kd.T}
  (he : Zdl i.kd (List.replicate len i.kd.zero) (parts.toList.map fun (j, x) => (j, s.eval x)) = some xs) (d : Option Nat) :
  ∃ v w', (Instr.buildSlice t len (parts.map fun (j, x) => (j, a.eval x))).run P w = .ok v w' ∧ Then w0 R0 p (s.put d (.fresh i.kd xs)) (a.put d v) w' := by
 obtain ⟨hu, inf, z, ht⟩ := Zbx hE hel
 have hlim : ¬ (len * inf.size > 2 ^ 24) := by rw [ht.size]; have := Nat.le_of_ble_eq_true hlen; rw [Nat.mul_add] at this; omega
 have hzero : ∃ zc : Array Value, ((len * inf.size = 0 ∧ zc = #[]) ∨ (¬ len * inf.size = 0 ∧ zc = z.cells)) ∧ Zbp g.R i.kd (List.replicate len i.kd.zero) ((Array.range (len * i.kd.size)).map (zc[· % zc.size]!)).toList := by
  by_cases h0 : len * inf.size = 0
  ·exact ⟨#[], .inl ⟨h0, rfl⟩, by rw [Array.toList_map, Array.toList_range]; exact ZfD ht g.R len (.inl h0)⟩
  ·exact ⟨z.cells, .inr ⟨h0, rfl⟩, by rw [Array.toList_map, Array.toList_range]; exact ZfD ht g.R len (.inr rfl)⟩
 obtain ⟨zc, hzr, hrow⟩ := hzero
 obtain ⟨cells', f1, f2, f3⟩ := Zen h parts.toList _ xs _ hrow he
 rw [List.length_replicate] at f3
 obtain ⟨m, hle⟩ := h.toMem.freshRow cells' e cells'.toList (fun j v hv => by simpa using hv)
 obtain ⟨m2, hx2⟩ := m.addFresh (b := w.heap.size) (by simp) (fun hp => by have := h.pLt hp; omega) (fun i hi => by have := h.toMem.blkLt i hi; show g.β i ≠ _; omega) (fun t hl => by have := ZfV h.toMem hl; omega) (fun n hn => by have := (h.toMem.fr _ (.inr ⟨n, hn⟩)).1; omega) (fun q hq => by have := h.toMem.moLt hq; omega)
 have hext : g.ext { g with R := RO.with g.R w.heap.size cells'.toList } := ⟨hle, fun _ _ => rfl, Nat.le_refl _, rfl, rfl, fun _ h => h, fun _ _ h => h, rfl⟩
 refine ⟨.slice (some ⟨w.heap.size, 0, none⟩) len len, w.alloc (.cells cells' e), ?_, _, ((h.ext m hext).ext m2 hx2).put (sv := .fresh i.kd xs) ⟨?_, w.heap.size, len, rfl, .inr rfl⟩ d⟩
 ·unfold Instr.buildSlice
  rw [Sem.run_bind, run_underlying hu, Result.andThen_ok]
  simp only []
  rw [Sem.run_bind, ZaY ht.info, Result.andThen_ok, if_neg hlim]
  have f1' : Instr.fill (fun i_1 => some (i_1 * inf.size, inf.size)) (Array.map (fun x => zc[x % zc.size]!) (Array.range (len * inf.size))) (parts.map fun (j, x) => (j, a.eval x)).toList = some cells' := by
   rw [ht.size, Array.toList_map]; exact f1
  rcases hzr with ⟨h0, rfl⟩ | ⟨h0, rfl⟩
  ·rw [if_pos h0]
   simp only [Sem.run_bind, Sem.run_pure, Result.andThen_ok]
   rw [f1']
   rfl
  ·rw [if_neg h0]
   simp only [Sem.run_bind, Zcj ht.info ht.zero, Sem.run_pure, Result.andThen_ok]
   rw [f1']
   rfl
 ·have hlen' : xs.length = len := f3
  have := ZcO (b := w.heap.size) (o := 0) (cap := len) (f2.mono hle) (fun j u hu => by
   rw [Nat.zero_add]; exact (RO.with_same g.R w.heap.size cells'.toList j).trans hu) (by omega) (by
    have := Nat.le_of_ble_eq_true hlen
    rw [Nat.mul_add] at this
    simp only [maxLen]
    omega)
  rw [hlen'] at this
  exact this
end
end Go.Shal
set_option linter.unusedVariables false
namespace Go.Shal
open Go.RowKit
section
variable {P : Program} {E : Env} {w0 : World} {R0 : RO} {p : Pr}
variable {g : Gh} {s : St} {a : Act} {w : World}
theorem ZgL {R : RO} : ∀ {k : Kd} {j o : Nat} {f : Kd} {x : k.T} {cs : List Value}, k.fieldAt j = some (o, f) → Rep R k x cs →
  ∃ y : f.T, k.field x j = some (.dat f y) ∧ (k.fieldPtr x j = match f.size with | 0 => none | _ + 1 => some (.rptr f y)) ∧ Rep R f y ((cs.drop o).take f.size)
 | .pair a b, 0, o, f, x, cs, h, hr => by
  cases h
  obtain ⟨c, d, rfl, h1, h2⟩ := hr
  refine ⟨x.1, rfl, rfl, ?_⟩
  rw [List.drop_zero, List.take_append_of_le_length (by rw [h1.length]; exact Nat.le_refl _), List.take_of_length_le (by rw [h1.length]; exact Nat.le_refl _)]; exact h1
 | .pair a b, j + 1, o, f, x, cs, h, hr => by
  obtain ⟨⟨o', f'⟩, h', e⟩ := Option.map_eq_some_iff.1 (show (b.fieldAt j).map (fun (x : Nat × Kd) => (a.size + x.1, x.2)) = some (o, f) from h)
  cases e
  obtain ⟨c, d, rfl, h1, h2⟩ := hr
  obtain ⟨y, e1, e2, e3⟩ := ZgL h' h2
  refine ⟨y, e1, e2, ?_⟩
  rw [← h1.length, List.drop_append, List.drop_eq_nil_of_le (by omega), List.nil_append, Nat.add_sub_cancel_left]; exact e3
 | .int _, 0, _, _, _, _, h, _ => by cases h
 | .int _, _ + 1, _, _, _, _, h, _ => by cases h
 | .bool, 0, _, _, _, _, h, _ => by cases h
 | .bool, _ + 1, _, _, _, _, h, _ => by cases h
 | .np, 0, _, _, _, _, h, _ => by cases h
 | .np, _ + 1, _, _, _, _, h, _ => by cases h
 | .rp _, 0, _, _, _, _, h, _ => by cases h
 | .rp _, _ + 1, _, _, _, _, h, _ => by cases h
 | .nsl, 0, _, _, _, _, h, _ => by cases h
 | .nsl, _ + 1, _, _, _, _, h, _ => by cases h
 | .tre k, 0, o, f, x, cs, h, hr => by
  cases h
  obtain ⟨c, d, rfl, h1, h2⟩ := ZfY.1 hr
  refine ⟨x.val, rfl, rfl, ?_⟩
  rw [List.drop_zero, List.take_append_of_le_length (by rw [h1.length]; exact Nat.le_refl _), List.take_of_length_le (by rw [h1.length]; exact Nat.le_refl _)]; exact h1
 | .tre k, 1, o, f, x, cs, h, hr => by
  cases h
  obtain ⟨c, d, rfl, h1, h2⟩ := ZfY.1 hr
  refine ⟨x.sub, rfl, rfl, ?_⟩
  have h3 := h2.length
  rw [Nat.add_zero, ← h1.length, List.drop_append, List.drop_eq_nil_of_le (by omega), List.nil_append, Nat.sub_self, List.drop_zero, List.take_of_length_le (by rw [h3]; exact Nat.le_refl _)]; exact h2
 | .tre _, _ + 2, _, _, _, _, h, _ => by cases h
 | .flt, 0, _, _, _, _, h, _ => by cases h
 | .flt, _ + 1, _, _, _, _, h, _ => by cases h
 | .str, 0, _, _, _, _, h, _ => by cases h
 | .str, _ + 1, _, _, _, _, h, _ => by cases h
 | .slice _, 0, _, _, _, _, h, _ => by cases h
 | .slice _, _ + 1, _, _, _, _, h, _ => by cases h
 | .unit, 0, _, _, _, _, h, _ => by cases h
 | .unit, _ + 1, _, _, _, _, h, _ => by cases h
 | .arr _ _, 0, _, _, _, _, h, _ => by cases h
 | .arr _ _, _ + 1, _, _, _, _, h, _ => by cases h
theorem Zil : ∀ {k : Kd} {j : Nat} {x : k.T} {sv : SV}, (k.field x j = some sv ∨ k.fieldPtr x j = some sv) → ∃ o f, k.fieldAt j = some (o, f)
 | .pair a b, 0, x, sv, h => ⟨0, a, rfl⟩
 | .pair a b, j + 1, x, sv, h => by
  obtain ⟨o, f, e⟩ := Zil (k := b) (j := j) (x := x.2) (sv := sv) h
  refine ⟨a.size + o, f, ?_⟩
  show (b.fieldAt j).map (fun (x : Nat × Kd) => (a.size + x.1, x.2)) = _
  rw [e]; rfl
 | .int _, 0, _, _, h => by rcases h with h | h <;> cases h
 | .int _, _ + 1, _, _, h => by rcases h with h | h <;> cases h
 | .bool, 0, _, _, h => by rcases h with h | h <;> cases h
 | .bool, _ + 1, _, _, h => by rcases h with h | h <;> cases h
 | .np, 0, _, _, h => by rcases h with h | h <;> cases h
 | .np, _ + 1, _, _, h => by rcases h with h | h <;> cases h
 | .rp _, 0, _, _, h => by rcases h with h | h <;> cases h
 | .rp _, _ + 1, _, _, h => by rcases h with h | h <;> cases h
 | .nsl, 0, _, _, h => by rcases h with h | h <;> cases h
 | .nsl, _ + 1, _, _, h => by rcases h with h | h <;> cases h
 | .tre k, 0, x, sv, h => ⟨0, k, rfl⟩
 | .tre k, 1, x, sv, h => ⟨k.size + 0, .slice (.tre k), rfl⟩
 | .tre _, _ + 2, _, _, h => by rcases h with h | h <;> cases h
 | .flt, 0, _, _, h => by rcases h with h | h <;> cases h
 | .flt, _ + 1, _, _, h => by rcases h with h | h <;> cases h
 | .str, 0, _, _, h => by rcases h with h | h <;> cases h
 | .str, _ + 1, _, _, h => by rcases h with h | h <;> cases h
 | .slice _, 0, _, _, h => by rcases h with h | h <;> cases h
 | .slice _, _ + 1, _, _, h => by rcases h with h | h <;> cases h
 | .unit, 0, _, _, h => by rcases h with h | h <;> cases h
 | .unit, _ + 1, _, _, h => by rcases h with h | h <;> cases h
 | .arr _ _, 0, _, _, h => by rcases h with h | h <;> cases h
 | .arr _ _, _ + 1, _, _, h => by rcases h with h | h <;> cases h
theorem ZiX {t : TypeId} {k : Kd} (hk : KOk P t k) {j o : Nat} {f : Kd} (h : k.fieldAt j = some (o, f)) : ∃ fs, P.underlying t = some (.struct fs) ∧ ZhV P fs j o f := by
 cases k <;> first
  | (cases j <;> cases h; done)
  | (obtain ⟨fs, h1, h2⟩ := hk; exact ⟨fs, h1, (h2 j).2 o f h⟩)
theorem ZfR {t : TypeId} {k : Kd} (hk : KOk P t k) {j o : Nat} {f : Kd} (h : k.fieldAt j = some (o, f)) (hf : f.size ≠ 0) (b q : Nat) (w : World) :
  (Instr.fieldAt t (.pointer (some ⟨b, q, none⟩)) j).run P w = .ok (.pointer (some ⟨b, q + o, none⟩)) w := by
 obtain ⟨fs, hu, fld, inf, h1, h2, h3, h4, h5, h6⟩ := ZiX hk h
 unfold Instr.fieldAt
 rw [Sem.run_bind, run_underlying hu, Result.andThen_ok]
 simp only [h1]
 rw [Sem.run_bind]
 show ((fieldPlace ⟨b, q, none⟩ fld) >>= fun x => pure (Value.pointer (some x))).run P w = _
 rw [Sem.run_bind]
 unfold fieldPlace
 rw [Sem.run_bind, ZaY h3, Result.andThen_ok, if_neg (by rw [h4]; exact hf), h2]
 show Result.ok (Value.pointer (some (Addr.add ⟨b, q, none⟩ o))) w = _
 rw [Addr.add_lit]
theorem Zjj (hE : EnvTy P E) {t : TypeId} {x : SV} {v : Value} {j : Nat} {sv : SV} (hx : SRep g x v) (he : ZeH E t x j = some sv) (w : World) :
  ∃ u, (Instr.fieldAt t v j).run P w = .ok u w ∧ SRep g sv u := by
 unfold ZeH at he
 split at he
 ·rename_i k i pa
  obtain ⟨q, l, hκ, hl, rfl, hsz, h0, hi⟩ := hx
  split at he
  ·rename_i it l1 l2 hty hl1 hl2
   rw [hl] at hl1
   obtain rfl := Option.some.inj hl1
   obtain ⟨inf, z, ht⟩ := hE.ty t it hty
   split at he
   ·rename_i hk n _ hn
    cases he
    obtain ⟨o, e1, e2⟩ := ZqF k pa j hl hl2
    have hkd := ht.kd
    rw [hk] at hkd
    exact ⟨_, ZfR hkd e1 (by omega) _ _ w, q, l2, hκ, hl2, by rw [e2, Nat.add_assoc], hsz, h0, hi⟩
   ·cases he
  ·cases he
 ·rename_i b o
  obtain ⟨rfl, hb⟩ : CRep g (.ptr b o) v := hx
  split at he
  ·rename_i i hty
   obtain ⟨inf, z, ht⟩ := hE.ty t i hty
   split at he
   ·rename_i q f hf
    split at he
    ·cases he
    ·rename_i n hn
     cases he
     exact ⟨_, ZfR ht.kd hf (by omega) _ _ w, rfl, hb⟩
   ·cases he
  ·cases he
 ·rename_i k x
  obtain ⟨b, q, cs, rfl, h1, h2⟩ := hx
  have key : ∀ {k : Kd} {x : k.T} {cs : List Value}, KOk P t k → Rep g.R k x cs → (∀ j c, cs[j]? = some c → g.R b (q + j) = some c) → k.fieldPtr x j = some sv → ∃ u, (Instr.fieldAt t (.pointer (some ⟨b, q, none⟩)) j).run P w = .ok u w ∧ SRep g sv u := by
   intro k x cs hkd h1 h2 he
   obtain ⟨o, f, hf⟩ := Zil (.inr he)
   obtain ⟨y, e1, e2, e3⟩ := ZgL hf h1
   rw [he] at e2
   split at e2
   ·cases e2
   ·rename_i n hn
    cases e2
    refine ⟨_, ZfR hkd hf (by omega) b q w, b, q + o, _, rfl, e3, fun i' c hc => ?_⟩
    have hlt := (List.getElem?_eq_some_iff.1 hc).1
    rw [List.length_take] at hlt
    rw [List.getElem?_take_of_lt (by omega), List.getElem?_drop] at hc
    rw [Nat.add_assoc]; exact h2 _ c hc
  split at he
  ·rename_i k' hlay
   split at he
   ·rename_i hk _
    subst hk
    exact key (hE.lay t k' hlay) h1 h2 he
   ·cases he
  ·split at he
   ·rename_i i hty
    obtain ⟨inf, z, ht⟩ := hE.ty t i hty
    split at he
    ·rename_i hk _
     subst hk
     exact key ht.kd h1 h2 he
    ·cases he
   ·cases he
 ·cases he
theorem ZoC {t : TypeId} {k : Kd} {inf : TypeInfo} (h1 : (P.underlying t).isSome = true) (h2 : Zev P t = k.agg) (hi : P.info? t = some inf) (hs : inf.size = k.size) {vs : List Value} {o : Nat} (hl : o + k.size ≤ vs.length) (w : World) :
  (part t vs.toArray o).run P w = .ok (k.val ((vs.drop o).take k.size)) w := by
 unfold part
 rw [Sem.run_bind, ZeB h1, Result.andThen_ok, h2]
 cases hk : k.agg with
 | true =>
  simp only [if_true]
  rw [Sem.run_bind, ZaY hi, Result.andThen_ok, hs, ZbN hk]
  simp only [Sem.run_pure]
  congr 2
  apply Array.ext'
  simp [List.extract_eq_take_drop]
 | false =>
  rw [ZeT hk] at hl ⊢
  have hlt : o < vs.length := by omega
  have e : (vs.drop o).take 1 = [vs[o]] := by rw [List.drop_eq_getElem_cons hlt]; rfl
  rw [e, ZgZ hk]
  simp [hlt]
theorem Zqp (hE : EnvTy P E) {t : TypeId} {i : TyInfo} (hty : E.ty t = some i) {x : i.kd.T} {v : Value} {j : Nat} {sv : SV} (hx : DRep g.R i.kd x v) (he : i.kd.field x j = some sv) (w : World) :
  ∃ u, (Instr.field t v j).run P w = .ok u w ∧ SRep g sv u := by
 obtain ⟨inf, z, ht⟩ := hE.ty t i hty
 obtain ⟨o, f, hf⟩ := Zil (.inl he)
 obtain ⟨cs, h1, rfl⟩ := hx
 obtain ⟨y, e1, e2, e3⟩ := ZgL hf h1
 rw [he] at e1
 cases e1
 obtain ⟨fs, hu, fld, inf', q1, q2, q3, q4, q5, q6⟩ := ZiX ht.kd hf
 have hka : i.kd.agg = true := by rw [← ht.kd.some.2]; unfold Zev; rw [hu]
 have hfit := Zfd hf
 refine ⟨f.val ((cs.drop o).take f.size), ?_, _, e3, rfl⟩
 unfold Instr.field
 rw [Sem.run_bind, run_underlying hu, Result.andThen_ok, ZbN hka]
 simp only [q1]
 rw [Sem.run_bind]
 show (part fld.type cs.toArray fld.offset).run P w = _
 rw [q2]
 exact ZoC q5 q6 q3 q4 (by rw [h1.length]; exact hfit) w
theorem ZoW (hE : EnvTy P E) {t : TypeId} {x : SV} {v : Value} {j : Nat} {sv : SV} (hx : SRep g x v) (he : Zkn E t x j = some sv) (w : World) : ∃ u, (Instr.field t v j).run P w = .ok u w ∧ SRep g sv u := by
 unfold Zkn at he
 split at he
 ·rename_i k y i hty
  split at he
  ·rename_i hk _
   subst hk
   exact Zqp (P := P) hE hty hx he w
  ·cases he
 ·rename_i cs i hty
  obtain ⟨vs, rfl, hall⟩ := hx
  obtain ⟨inf, z, ht⟩ := hE.ty t i hty
  split at he
  ·rename_i o f hf
   split at he
   ·rename_i hle
    have hle := Nat.le_of_ble_eq_true hle
    obtain ⟨m, he1, rfl⟩ := Option.map_eq_some_iff.1 he
    obtain ⟨rfl, hlen⟩ := ZoE he1
    rw [ZnZ] at *
    obtain ⟨fs, hu, fld, inf', q1, q2, q3, q4, q5, q6⟩ := ZiX ht.kd hf
    have hvl := hall.length
    have hpart : All2 (fun s v => s = SV.undef ∨ CRep g s v) ((cs.drop o).take f.size) ((vs.drop o).take f.size) := ((hall.imp fun _ _ q => .inr q.2).drop o).take f.size
    refine ⟨f.val ((vs.drop o).take f.size), ?_, SRep.pack hpart (by rw [List.length_take, List.length_drop]; omega)⟩
    unfold Instr.field
    rw [Sem.run_bind, run_underlying hu, Result.andThen_ok]
    simp only [q1]
    rw [Sem.run_bind]
    show (part fld.type vs.toArray fld.offset).run P w = _
    rw [q2]
    exact ZoC q5 q6 q3 q4 (by omega) w
   ·cases he
  ·cases he
 ·cases he
theorem Zsv {R : RO} {k : Kd} {xs : List k.T} {b o : Nat} {cells : List Value} (h : Zbp R k xs cells) (hR : ∀ (j : Nat) u, cells[j]? = some u → R b (o + j) = some u) {i : Nat} (hi : i < xs.length) :
  ∃ cs, Rep R k (xs.getD i k.zero) cs ∧ ∀ (j : Nat) c, cs[j]? = some c → R b (o + i * k.size + j) = some c := by
 obtain ⟨c, h1, h2⟩ := h.2 i xs[i] (by simp [hi])
 refine ⟨c, by simpa [List.getD, hi] using h1, fun j u hu => ?_⟩
 have := hR _ u (h2 j u hu)
 rwa [Nat.add_assoc]
theorem Zke {R : RO} {n : Nat} {k : Kd} {xs : List k.T} {cs : List Value} (h : Rep R (.arr n k) xs cs) {i : Nat} (hi : i < n) :
  ∃ c, Rep R k (xs.getD i k.zero) c ∧ ∀ (j : Nat) u, c[j]? = some u → cs[i * k.size + j]? = some u := by
 obtain ⟨hn, f, h1, h2⟩ := h
 have hx : xs[i]? = some (xs[i]'(by omega)) := by simp [hn ▸ hi]
 refine ⟨f i, by have := h1 i _ hx; simpa [List.getD, hx] using this, fun j u hu => ?_⟩
 have hlen : ∀ q, q < n → (f q).length = k.size := fun q hq => (h1 q (xs[q]'(by omega)) (by simp [hn ▸ hq])).length
 have key : ∀ m, m ≤ n → i < m → ((List.range m).flatMap f)[i * k.size + j]? = some u := by
  intro m
  induction m with
  | zero => intro _ h; omega
  | succ m ih =>
   intro hm him
   rw [List.range_succ, List.flatMap_append]
   have hl := ZcV f k.size m (fun q hq => hlen q (by omega))
   have hj := (List.getElem?_eq_some_iff.1 hu).1
   rw [hlen i hi] at hj
   rcases Nat.lt_or_ge i m with h' | h'
   ·have hge : i * k.size + k.size ≤ m * k.size := by rw [← Nat.succ_mul]; exact Nat.mul_le_mul_right _ h'
    rw [List.getElem?_append_left (by omega)]
    exact ih (by omega) h'
   ·obtain rfl : i = m := by omega
    rw [List.getElem?_append_right (by omega), hl, Nat.add_sub_cancel_left]
    simpa using hu
 rw [h2]
 exact key n (Nat.le_refl n) hi
theorem Zdb {k : Kd} {n : Nat} {b : Option Blk} {ok : Bool} {xs : List k.T} (h : Zgt k n b = some (ok, xs)) (hok : ok = true) : b = some (.arr k xs) ∧ xs.length = n := by
 unfold Zgt at h
 split at h
 ·obtain ⟨ys, e, h⟩ := Option.map_eq_some_iff.1 h
  obtain ⟨e1, rfl⟩ := Zbr e
  injection e1 with e1
  subst e1
  simp only [Prod.mk.injEq] at h
  obtain ⟨h1, rfl⟩ := h
  exact ⟨rfl, Nat.eq_of_beq_eq_true (h1.trans hok)⟩
 ·cases h
theorem ZjX {R : RO} {n : Nat} {k : Kd} {xs : List k.T} {cs : List Value} (h : Rep R (.arr n k) xs cs) : Zbp R k xs cs := by
 have hl := Rep.length (k := .arr n k) h
 have hn := h.1
 refine ⟨by rw [hl, hn]; rfl, fun i x hx => ?_⟩
 have hi := (List.getElem?_eq_some_iff.1 hx).1
 obtain ⟨c, h1, h2⟩ := Zke h (i := i) (by omega)
 have : xs.getD i k.zero = x := by simp [List.getD, hx]
 rw [this] at h1
 exact ⟨c, h1, h2⟩
theorem ZiZ {α : Type} (m : Nat) (cs : List α) : ∀ n, cs.take (n * m) = (List.range n).flatMap fun i => (cs.drop (i * m)).take m
 | 0 => by simp
 | n + 1 => by
  rw [List.range_succ, List.flatMap_append, ← ZiZ m cs n, Nat.succ_mul, List.take_add]
  simp
theorem ZjW {R : RO} {k : Kd} {xs : List k.T} {cs : List Value} (h : Zbp R k xs cs) : Rep R (.arr xs.length k) xs cs := by
 obtain ⟨hl, he⟩ := h
 refine ⟨rfl, fun i => (cs.drop (i * k.size)).take k.size, fun i x hx => ?_, ?_⟩
 ·obtain ⟨c, h1, h2⟩ := he i x hx
  have hi := (List.getElem?_eq_some_iff.1 hx).1
  have hle : (i + 1) * k.size ≤ xs.length * k.size := Nat.mul_le_mul_right _ hi
  rw [Nat.succ_mul] at hle
  have : c = (cs.drop (i * k.size)).take k.size := by
   refine List.ext_getElem? fun j => ?_
   by_cases hj : j < c.length
   ·have h3 := h2 j c[j] (by simp [hj])
    rw [h1.length] at hj
    rw [List.getElem?_take_of_lt hj, List.getElem?_drop, h3]
    simp
   ·rw [List.getElem?_eq_none (by omega), List.getElem?_eq_none (by rw [List.length_take, ← h1.length]; omega)]
  show Rep R k x ((cs.drop (i * k.size)).take k.size)
  rw [← this]; exact h1
 ·rw [← ZiZ, ← hl, List.take_length]
theorem Zek {g : Gh} {k : Kd} {xs : List k.T} {vs : List Value} (h : BRep g (.arr k xs) vs) : Zbp g.R k xs (vs.take (xs.length * k.size)) := by
 obtain ⟨hl, he⟩ := h
 refine ⟨by rw [List.length_take]; omega, fun i x hx => ?_⟩
 obtain ⟨c, h1, h2⟩ := he i x hx
 refine ⟨c, h1, fun j u hu => ?_⟩
 have hi := (List.getElem?_eq_some_iff.1 hx).1
 have hj := (List.getElem?_eq_some_iff.1 hu).1
 rw [h1.length] at hj
 have hle : (i + 1) * k.size ≤ xs.length * k.size := Nat.mul_le_mul_right _ hi
 rw [Nat.succ_mul] at hle
 rw [List.getElem?_take_of_lt (by omega)]
 exact h2 j u hu
theorem ZfN {g : Gh} {k : Kd} {xs : List k.T} {vs : List Value} (h : Zbp g.R k xs vs) : BRep g (.arr k xs) vs := ⟨Nat.le_of_eq h.1.symm, h.2⟩
theorem Zfs {α : Type} {l : List α} {n j : Nat} {u : α} (h : (l.take n)[j]? = some u) : l[j]? = some u := by
 have hj := (List.getElem?_eq_some_iff.1 h).1
 rw [List.length_take] at hj
 rwa [List.getElem?_take_of_lt (by omega)] at h
theorem ZoZ (hE : EnvTy P E) (h : Mem w0 R0 p g s.heap w) {t : TypeId} {x : SV} {v : Value} {sv : SV} (hx : SRep g x v) (he : ZgK E s t x = some (true, sv)) :
  ∃ u, (Instr.loadAt t v).run P w = .ok u w ∧ SRep g sv u := by
 unfold ZgK at he
 split at he
 ·cases he
 ·rename_i it hty
  obtain ⟨inf, z, ht⟩ := hE.ty t it hty
  split at he
  ·rename_i b k n i
   split at he
   ·rename_i ok xs hrow
    split at he
    ·rename_i hk _
     subst hk
     simp only [Option.some.injEq, Prod.mk.injEq] at he
     obtain ⟨hok, rfl⟩ := he
     obtain ⟨hb, hn⟩ := Zdb hrow hok
     obtain ⟨rfl, hb', h0, h1⟩ := hx
     obtain ⟨cur, ty, hh, hl, hrep⟩ := h.blk b _ hb
     have hi : i.toNat < xs.length := by omega
     obtain ⟨c, e1, e2⟩ := hrep i.toNat xs[i.toNat] (by simp [hi])
     refine ⟨it.kd.val c, ?_, c, by simpa [List.getD, hi] using e1, rfl⟩
     show (do loadVar t (← Instr.sureAddr (.pointer (some ⟨g.β b, i.toNat * it.kd.size, none⟩)))).run P w = _
     rw [Sem.run_bind]
     show (loadVar t ⟨g.β b, i.toNat * it.kd.size, none⟩).run P w = _
     refine Zef ht.info ht.size ht.kd e1.length w fun j u hu => ?_
     have := e2 j u hu
     rw [Array.getElem?_toList] at this
     simp [World.cell?, hh, this]
    ·cases he
   ·cases he
  ·rename_i b
   split at he
   ·rename_i n k hkd
    split at he
    ·rename_i ok xs hrow
     simp only [Option.some.injEq, Prod.mk.injEq] at he
     obtain ⟨hok, rfl⟩ := he
     obtain ⟨hb, hn⟩ := Zdb hrow hok
     have hp : CRep g (.ptr b 0) v := hx
     obtain ⟨rfl, hb'⟩ := hp
     obtain ⟨cur, ty, hh, hrow2⟩ := h.blk b _ hb
     have hr := ZjW (Zek hrow2)
     rw [hn] at hr
     have hlen := hr.length
     refine ⟨(Kd.arr n k).val _, ?_, _, hr, rfl⟩
     show (do loadVar t (← Instr.sureAddr (.pointer (some ⟨g.β b, 0, none⟩)))).run P w = _
     rw [Sem.run_bind]
     show (loadVar t ⟨g.β b, 0, none⟩).run P w = _
     have hs := ht.size
     have hk := ht.kd
     rw [hkd] at hs hk
     refine Zef ht.info hs hk hlen w fun j u hu => ?_
     have hu := Zfs hu
     rw [Array.getElem?_toList] at hu
     simp [World.cell?, hh, hu]
    ·cases he
   ·cases he
  ·cases he
theorem ZoY (hE : EnvTy P E) (h : Mem w0 R0 p g s.heap w) {t : TypeId} {x : SV} {v : Value} {sv : SV} (hx : SRep g x v) (he : Zdk E s t x = some (true, sv)) :
  ∃ u, (Instr.loadAt t v).run P w = .ok u w ∧ SRep g sv u := by
 unfold Zdk at he
 split at he
 ·rename_i q hq
  simp only [Option.some.injEq, Prod.mk.injEq, true_and] at he
  subst he
  exact Zii hE h hx hq
 ·exact ZoZ hE h hx he
theorem Zjk (hE : EnvTy P E) {t : TypeId} {x ix : SV} {v iv : Value} {sv : SV} (hx : SRep g x v) (hi : SRep g ix iv) (he : ZeI E t x ix = some (true, sv)) (w : World) :
  ∃ u, (Instr.indexAt t v iv).run P w = .ok u w ∧ SRep g sv u := by
 unfold ZeI at he
 split at he
 ·cases he
 ·rename_i ik i hint
  obtain ⟨rfl, _⟩ := hi.asInt hint
  split at he
  ·rename_i k xs hsl
   split at he
   ·rename_i e ie hel
    obtain ⟨hu, inf, z, ht⟩ := Zbx hE hel
    split at he
    ·rename_i hk _
     subst hk
     simp only [Option.some.injEq, Prod.mk.injEq, Bool.and_eq_true, decide_eq_true_eq] at he
     obtain ⟨⟨h0, h1⟩, rfl⟩ := he
     obtain ⟨ad, cap, cells, rfl, h2, h3, h4, h5⟩ := (hx.asSlice hsl).row
     have hlt : i.toNat < xs.length := by omega
     rcases h5 with ⟨_, rfl⟩ | ⟨b, o, rfl, h5⟩
     ·simp at hlt
     ·obtain ⟨cs, e1, e2⟩ := Zsv h4 h5 hlt
      refine ⟨.pointer (some ⟨b, o + i.toNat * ie.kd.size, none⟩), ?_, b, _, cs, rfl, e1, e2⟩
      unfold Instr.indexAt
      simp only [Sem.run_bind, Zcg, Result.andThen_ok, run_underlying hu, Sem.run_pure]
      rw [if_pos ⟨h0, h1⟩, Sem.run_bind, ZaY ht.info, Result.andThen_ok, ht.size]
      simp only [Sem.run_pure]
      rw [Addr.add_lit]
    ·cases he
   ·cases he
  ·split at he
   ·rename_i n k xs _
    split at he
    ·rename_i it hty
     obtain ⟨inf, z, ht⟩ := hE.ty t it hty
     split at he
     ·rename_i hk _
      have hkd := ht.kd
      rw [hk] at hkd
      obtain ⟨e, inf', hu, hi', hs', _⟩ := hkd
      simp only [Option.some.injEq, Prod.mk.injEq, Bool.and_eq_true, decide_eq_true_eq] at he
      obtain ⟨⟨h0, h1⟩, rfl⟩ := he
      obtain ⟨b, o, cs, rfl, h2, h3⟩ := hx
      have hlt : i.toNat < n := by omega
      obtain ⟨c, e1, e2⟩ := Zke h2 hlt
      refine ⟨.pointer (some ⟨b, o + i.toNat * k.size, none⟩), ?_, b, _, c, rfl, e1, fun j u hu => ?_⟩
      ·unfold Instr.indexAt
       simp only [Sem.run_bind, Zcg, Result.andThen_ok, run_underlying hu, Sem.run_pure, Instr.sureAddr]
       rw [if_pos ⟨h0, h1⟩, Sem.run_bind, ZaY hi', Result.andThen_ok, hs']
       simp only [Sem.run_pure]
       rw [Addr.add_lit]
      ·have := h3 _ u (e2 j u hu)
       rwa [Nat.add_assoc]
     ·cases he
    ·cases he
   ·rename_i k xs _
    split at he
    ·rename_i e ie hel
     obtain ⟨hu, inf, z, ht⟩ := Zbx hE hel
     split at he
     ·rename_i hk _
      subst hk
      simp only [Option.some.injEq, Prod.mk.injEq, Bool.and_eq_true, decide_eq_true_eq] at he
      obtain ⟨⟨h0, h1⟩, rfl⟩ := he
      rcases hx with ⟨rfl, _⟩ | ⟨q, hκ, rfl, hsz, hn, _⟩
      ·simp only [List.length_nil] at h1; omega
      ·have h1' : i < (q.n : Int) := by rw [hn]; exact h1
       refine ⟨.pointer (some ⟨q.b, i.toNat * ie.kd.size, none⟩), ?_, q, ⟨0, ie.kd, fun y _ => y⟩, hκ, by cases ie.kd <;> rfl, rfl, hsz, h0, by omega⟩
       unfold Instr.indexAt
       simp only [Sem.run_bind, Zcg, Result.andThen_ok, run_underlying hu, Sem.run_pure]
       rw [if_pos ⟨h0, h1'⟩, Sem.run_bind, ZaY ht.info, Result.andThen_ok, ht.size]
       simp only [Sem.run_pure]
       rw [Addr.add_lit, Nat.zero_add]
     ·cases he
    ·cases he
   ·rename_i b k n _
    split at he
    ·rename_i e ie hel
     obtain ⟨hu, inf, z, ht⟩ := Zbx hE hel
     split at he
     ·rename_i hk _
      subst hk
      simp only [Option.some.injEq, Prod.mk.injEq, Bool.and_eq_true, decide_eq_true_eq] at he
      obtain ⟨⟨h0, h1⟩, rfl⟩ := he
      obtain ⟨cp, rfl, hb, _⟩ := hx
      refine ⟨.pointer (some ⟨g.β b, i.toNat * ie.kd.size, none⟩), ?_, rfl, hb, h0, h1⟩
      unfold Instr.indexAt
      simp only [Sem.run_bind, Zcg, Result.andThen_ok, run_underlying hu, Sem.run_pure]
      rw [if_pos ⟨h0, h1⟩, Sem.run_bind, ZaY ht.info, Result.andThen_ok, ht.size]
      simp only [Sem.run_pure]
      rw [Addr.add_lit, Nat.zero_add]
     ·cases he
    ·cases he
   ·rename_i b _
    split at he
    ·rename_i it hty
     obtain ⟨inf, z, ht⟩ := hE.ty t it hty
     split at he
     ·rename_i n k hk
      have hkd := ht.kd
      rw [hk] at hkd
      obtain ⟨e, inf', hu, hi', hs', _⟩ := hkd
      simp only [Option.some.injEq, Prod.mk.injEq, Bool.and_eq_true, decide_eq_true_eq] at he
      obtain ⟨⟨h0, h1⟩, rfl⟩ := he
      have hp : CRep g (.ptr b 0) v := hx
      obtain ⟨rfl, hb⟩ := hp
      refine ⟨.pointer (some ⟨g.β b, i.toNat * k.size, none⟩), ?_, rfl, hb, h0, h1⟩
      unfold Instr.indexAt
      simp only [Sem.run_bind, Zcg, Result.andThen_ok, run_underlying hu, Sem.run_pure, Instr.sureAddr]
      rw [if_pos ⟨h0, h1⟩, Sem.run_bind, ZaY hi', Result.andThen_ok, hs']
      simp only [Sem.run_pure]
      rw [Addr.add_lit, Nat.zero_add]
     ·cases he
    ·cases he
   ·cases he
end
end Go.Shal
set_option linter.unusedVariables false
namespace Go.Shal
open Go.RowKit
section
variable {P : Program} {E : Env} {w0 : World} {R0 : RO} {p : Pr}
variable {g : Gh} {s : St} {a : Act} {w : World}
theorem ZhH (hE : EnvTy P E) {t : Nat} (h : E.isStr t = true) : P.underlying t = some .string := by
 unfold Env.isStr at h
 split at h
 ·rename_i i hi
  obtain ⟨inf, z, ht⟩ := hE.ty t i hi
  have := ht.kd
  split at h
  ·rename_i hk; rw [hk] at this; exact this
  ·cases h
 ·cases h
theorem Zhc (s : ByteArray) {i : Nat} (h : i < s.size) : (bytesOf s).getD i 0 = (s[i].toNat : Int) := by
 have : i < s.data.size := h
 unfold bytesOf
 rw [List.getD_eq_getElem?_getD, List.getElem?_map, Array.getElem?_toList, Array.getElem?_eq_getElem this]
 rfl
theorem Zqz {t : TypeId} (ht : P.underlying t = some .string) {s : ByteArray} {k : IntKind} {i : Int} (h0 : 0 ≤ i) (h1 : i < (s.size : Int)) (w : World) :
  (Instr.index t (.string s) (.int k i)).run P w = .ok (.int .u8 ((bytesOf s).getD i.toNat 0)) w := by
 have hlt : i.toNat < s.size := by omega
 unfold Instr.index
 simp only [Sem.run_bind, Zcg, Result.andThen_ok, run_underlying ht, if_pos h0]
 have e : s[i.toNat]? = some s[i.toNat] := by simp [hlt]
 rw [e, Zhc s hlt]
 rfl
theorem ZpY (s : ByteArray) (i : Nat) : inR .u8 ((bytesOf s).getD i 0) := by
 rcases Nat.lt_or_ge i s.size with h | h
 ·rw [Zhc s h]
  have := s[i].toNat_lt
  exact ⟨by simp [IntKind.min, IntKind.signed], by simp [IntKind.max, IntKind.signed, IntKind.bits]; omega⟩
 ·rw [List.getD_eq_getElem?_getD, List.getElem?_eq_none (by rw [ZbI]; exact h)]
  exact ⟨by decide, by decide⟩
theorem ZcC {v : Value} {k : IntKind} {i : Int} (hv : v = .int k i) {y : Nat} {c : BoundsCode} (h0 : 0 ≤ i) (h1 : i ≤ (y : Int)) (w : World) : (Instr.sliceBound v y c).run P w = .ok i.toNat w := by
 subst hv
 unfold Instr.sliceBound
 simp only [Sem.run_bind, Zcg, Result.andThen_ok]
 rw [if_pos ⟨h0, h1⟩]; rfl
theorem Zeg {sl : Bool} {len cap : Nat} {lo hi : Option Operand} {s : St} {a : Act} (hs : ∀ x, SRep g (s.eval x) (a.eval x)) {l h : Int} (hl : Zfb (lo.map s.eval) 0 = some l) (hh : Zfb (hi.map s.eval) (len : Int) = some h) (h0 : 0 ≤ l) (h1 : l ≤ h) (h2 : h ≤ (len : Int)) (h3 : len ≤ cap) (w : World) :
  (Instr.sliceBounds sl len cap (lo.map a.eval) (hi.map a.eval) none).run P w = .ok (l.toNat, h.toNat, cap) w := by
 have hb : ∀ (x : Operand) (q : Int) (y : Nat) (c : BoundsCode), (asInt (s.eval x)).map (·.2) = some q → 0 ≤ q → q ≤ (y : Int) → (Instr.sliceBound (a.eval x) y c).run P w = .ok q.toNat w := fun x q y c e0 hq0 hq1 => by
  obtain ⟨⟨k, n⟩, e, he⟩ := Option.map_eq_some_iff.1 e0
  obtain rfl : n = q := he
  exact ZcC ((hs x).asInt e).1 hq0 hq1 w
 cases hi with
 | none =>
  obtain rfl : (len : Int) = h := Option.some.inj hh
  cases lo with
  | none =>
   obtain rfl : (0 : Int) = l := Option.some.inj hl
   rfl
  | some x =>
   unfold Instr.sliceBounds
   simp only [Option.map_none, Option.map_some, Sem.run_bind, Sem.run_pure, Result.andThen_ok, Option.isSome_none, Bool.false_eq_true, if_false]
   rw [hb x l len .sliceB hl h0 h1]
   rfl
 | some y =>
  have hh' : (asInt (s.eval y)).map (·.2) = some h := hh
  cases lo with
  | none =>
   obtain rfl : (0 : Int) = l := Option.some.inj hl
   unfold Instr.sliceBounds
   simp only [Option.map_none, Option.map_some, Sem.run_bind, Sem.run_pure, Result.andThen_ok]
   rw [hb y h cap _ hh' (by omega) (by omega)]
   rfl
  | some x =>
   unfold Instr.sliceBounds
   simp only [Option.map_some, Sem.run_bind, Sem.run_pure, Result.andThen_ok, Option.isSome_none, Bool.false_eq_true, if_false]
   rw [hb y h cap _ hh' (by omega) (by omega)]
   simp only [Result.andThen_ok]
   rw [hb x l h.toNat .sliceB hl h0 (by omega)]
   rfl
theorem Zia (s : ByteArray) (l h : Nat) (hh : h ≤ s.size) : bytesOf (s.extract l h) = ((bytesOf s).drop l).take (h - l) := by
 unfold bytesOf
 rw [← List.map_drop, ← List.map_take]
 congr 1
 rw [ByteArray.data_extract, Array.toList_extract, List.extract_eq_take_drop]
theorem Zpc (hE : EnvTy P E) (h : Inv w0 R0 p g s a w) {t : TypeId} {x : Operand} {lo hi : Option Operand} {sv : SV} (he : Zks E t (s.eval x) (lo.map s.eval) (hi.map s.eval) = some (true, sv)) :
  ∃ u, (Instr.sliceAt t (a.eval x) (lo.map a.eval) (hi.map a.eval) none).run P w = .ok u w ∧ SRep g sv u := by
 unfold Zks at he
 split at he
 ·rename_i k xs hsl
  split at he
  ·rename_i l q hl hq
   split at he
   ·rename_i e ie hel
    obtain ⟨hu, inf, z, ht⟩ := Zbx hE hel
    split at he
    ·rename_i hk _
     subst hk
     simp only [Option.some.injEq, Prod.mk.injEq, Bool.and_eq_true, decide_eq_true_eq] at he
     obtain ⟨⟨h0, h1, h2⟩, rfl⟩ := he
     obtain ⟨ad, cap, cells, e1, e2, e3, e4, e5⟩ := ((h.eval x).asSlice hsl).row
     have hb := Zeg (P := P) (g := g) (sl := true) (len := xs.length) (cap := cap) (fun x => h.eval x) hl hq h0 h1 h2 e2 w
     refine ⟨.slice (if cap = l.toNat then ad else ad.map (·.add (l.toNat * ie.kd.size))) (q.toNat - l.toNat) (cap - l.toNat), ?_, ?_⟩
     ·unfold Instr.sliceAt
      rw [Sem.run_bind, run_underlying hu, Result.andThen_ok]
      simp only []
      unfold Instr.slice
      rw [Sem.run_bind, run_underlying hu, Result.andThen_ok, e1]
      simp only []
      rw [Sem.run_bind, hb, Result.andThen_ok]
      simp only []
      rw [Sem.run_bind, ZaY ht.info, Result.andThen_ok, ht.size]
      rfl
     ·refine DRep.of_one (k := .slice ie.kd) rfl ?_
      have hlen : ((xs.drop l.toNat).take (q - l).toNat).length = q.toNat - l.toNat := by rw [List.length_take, List.length_drop]; omega
      rcases e5 with ⟨rfl, rfl⟩ | ⟨b, o, rfl, e5⟩
      ·have hz : ((([] : List ie.kd.T).drop l.toNat).take (q - l).toNat) = [] := by simp
       refine ⟨_, cap - l.toNat, by rw [hlen], by simp, by omega, .inl hz⟩
      ·by_cases hc : cap = l.toNat
       ·have hz : ((xs.drop l.toNat).take (q - l).toNat) = [] := List.eq_nil_of_length_eq_zero (by rw [hlen]; omega)
        exact ⟨_, cap - l.toNat, by rw [hlen], by rw [hlen]; omega, by omega, .inl hz⟩
       ·rw [if_neg hc]
        refine ⟨_, cap - l.toNat, by rw [hlen], by rw [hlen]; omega, by omega, .inr ⟨b, o + l.toNat * ie.kd.size, by simp [Addr.add_lit], fun i y hy => ?_⟩⟩
        have hi' := (List.getElem?_eq_some_iff.1 hy).1
        rw [hlen] at hi'
        rw [List.getElem?_take_of_lt (by omega), List.getElem?_drop] at hy
        obtain ⟨c, f1, f2⟩ := e4.2 _ y hy
        refine ⟨c, f1, fun j u hu => ?_⟩
        have := e5 _ u (f2 j u hu)
        rw [show o + l.toNat * ie.kd.size + (i * ie.kd.size + j) = o + ((l.toNat + i) * ie.kd.size + j) by rw [Nat.add_mul]; omega]; exact this
    ·cases he
   ·cases he
  ·cases he
 ·split at he
  ·rename_i xs hst
   obtain ⟨t', e1, rfl, hm⟩ := (h.eval x).asStr hst
   split at he
   ·rename_i l q hl hq
    split at he
    ·rename_i htt
     have hu := ZhH hE htt
     simp only [Option.some.injEq, Prod.mk.injEq, Bool.and_eq_true, decide_eq_true_eq] at he
     obtain ⟨⟨h0, h1, h2⟩, rfl⟩ := he
     rw [ZbI] at hq h2
     have hb := Zeg (P := P) (g := g) (sl := false) (len := t'.size) (cap := t'.size) (fun x => h.eval x) hl hq h0 h1 h2 (Nat.le_refl _) w
     refine ⟨.string (t'.extract l.toNat q.toNat), ?_, ?_⟩
     ·unfold Instr.sliceAt
      rw [Sem.run_bind, run_underlying hu, Result.andThen_ok]
      simp only []
      unfold Instr.slice
      rw [Sem.run_bind, run_underlying hu, Result.andThen_ok, e1]
      simp only [Option.isSome_none, Bool.false_eq_true, if_false]
      rw [Sem.run_bind, hb, Result.andThen_ok]
      rfl
     ·have := Zia t' l.toNat q.toNat (by omega)
      rw [show (q - l).toNat = q.toNat - l.toNat by omega, ← this]
      exact SRep.str (by rw [ByteArray.size_extract]; omega)
    ·cases he
   ·cases he
  ·cases he
theorem ZmR (hE : EnvTy P E) (h : Inv w0 R0 p g s a w) {t : TypeId} {x hi mx : Operand} {lo : Option Operand} {sv : SV} (he : ZhG E t (s.eval x) (lo.map s.eval) (s.eval hi) (s.eval mx) = some (true, sv)) :
  ∃ u, (Instr.sliceAt t (a.eval x) (lo.map a.eval) (some (a.eval hi)) (some (a.eval mx))).run P w = .ok u w ∧ SRep g sv u := by
 unfold ZhG at he
 split at he
 ·rename_i k xs hsl
  split at he
  ·rename_i l kq q km m hl hq hmx
   split at he
   ·rename_i e ie hel
    obtain ⟨hu, inf, z, ht⟩ := Zbx hE hel
    split at he
    ·rename_i hk _
     subst hk
     simp only [Option.some.injEq, Prod.mk.injEq, Bool.and_eq_true, decide_eq_true_eq] at he
     obtain ⟨⟨h0, h1, h2, h3⟩, rfl⟩ := he
     obtain ⟨ad, cap, cells, e1, e2, e3, e4, e5⟩ := ((h.eval x).asSlice hsl).row
     obtain ⟨evm, _⟩ := (h.eval mx).asInt hmx
     obtain ⟨evh, _⟩ := (h.eval hi).asInt hq
     have hb : (Instr.sliceBounds true xs.length cap (lo.map a.eval) (some (a.eval hi)) (some (a.eval mx))).run P w = .ok (l.toNat, q.toNat, m.toNat) w := by
      have hm : ∀ c, (Instr.sliceBound (a.eval mx) cap c).run P w = .ok m.toNat w := fun c => ZcC evm (by omega) (by omega) w
      have hh : ∀ c, (Instr.sliceBound (a.eval hi) m.toNat c).run P w = .ok q.toNat w := fun c => ZcC evh (by omega) (by omega) w
      unfold Instr.sliceBounds
      simp only [Sem.run_bind, hm, hh, Result.andThen_ok]
      cases lo with
      | none =>
       obtain rfl : (0 : Int) = l := Option.some.inj hl
       rfl
      | some y =>
       obtain ⟨⟨ky, ny⟩, ey, ey'⟩ := Option.map_eq_some_iff.1 (show (asInt (s.eval y)).map (·.2) = some l from hl)
       obtain rfl : ny = l := ey'
       simp only [Option.map_some]
       rw [Sem.run_bind, ZcC ((h.eval y).asInt ey).1 h0 (by omega : ny ≤ (q.toNat : Int)) w]
       rfl
     refine ⟨.slice (if m.toNat = l.toNat then ad else ad.map (·.add (l.toNat * ie.kd.size))) (q.toNat - l.toNat) (m.toNat - l.toNat), ?_, ?_⟩
     ·unfold Instr.sliceAt
      rw [Sem.run_bind, run_underlying hu, Result.andThen_ok]
      simp only []
      unfold Instr.slice
      rw [Sem.run_bind, run_underlying hu, Result.andThen_ok, e1]
      simp only []
      rw [Sem.run_bind, hb, Result.andThen_ok]
      simp only []
      rw [Sem.run_bind, ZaY ht.info, Result.andThen_ok, ht.size]
      rfl
     ·refine DRep.of_one (k := .slice ie.kd) rfl ?_
      have hlen : ((xs.drop l.toNat).take (q - l).toNat).length = q.toNat - l.toNat := by rw [List.length_take, List.length_drop]; omega
      rcases e5 with ⟨rfl, rfl⟩ | ⟨b, o, rfl, e5⟩
      ·have hz : ((([] : List ie.kd.T).drop l.toNat).take (q - l).toNat) = [] := by simp
       refine ⟨_, m.toNat - l.toNat, by rw [hlen], by rw [hlen]; omega, by omega, .inl hz⟩
      ·by_cases hc : m.toNat = l.toNat
       ·have hz : ((xs.drop l.toNat).take (q - l).toNat) = [] := List.eq_nil_of_length_eq_zero (by rw [hlen]; omega)
        exact ⟨_, m.toNat - l.toNat, by rw [hlen], by rw [hlen]; omega, by omega, .inl hz⟩
       ·rw [if_neg hc]
        refine ⟨_, m.toNat - l.toNat, by rw [hlen], by rw [hlen]; omega, by omega, .inr ⟨b, o + l.toNat * ie.kd.size, by simp [Addr.add_lit], fun i y hy => ?_⟩⟩
        have hi' := (List.getElem?_eq_some_iff.1 hy).1
        rw [hlen] at hi'
        rw [List.getElem?_take_of_lt (by omega), List.getElem?_drop] at hy
        obtain ⟨c, f1, f2⟩ := e4.2 _ y hy
        refine ⟨c, f1, fun j u hu => ?_⟩
        have := e5 _ u (f2 j u hu)
        rw [show o + l.toNat * ie.kd.size + (i * ie.kd.size + j) = o + ((l.toNat + i) * ie.kd.size + j) by rw [Nat.add_mul]; omega]; exact this
    ·cases he
   ·cases he
  ·cases he
 ·cases he
theorem ZsL {l : List SV} {vs : List Value} (h : All2 (QRep g) l vs) : ∀ {j : Nat} {sv : SV}, ZsK l j = some sv → ∃ v, vs[j]? = some v ∧ SRep g sv v := by
 induction h with
 | nil => intro j sv he; cases j <;> cases he
 | cons q _ ih =>
  intro j sv he
  cases j with
  | zero => cases he; exact ⟨_, rfl, q.srep⟩
  | succ j => obtain ⟨u, h3, h4⟩ := ih he; exact ⟨u, by simpa using h3, h4⟩
theorem TRep.parts : ∀ {ks : List Kd} {x : (Kd.struct ks).T} {vs : List Value}, TRep g.R ks x vs → All2 (QRep g) (ZeW ks x) vs
 | [], _, _, h => by obtain rfl : _ = [] := h; exact .nil
 | _ :: _, _, _, ⟨v, r, e, h1, h2⟩ => by subst e; exact .cons h1 (TRep.parts h2)
theorem ZkB {t e : TypeId} (ht : P.underlying t = some (.slice e)) {a : Option Addr} {n c : Nat} (ty : TypeId) (w : World) : (Builtin.len_ #[t] ty #[.slice a n c]).run P w = .ok (.int .i64 (n : Int)) w := by
 unfold Builtin.len_
 simp only [List.getElem?_toArray, List.getElem?_cons_zero, Sem.run_bind, run_underlying ht, Result.andThen_ok]
 rfl
theorem Zfh {n : Nat} (h : n ≤ maxLen) : inR .i64 (n : Int) := by
 simp only [maxLen] at h
 exact ⟨by rw [show IntKind.i64.min = -9223372036854775808 by decide]; omega, by rw [show IntKind.i64.max = 9223372036854775807 by decide]; omega⟩
theorem Zew {xs : List Int} {v : Value} (h : Mem w0 R0 p g s.heap w) (hx : Rep g.R (.slice (.int .u8)) xs [v]) : ∃ t : ByteArray, (Conv.bytesToString v).run P w = .ok (.string t) w ∧ bytesOf t = xs ∧ t.size ≤ maxLen := by
 obtain ⟨a, cap, cells, rfl, h2, h3, h4, h5⟩ := hx.row
 have hcells : cells = xs.map (Value.int .u8) ∧ ∀ x ∈ xs, inR .u8 x := by
  have hl : cells.length = xs.length := by rw [h4.1]; simp [Kd.size]
  have hat : ∀ (i : Nat) x, xs[i]? = some x → cells[i]? = some (.int .u8 x) ∧ inR .u8 x := fun i x hx => by
   obtain ⟨c, ⟨rfl, hr⟩, hc⟩ := h4.2 i x hx
   have := hc 0 _ rfl
   simp only [Kd.size, Nat.mul_one, Nat.add_zero] at this
   exact ⟨this, hr⟩
  refine ⟨List.ext_getElem? fun i => ?_, fun x hx => ?_⟩
  ·rw [List.getElem?_map]
   cases e : xs[i]? with
   | none => rw [List.getElem?_eq_none_iff] at e; rw [List.getElem?_eq_none (by omega)]; rfl
   | some x => rw [(hat i x e).1]; rfl
  ·obtain ⟨i, hi, rfl⟩ := List.mem_iff_getElem.1 hx
   exact (hat i _ (by simp [hi])).2
 obtain ⟨rfl, hr⟩ := hcells
 have hbytes : ∀ l : List Int, (∀ x ∈ l, inR .u8 x) → l.map (fun x => ((UInt8.ofNat x.toNat).toNat : Int)) = l := by
  intro l hl
  induction l with
  | nil => rfl
  | cons x l ih =>
   have h1 := hl x (by simp)
   rw [List.map_cons, ih fun y hy => hl y (by simp [hy])]
   congr 1
   obtain ⟨h2, h3⟩ := h1
   have e1 : IntKind.u8.min = 0 := by decide
   have e2 : IntKind.u8.max = 255 := by decide
   rw [e1] at h2
   rw [e2] at h3
   rw [UInt8.toNat_ofNat_of_lt' (by simp [UInt8.size]; omega)]
   omega
 let t : ByteArray := ⟨(xs.map fun x => UInt8.ofNat x.toNat).toArray⟩
 have ht : bytesOf t = xs := by
  show ((xs.map fun x => UInt8.ofNat x.toNat).toArray.toList.map fun b => (b.toNat : Int)) = xs
  rw [List.toList_toArray, List.map_map]
  exact hbytes xs hr
 refine ⟨t, ?_, ht, by rw [← ZbI, ht]; omega⟩
 have hloop : ∀ (f : Value → ByteArray → Sem (ForInStep ByteArray)), (∀ n r, f (.int .u8 n) r = pure (.yield (r.push (UInt8.ofNat n.toNat)))) → ∀ (l : List Int) (acc : ByteArray),
   (forIn (m := Sem) ((l.map (Value.int .u8)).toArray) acc f).run P w = .ok ⟨acc.data ++ (l.map fun x => UInt8.ofNat x.toNat).toArray⟩ w := by
  intro f hf l
  induction l with
  | nil => intro acc; simp
  | cons x l ih =>
   intro acc
   have ih' := ih (acc.push (UInt8.ofNat x.toNat))
   simp only [List.forIn_toArray] at ih' ⊢
   rw [List.map_cons, List.forIn_cons, Sem.run_bind, hf]
   simp only [Sem.run_pure, Result.andThen_ok]
   rw [ih']
   congr 2
   apply Array.ext'
   simp
 have hmem : ∀ (j : Nat) u, (xs.map (Value.int .u8))[j]? = some u → ∃ b o, a = some ⟨b, o, none⟩ ∧ w.cell? ⟨b, o + j, none⟩ = some u := fun j u hu => by
  rcases h5 with ⟨e, rfl⟩ | ⟨b, o, e, h5⟩
  ·simp at hu
  ·exact ⟨b, o, e, h.ro _ _ _ (h5 j u hu)⟩
 unfold Conv.bytesToString
 cases a with
 | none =>
  have hx0 : xs = [] := by
   cases xs with
   | nil => rfl
   | cons x l => obtain ⟨b, o, e, _⟩ := hmem 0 (.int .u8 x) rfl; cases e
  subst hx0
  rfl
 | some ad =>
  have hload : (loadCells ad xs.length).run P w = .ok (xs.map (Value.int .u8)).toArray w := by
   have hl : (xs.map (Value.int .u8)).length = xs.length := List.length_map _
   rw [← hl]
   refine run_loadCells_list w ad _ fun j u hu => ?_
   obtain ⟨b, o, e, hc⟩ := hmem j u hu
   injection e with e
   subst e
   rw [Addr.add_lit]; exact hc
  simp only [Sem.run_bind, hload, Result.andThen_ok]
  rw [hloop _ (fun _ _ => rfl) xs ByteArray.empty]
  have e : (⟨ByteArray.empty.data ++ (xs.map fun x => UInt8.ofNat x.toNat).toArray⟩ : ByteArray) = t := by
   show (⟨_⟩ : ByteArray) = ⟨_⟩
   congr 1
   simp
  rw [e]
  rfl
end
end Go.Shal
set_option linter.unusedVariables false
namespace Go.Shal
def Gh.pick (g : Gh) (ms : List Nat) (tk : Nat → Option Nat) : Gh :=
 {R := g.R, β := fun i => g.β (ms.getD i 0), ν := fun t => match tk t with
   | some u => g.ν u
   | none => .slice none 0 0, σ := fun t => match tk t with
   | some u => g.σ u
   | none => 0, N := ms.length, φ := fun _ => False, ψ := fun _ _ => False, κ := match tk 1100000000000 with
   | some _ => g.κ
   | none => none }
theorem ZqW {g : Gh} {ms : List Nat} {tk : Nat → Option Nat} {q : MB} (h : (g.pick ms tk).κ = some q) : (tk 1100000000000).isSome = true ∧ g.κ = some q := by
 have h : (match tk 1100000000000 with | some _ => g.κ | none => none) = some q := h
 cases ht : tk 1100000000000 with
 | none => rw [ht] at h; cases h
 | some u => rw [ht] at h; exact ⟨rfl, h⟩
theorem Zgq {g : Gh} {ms : List Nat} {tk : Nat → Option Nat} {t b : Nat} (h : live (g.pick ms tk) t b) : ∃ u, tk t = some u ∧ live g u b := by
 obtain ⟨n, c, z, e, hlt⟩ := h
 have e : (match tk t with | some u => g.ν u | none => .slice none 0 0) = .slice (some ⟨b, z, none⟩) n c := e
 cases ht : tk t with
 | none => rw [ht] at e; cases e
 | some u => rw [ht] at e; exact ⟨u, rfl, n, c, z, e, hlt⟩
theorem Zcw {ms : List Nat} {i : Nat} (h : i < ms.length) : ms.getD i 0 ∈ ms := by
 rw [List.getD_eq_getElem?_getD, List.getElem?_eq_getElem h]
 exact List.getElem_mem h
theorem Zkv {ms : List Nat} (hn : ms.Nodup) {i j : Nat} (hi : i < ms.length) (hj : j < ms.length) (e : ms.getD i 0 = ms.getD j 0) : i = j := by
 rw [List.getD_eq_getElem?_getD, List.getD_eq_getElem?_getD, List.getElem?_eq_getElem hi, List.getElem?_eq_getElem hj] at e
 have e : ms[i] = ms[j] := by simpa using e
 have pw := List.pairwise_iff_getElem.1 hn
 rcases Nat.lt_trichotomy i j with h | h | h
 ·exact absurd e (pw i j hi hj h)
 ·exact h
 ·exact absurd e.symm (pw j i hj hi h)
theorem Mem.sub {w0 : World} {R0 : RO} {p : Pr} {g : Gh} {h : List Blk} {w : World} (m : Mem w0 R0 p g h w) {w1 : World} {R1 : RO} {p2 : Pr} {ms : List Nat} {tk : Nat → Option Nat} {h2 : List Blk}
  (hms : ∀ i ∈ ms, i < g.N) (hnd : ms.Nodup) (htk : ∀ t u v, tk t = some v → tk u = some v → t = u) (hlen : h2.length = ms.length)
  (hblk : ∀ i b, getB h2 i = some b → ARep (g.pick ms tk) b w.heap[g.β (ms.getD i 0)]?)
  (hp : ∀ b, p2 b → b < w1.heap.size ∧ w.heap[b]? = w1.heap[b]?) (hpβ : ∀ i ∈ ms, ¬ p2 (g.β i)) (hpt : ∀ t u b, tk t = some u → live g u b → ¬ p2 b)
  (hoR : ∀ b o, p2 b → g.R b o = R1 b o) (hle : R1.le g.R) (hsz : w1.heap.size ≤ w.heap.size) (hos : w.os = w1.os) (htp : w.tape = w1.tape) (hout : w.output = w1.output) (hkeep : ∀ i, i < p2.M → i < ms.length ∧ g.β (ms.getD i 0) = p2.b0 i)
  (hpm : (tk 1100000000000).isSome = true → ∀ q, g.κ = some q → ¬ p2 q.b) : Mem w1 R1 p2 (g.pick ms tk) h2 w := by
 constructor
 ·exact hlen.symm
 ·exact m.ro
 ·exact hblk
 ·intro i hi o; exact m.sepB _ (hms _ (Zcw hi)) o
 ·intro i j hi hj e; exact Zkv hnd hi hj (m.inj _ _ (hms _ (Zcw hi)) (hms _ (Zcw hj)) e)
 ·intro t
  cases ht : tk t with
  | none => exact .inl ⟨none, 0, by show (match tk t with | some u => g.ν u | none => .slice none 0 0) = _; rw [ht]⟩
  | some u =>
   have hν : (g.pick ms tk).ν t = g.ν u := by show (match tk t with | some u => g.ν u | none => .slice none 0 0) = _; rw [ht]
   have hσ : (g.pick ms tk).σ t = g.σ u := by show (match tk t with | some u => g.σ u | none => 0) = _; rw [ht]
   rcases m.tok u with ⟨a, n, e⟩ | ⟨b, n, c, cur, ty, z, e, h1, h2, h3, h4, h5, h6, h7⟩
   ·exact .inl ⟨a, n, by rw [hν, e]⟩
   ·exact .inr ⟨b, n, c, cur, ty, z, by rw [hν, e], h1, h2, h3, by rw [hσ]; exact h4, fun o ho => h5 o (by rwa [hσ] at ho), fun i hi => h6 _ (hms _ (Zcw hi)), hpt t u b ht ⟨n, c, z, e, h1⟩⟩
 ·intro t u b h1 h2
  obtain ⟨t', ht, l1⟩ := Zgq h1
  obtain ⟨u', hu, l2⟩ := Zgq h2
  have := m.tokInj t' u' b l1 l2
  subst this
  exact htk t u t' ht hu
 ·intro i hi; exact hpβ _ (Zcw hi)
 ·rintro b (h | ⟨_, h⟩) <;> exact h.elim
 ·exact hp
 ·exact hoR
 ·exact hle
 ·exact hsz
 ·exact hos
 ·exact htp
 ·exact hout
 ·exact hkeep
 ·intro b m h; exact h.elim
 ·intro q hq
  obtain ⟨h1, h2⟩ := ZqW hq
  have k := m.mo q h2
  exact k.mono rfl k.R (fun i hi => k.β _ (hms _ (Zcw hi))) (hpm h1 q h2) (fun t hl => let ⟨u, _, l⟩ := Zgq hl; k.nl u l) (fun h => h) (fun _ h => h)
theorem Mem.withJ {w0 : World} {R0 : RO} {p : Pr} {g : Gh} {h : List Blk} {w : World} (m : Mem w0 R0 p g h w) {ψ' : Nat → Nat → Prop} (hmono : ∀ b n, g.ψ b n → ψ' b n)
  (hψ : ∀ b n, ψ' b n → (b < w.heap.size ∧ ¬ p b ∧ (∀ i, i < g.N → g.β i ≠ b) ∧ ∀ t, ¬ live g t b) ∧ (∃ cur ty, w.heap[b]? = some (.cells cur ty (0, 0)) ∧ n ≤ cur.size) ∧ (∀ o, g.R b o = none) ∧ ¬ g.φ b) (hκ : ∀ q, g.κ = some q → ∀ n, ¬ ψ' q.b n) :
  Mem w0 R0 p { g with ψ := ψ' } h w ∧ g.ext { g with ψ := ψ' } := by
 have hext : g.ext { g with ψ := ψ' } := ⟨RO.le_refl _, fun _ _ => rfl, Nat.le_refl _, rfl, rfl, fun _ h => h, hmono, rfl⟩
 refine ⟨⟨m.n, m.ro, fun i b hb => (m.blk i b hb).ext hext, m.sepB, m.inj, m.tok, m.tokInj, m.np, fun b hf => ?_, m.old, m.oldR, m.leR, m.size, m.os, m.tape, m.output, m.keep, fun b n hf => (hψ b n hf).2, fun q hq => (m.mo q hq).mono rfl (m.mo q hq).R (m.mo q hq).β (m.mo q hq).np (m.mo q hq).nl (m.mo q hq).nφ (hκ q hq)⟩, hext⟩
 rcases hf with hf | ⟨n, hf⟩
 ·exact m.fr b (.inl hf)
 ·exact (hψ b n hf).1
def kept (g : Gh) (w : World) (ms : List Nat) (tk : Nat → Option Nat) : Pr := ⟨fun b => b < w.heap.size ∧ (∀ i ∈ ms, g.β i ≠ b) ∧ (∀ t u, tk t = some u → ¬ live g u b) ∧ ((tk 1100000000000).isSome = true → ∀ q, g.κ = some q → q.b ≠ b), ms.length, fun i => g.β (ms.getD i 0)⟩
def Gh.join (g g' : Gh) (ms : List Nat) (tb : Nat → Option Nat) (e : Nat) : Gh :=
 {R := g'.R, β := fun i => if i < g.N then g.β i else g'.β (ms.length + (i - g.N)), ν := fun t => match tb t with
   | some u => g'.ν u
   | none => g.ν t, σ := fun t => match tb t with
   | some u => g'.σ u
   | none => g.σ t, N := g.N + e, φ := g.φ, ψ := fun b m => g.ψ b m ∨ g'.ψ b m, κ := match tb 1100000000000 with
   | some _ => g'.κ
   | none => g.κ }
theorem Mem.back {w0 : World} {R0 : RO} {p : Pr} {g : Gh} {h : List Blk} {w : World} (m : Mem w0 R0 p g h w) {ms : List Nat} {tk : Nat → Option Nat} (hms : ∀ i ∈ ms, i < g.N)
  {g' : Gh} {h' : List Blk} {w' : World} (m' : Mem w g.R (kept g w ms tk) g' h' w') {e : Nat} (hN : g'.N = ms.length + e)
  {tb : Nat → Option Nat} (htb : ∀ t u v, tb t = some v → tb u = some v → t = u) (hdom : ∀ t u, tk t = some u → (tb u).isSome = true) (hmo : (tk 1100000000000).isSome = (tb 1100000000000).isSome)
  {h2 : List Blk} (hlen : h2.length = g.N + e) (hblk : ∀ i b, getB h2 i = some b → ARep (g.join g' ms tb e) b w'.heap[(g.join g' ms tb e).β i]?) :
  Mem w0 R0 p (g.join g' ms tb e) h2 w' := by
 have hβ : ∀ i, i < ms.length → g'.β i = g.β (ms.getD i 0) := fun i hi => (m'.keep i hi).2
 have hpk : ∀ b, p b → kept g w ms tk b := fun b hb => ⟨m.pLt hb, fun i hi e => m.np i (hms i hi) (e ▸ hb), fun t u ht ⟨n, c, z, e, hlt⟩ => by
  rcases m.tok u with ⟨a, k, e'⟩ | ⟨b', n', c', cur, ty, z, e', q1, q2, q3, q4, q5, q6, q7⟩
  ·rw [e] at e'; injection e' with _ x y; omega
  ·rw [e] at e'; injection e' with x _ _; injection x with x; injection x with x; subst x; exact q7 hb, fun _ q hq e => (m.mo q hq).np (e ▸ hb)⟩
 have old : ∀ i, i < g.N → i ∉ ms → kept g w ms tk (g.β i) := fun i hi hni => ⟨m.blkLt i hi, fun j hj e => hni (by rw [← m.inj j i (hms j hj) hi e]; exact hj), fun t u ht ⟨n, c, z, e, hlt⟩ => by
  rcases m.tok u with ⟨a, k, e'⟩ | ⟨b', n', c', cur, ty, z, e', q1, q2, q3, q4, q5, q6, q7⟩
  ·rw [e] at e'; injection e' with _ x y; omega
  ·rw [e] at e'; injection e' with x _ _; injection x with x; injection x with x; subst x; exact q6 i hi rfl, fun _ q hq e => (m.mo q hq).β i hi e.symm⟩
 have mem_ix : ∀ i ∈ ms, ∃ k, k < ms.length ∧ ms.getD k 0 = i := fun i hi => by
  obtain ⟨k, hk, e⟩ := List.mem_iff_getElem.1 hi
  exact ⟨k, hk, by rw [List.getD_eq_getElem?_getD, List.getElem?_eq_getElem hk]; exact e⟩
 have tokKept : ∀ t b, tb t = none → live g t b → kept g w ms tk b := fun t b ht hl => ⟨ZfV m hl, fun i hi e => by
  obtain ⟨n, c, z, e1, hlt⟩ := hl
  rcases m.tok t with ⟨a, k, e'⟩ | ⟨b', n', c', cur, ty, z, e', q1, q2, q3, q4, q5, q6, q7⟩
  ·rw [e1] at e'; injection e' with _ x y; omega
  ·rw [e1] at e'; injection e' with x _ _; injection x with x; injection x with x; subst x; exact q6 i (hms i hi) e, fun t' u hu hl' => by
  have := m.tokInj t u b hl hl'
  subst this
  have := hdom t' t hu
  rw [ht] at this
  exact (Bool.noConfusion this : False), fun _ q hq e => (m.mo q hq).nl t (e ▸ hl)⟩
 have newNot : ∀ u b, live g' u b → ¬ kept g w ms tk b := fun u b ⟨n, c, z, e1, hlt⟩ => by
  rcases m'.tok u with ⟨a, k, e'⟩ | ⟨b', n', c', cur, ty, z, e', q1, q2, q3, q4, q5, q6, q7⟩
  ·rw [e1] at e'; injection e' with _ x y; omega
  ·rw [e1] at e'; injection e' with x _ _; injection x with x; injection x with x; subst x; exact q7
 have jβ1 : ∀ i, i < g.N → (g.join g' ms tb e).β i = g.β i := fun i hi => by show (if i < g.N then g.β i else _) = _; rw [if_pos hi]
 have jβ2 : ∀ i, ¬ i < g.N → (g.join g' ms tb e).β i = g'.β (ms.length + (i - g.N)) := fun i hi => by show (if i < g.N then g.β i else _) = _; rw [if_neg hi]
 have jν1 : ∀ t u, tb t = some u → (g.join g' ms tb e).ν t = g'.ν u ∧ (g.join g' ms tb e).σ t = g'.σ u := fun t u ht => by
  constructor
  ·show (match tb t with | some u => g'.ν u | none => g.ν t) = _; rw [ht]
  ·show (match tb t with | some u => g'.σ u | none => g.σ t) = _; rw [ht]
 have jν2 : ∀ t, tb t = none → (g.join g' ms tb e).ν t = g.ν t ∧ (g.join g' ms tb e).σ t = g.σ t := fun t ht => by
  constructor
  ·show (match tb t with | some u => g'.ν u | none => g.ν t) = _; rw [ht]
  ·show (match tb t with | some u => g'.σ u | none => g.σ t) = _; rw [ht]
 have jlive : ∀ t b, live (g.join g' ms tb e) t b → (∃ u, tb t = some u ∧ live g' u b) ∨ (tb t = none ∧ live g t b) := fun t b ⟨n, c, z, e1, hlt⟩ => by
  cases ht : tb t with
  | some u => rw [(jν1 t u ht).1] at e1; exact .inl ⟨u, rfl, n, c, z, e1, hlt⟩
  | none => rw [(jν2 t ht).1] at e1; exact .inr ⟨rfl, n, c, z, e1, hlt⟩
 have keptNe : ∀ b, kept g w ms tk b → ∀ k, k < g'.N → g'.β k ≠ b := fun b hb k hk e1 => m'.np k hk (e1 ▸ hb)
 constructor
 ·show g.N + e = _; exact hlen.symm
 ·exact m'.ro
 ·exact hblk
 ·intro i hi o
  have hi : i < g.N + e := hi
  show g'.R _ o = none
  by_cases hlt : i < g.N
  ·rw [jβ1 i hlt]
   by_cases hin : i ∈ ms
   ·obtain ⟨k, hk, rfl⟩ := mem_ix i hin
    rw [← hβ k hk]
    exact m'.sepB k (by omega) o
   ·rw [m'.oldR _ o (old i hlt hin)]
    exact m.sepB i hlt o
  ·rw [jβ2 i hlt]
   exact m'.sepB _ (by omega) o
 ·intro i j hi hj he
  have hi : i < g.N + e := hi
  have hj : j < g.N + e := hj
  have cross : ∀ i j, i < g.N → ¬ j < g.N → j < g.N + e → g.β i ≠ g'.β (ms.length + (j - g.N)) := fun i j hi hj hj' he => by
   by_cases hin : i ∈ ms
   ·obtain ⟨k, hk, rfl⟩ := mem_ix i hin
    rw [← hβ k hk] at he
    have := m'.inj _ _ (by omega) (by omega) he
    omega
   ·exact keptNe _ (old i hi hin) _ (by omega) he.symm
  by_cases hi' : i < g.N
  ·by_cases hj' : j < g.N
   ·rw [jβ1 i hi', jβ1 j hj'] at he
    exact m.inj i j hi' hj' he
   ·rw [jβ1 i hi', jβ2 j hj'] at he
    exact (cross i j hi' hj' hj he).elim
  ·by_cases hj' : j < g.N
   ·rw [jβ2 i hi', jβ1 j hj'] at he
    exact (cross j i hj' hi' hi he.symm).elim
   ·rw [jβ2 i hi', jβ2 j hj'] at he
    have := m'.inj _ _ (by omega) (by omega) he
    omega
 ·intro t
  have ne : ∀ b, kept g w ms tk b → (∀ i, i < g.N → g.β i ≠ b) → ∀ i, i < (g.join g' ms tb e).N → (g.join g' ms tb e).β i ≠ b := fun b hb ho i hi => by
   have hi : i < g.N + e := hi
   by_cases hi' : i < g.N
   ·rw [jβ1 i hi']; exact ho i hi'
   ·rw [jβ2 i hi']; exact keptNe b hb _ (by omega)
  cases ht : tb t with
  | some u =>
   rcases m'.tok u with ⟨a, n, e1⟩ | ⟨b, n, c, cur, ty, z, e1, q1, q2, q3, q4, q5, q6, q7⟩
   ·exact .inl ⟨a, n, by rw [(jν1 t u ht).1, e1]⟩
   ·refine .inr ⟨b, n, c, cur, ty, z, by rw [(jν1 t u ht).1, e1], q1, q2, q3, by rw [(jν1 t u ht).2]; exact q4, fun o ho => q5 o (by rwa [(jν1 t u ht).2] at ho), fun i hi => ?_, fun hpb => q7 (hpk b hpb)⟩
    have hi : i < g.N + e := hi
    by_cases hi' : i < g.N
    ·rw [jβ1 i hi']
     by_cases hin : i ∈ ms
     ·obtain ⟨k, hk, rfl⟩ := mem_ix i hin
      rw [← hβ k hk]
      exact q6 k (by omega)
     ·intro e2; exact q7 (e2 ▸ old i hi' hin)
    ·rw [jβ2 i hi']; exact q6 _ (by omega)
  | none =>
   rcases m.tok t with ⟨a, n, e1⟩ | ⟨b, n, c, cur, ty, z, e1, q1, q2, q3, q4, q5, q6, q7⟩
   ·exact .inl ⟨a, n, by rw [(jν2 t ht).1, e1]⟩
   ·have hk := tokKept t b ht ⟨n, c, z, e1, q1⟩
    refine .inr ⟨b, n, c, cur, ty, z, by rw [(jν2 t ht).1, e1], q1, q2, by rw [(m'.old b hk).2]; exact q3, by rw [(jν2 t ht).2]; exact q4, fun o ho => ?_, ne b hk q6, q7⟩
    show g'.R b o = none
    rw [m'.oldR b o hk]
    exact q5 o (by rwa [(jν2 t ht).2] at ho)
 ·intro t u b h1 h2
  rcases jlive t b h1 with ⟨t', ht, l1⟩ | ⟨ht, l1⟩ <;> rcases jlive u b h2 with ⟨u', hu, l2⟩ | ⟨hu, l2⟩
  ·have := m'.tokInj t' u' b l1 l2
   subst this
   exact htb t u t' ht hu
  ·exact (newNot t' b l1 (tokKept u b hu l2)).elim
  ·exact (newNot u' b l2 (tokKept t b ht l1)).elim
  ·exact m.tokInj t u b l1 l2
 ·intro i hi
  have hi : i < g.N + e := hi
  by_cases hi' : i < g.N
  ·rw [jβ1 i hi']; exact m.np i hi'
  ·rw [jβ2 i hi']; exact fun hpb => m'.np _ (by omega) (hpk _ hpb)
 ·intro b hf
  have hf : (g.φ b ∨ ∃ m, g.ψ b m) ∨ ∃ m, g'.ψ b m := by
   rcases hf with hf | ⟨n, hf | hf⟩
   ·exact .inl (.inl hf)
   ·exact .inl (.inr ⟨n, hf⟩)
   ·exact .inr ⟨n, hf⟩
  rcases hf with hf | hf
  case inr =>
   obtain ⟨k1, k2, k3, k4⟩ := m'.fr b (.inr hf)
   refine ⟨k1, fun hpb => k2 (hpk b hpb), fun i hi => ?_, fun t hl => ?_⟩
   ·have hi : i < g.N + e := hi
    by_cases hi' : i < g.N
    ·rw [jβ1 i hi']
     by_cases hin : i ∈ ms
     ·obtain ⟨k, hk, rfl⟩ := mem_ix i hin
      rw [← hβ k hk]
      exact k3 k (by omega)
     ·intro e2; exact k2 (e2 ▸ old i hi' hin)
    ·rw [jβ2 i hi']; exact k3 _ (by omega)
   ·rcases jlive t b hl with ⟨u, _, l⟩ | ⟨ht, l⟩
    ·exact k4 u l
    ·exact k2 (tokKept t b ht l)
  obtain ⟨k1, k2, k3, k4⟩ := m.fr b hf
  have hk : kept g w ms tk b := ⟨k1, fun i hi => k3 i (hms i hi), fun t u _ => k4 u, fun _ q hq e => hf.elim (fun hf => (m.mo q hq).nφ (e ▸ hf)) fun ⟨n, hf⟩ => (m.mo q hq).nψ n (e ▸ hf)⟩
  refine ⟨Nat.lt_of_lt_of_le k1 m'.size, k2, fun i hi => ?_, fun t hl => ?_⟩
  ·have hi : i < g.N + e := hi
   by_cases hi' : i < g.N
   ·rw [jβ1 i hi']; exact k3 i hi'
   ·rw [jβ2 i hi']; exact keptNe b hk _ (by omega)
  ·rcases jlive t b hl with ⟨u, _, l⟩ | ⟨_, l⟩
   ·exact newNot u b l hk
   ·exact k4 t l
 ·intro b hb; exact ⟨(m.old b hb).1, by rw [(m'.old b (hpk b hb)).2]; exact (m.old b hb).2⟩
 ·intro b o hb
  show g'.R b o = _
  rw [m'.oldR b o (hpk b hb)]; exact m.oldR b o hb
 ·exact RO.le_trans m.leR m'.leR
 ·exact Nat.le_trans m.size m'.size
 ·rw [m'.os]; exact m.os
 ·rw [m'.tape]; exact m.tape
 ·rw [m'.output]; exact m.output
 ·intro i hi
  obtain ⟨h1, h2⟩ := m.keep i hi
  exact ⟨Nat.lt_of_lt_of_le h1 (Nat.le_add_right _ _), by rw [jβ1 i h1]; exact h2⟩
 ·rintro b n (hf | hf)
  ·obtain ⟨k1, k2, k3, k4⟩ := m.fr b (.inr ⟨n, hf⟩)
   have hk : kept g w ms tk b := ⟨k1, fun i hi => k3 i (hms i hi), fun t u _ => k4 u, fun _ q hq e => (m.mo q hq).nψ n (e ▸ hf)⟩
   obtain ⟨⟨cu, t', q1, q2⟩, q3, q4⟩ := m.jk b n hf
   exact ⟨⟨cu, t', by rw [(m'.old b hk).2]; exact q1, q2⟩, fun o => by show g'.R b o = none; rw [m'.oldR b o hk]; exact q3 o, q4⟩
  ·obtain ⟨q1, q3, q4⟩ := m'.jk b n hf
   refine ⟨q1, q3, fun hφ => ?_⟩
   obtain ⟨k1, k2, k3, k4⟩ := m.fr b (.inl hφ)
   exact (m'.fr b (.inr ⟨n, hf⟩)).2.1 ⟨k1, fun i hi => k3 i (hms i hi), fun t u _ => k4 u, fun _ q hq e => (m.mo q hq).nφ (e ▸ hφ)⟩
 ·intro q hq
  have hkφ : ∀ b, (g.φ b ∨ ∃ m, g.ψ b m) → kept g w ms tk b := fun b hf => by
   obtain ⟨k1, k2, k3, k4⟩ := m.fr b hf
   exact ⟨k1, fun i hi => k3 i (hms i hi), fun t u _ => k4 u, fun _ q hq e => hf.elim (fun hf => (m.mo q hq).nφ (e ▸ hf)) fun ⟨n, hf⟩ => (m.mo q hq).nψ n (e ▸ hf)⟩
  have hq : (match tb 1100000000000 with | some _ => g'.κ | none => g.κ) = some q := hq
  cases ht : tb 1100000000000 with
  | some u =>
   rw [ht] at hq
   have k := m'.mo q hq
   refine k.mono rfl k.R (fun i hi => ?_) (fun hpb => k.np (hpk _ hpb)) (fun t hl => ?_) (fun hf => k.np (hkφ _ (.inl hf))) (fun n hf => hf.elim (fun hf => k.np (hkφ _ (.inr ⟨n, hf⟩))) (k.nψ n))
   ·have hi : i < g.N + e := hi
    by_cases hi' : i < g.N
    ·rw [jβ1 i hi']
     by_cases hin : i ∈ ms
     ·obtain ⟨k', hk', rfl⟩ := mem_ix i hin
      rw [← hβ k' hk']
      exact k.β k' (by omega)
     ·intro e2; exact k.np (e2 ▸ old i hi' hin)
    ·rw [jβ2 i hi']; exact k.β _ (by omega)
   ·rcases jlive t _ hl with ⟨u', _, l⟩ | ⟨ht', l⟩
    ·exact k.nl u' l
    ·exact k.np (tokKept t _ ht' l)
  | none =>
   rw [ht] at hq hmo
   have k := m.mo q hq
   have hk : kept g w ms tk q.b := ⟨m.moLt hq, fun i hi => k.β i (hms i hi), fun t u _ => k.nl u, fun hs => by rw [hmo] at hs; cases hs⟩
   refine k.mono (m'.old _ hk).2 (fun o => by show g'.R _ o = none; rw [m'.oldR _ o hk]; exact k.R o) (fun i hi => ?_) k.np (fun t hl => ?_) k.nφ (fun n hf => hf.elim (k.nψ n) fun hf => (m'.fr _ (.inr ⟨n, hf⟩)).2.1 hk)
   ·have hi : i < g.N + e := hi
    by_cases hi' : i < g.N
    ·rw [jβ1 i hi']; exact k.β i hi'
    ·rw [jβ2 i hi']; exact keptNe _ hk _ (by omega)
   ·rcases jlive t _ hl with ⟨u', _, l⟩ | ⟨_, l⟩
    ·exact newNot u' _ l hk
    ·exact k.nl t l
end Go.Shal
set_option linter.unusedVariables false
namespace Go.Shal
def ZpL (g : Gh) (s : SV) (v : Value) : Prop := s = .undef ∨ CRep g s v
def ZrC (g : Gh) (w : World) (h : List Blk) : Prop := ∀ b cs, getB h b = some (.cells cs) → b < g.N ∧ ∃ cur ty, w.heap[g.β b]? = some (.cells cur ty (0, 0)) ∧ All2 (ZpL g) cs cur.toList
theorem ZbK {l m : List Blk} {i : Nat} (h : i < l.length) : getB (l ++ m) i = getB l i := by
 induction l generalizing i with
 | nil => simp at h
 | cons x l ih => cases i with
  | zero => rfl
  | succ i => exact ih (by simpa using h)
theorem ZbJ {l m : List Blk} {i : Nat} : getB (l ++ m) (l.length + i) = getB m i := by
 induction l with
 | nil => simp
 | cons x l ih =>
  rw [show (x :: l).length + i = (l.length + i) + 1 by simp; omega]
  exact ih
theorem Zir {g : Gh} {w : World} {h : List Blk} {ms : List Nat} {tk : Nat → Option Nat} (hN : ∀ i ∈ ms, i < g.N) (hb : ZrC g w h) : ∀ (o : Ob), (o.hasOwn = true → ∀ i pos, i < ms.length → pos < 50 → tk (tokC i pos) = some (tokC (ms.getD i 0) pos)) → (o.hasMo = true → (tk 1100000000000).isSome = true) → ∀ {cs : List SV} {self pos : Nat} {c : o.T} {l : List Nat} {vs : List Value} {self' nx : Nat},
  o.get h cs self pos = some (c, l) → All2 (ZpL g) cs vs → self' < ms.length → ms.getD self' 0 = self → pos + cs.length ≤ 50 → (∀ j, j < l.length → nx + j < ms.length ∧ ms.getD (nx + j) 0 = l.getD j 0) →
  All2 (ZpL (g.pick ms tk)) (o.put c self' pos nx).1 vs ∧ (o.put c self' pos nx).2.length = l.length ∧
   ∀ j blk, getB (o.put c self' pos nx).2 j = some blk → ∃ cur ty, w.heap[g.β (l.getD j 0)]? = some (.cells cur ty (0, 0)) ∧ BRep (g.pick ms tk) blk cur.toList := by
 intro o
 induction o with
 | nil =>
  intro htk htm cs self pos c l vs self' nx he ha _ _ _ _
  cases cs with
  | nil => cases he; cases ha; exact ⟨.nil, rfl, fun j blk e => by cases e⟩
  | cons _ _ => cases he
 | dat k r ih =>
  intro htk htm cs self pos c l vs self' nx he ha h1 h2 h3 h4
  obtain ⟨⟨x, rest⟩, e1, he⟩ := Option.bind_eq_some_iff.1 he
  obtain ⟨⟨y, l'⟩, e2, he⟩ := Option.map_eq_some_iff.1 he
  cases he
  obtain ⟨vs1, vs2, rfl, hr, ha2⟩ := Rep.join ha e1
  have hlen : cs.length = k.size + rest.length := by
   have := ha.length
   rw [List.length_append, hr.length, ← ha2.length] at this
   exact this
  have := ih htk htm e2 ha2 h1 h2 (pos := pos + k.size) (by show pos + k.size + rest.length ≤ 50; omega) h4
  obtain ⟨q1, q2, q3⟩ := this
  refine ⟨All2.append ((Rep.split (g := g.pick ms tk) hr).imp fun _ _ q => .inr q.2) q1, q2, q3⟩
 | own k r ih =>
  intro htk htm cs self pos c l vs self' nx he ha h1 h2 h3 h4
  cases ha with
  | nil => cases he
  | @cons sv v cs vs q ha =>
   cases sv with
   | own t k' xs =>
    replace he : (match Nat.beq t (tokC self pos) with | true => (ZbD (a := .slice k') (b := .slice k) xs).bind fun xs => (r.get h cs self (pos + 1)).map fun y => ((xs, y.1), y.2) | false => none) = some (c, l) := he
    split at he
    ·rename_i hbeq
     obtain rfl := Nat.eq_of_beq_eq_true hbeq
     obtain ⟨xs', e1, he⟩ := Option.bind_eq_some_iff.1 he
     obtain ⟨⟨y, l'⟩, e2, he⟩ := Option.map_eq_some_iff.1 he
     cases he
     obtain ⟨ek, rfl⟩ := Zbr e1
     injection ek with ek
     subst ek
     simp only [List.length_cons] at h3
     obtain ⟨q1, q2, q3⟩ := ih (fun _ => htk rfl) htm e2 ha h1 h2 (by omega) h4
     obtain ⟨k1, k2, k3⟩ : CRep g (.own (tokC self pos) k' xs) v := q.resolve_left (by simp)
     have htk := htk rfl self' pos h1 (by omega)
     rw [h2] at htk
     refine ⟨.cons (.inr ⟨k1, ?_, ?_⟩) q1, q2, q3⟩
     ·show v = (match tk (tokC self' pos) with | some u => g.ν u | none => .slice none 0 0); rw [htk]; exact k2
     ·show (match tk (tokC self' pos) with | some u => g.σ u | none => 0) = _; rw [htk]; exact k3
    ·cases he
   | _ => cases he
 | mo k r ih =>
  intro htk htm cs self pos c l vs self' nx he ha h1 h2 h3 h4
  have hmo : (g.pick ms tk).κ = g.κ := by
   show (match tk 1100000000000 with | some _ => g.κ | none => none) = g.κ
   cases ht : tk 1100000000000 with
   | some _ => rfl
   | none => have := htm rfl; rw [ht] at this; cases this
  cases ha with
  | nil => cases he
  | @cons sv v cs vs q ha =>
   cases sv with
   | mo k' xs =>
    replace he : ((ZbD (a := .slice k') (b := .slice k) xs).bind fun xs => (r.get h cs self (pos + 1)).map fun y => ((xs, y.1), y.2)) = some (c, l) := he
    obtain ⟨xs', e1, he⟩ := Option.bind_eq_some_iff.1 he
    obtain ⟨⟨y, l'⟩, e2, he⟩ := Option.map_eq_some_iff.1 he
    cases he
    obtain ⟨ek, rfl⟩ := Zbr e1
    injection ek with ek
    subst ek
    simp only [List.length_cons] at h3
    obtain ⟨q1, q2, q3⟩ := ih (fun _ => htk rfl) (fun _ => htm rfl) e2 ha h1 h2 (by omega) h4
    have hv : ZdG g k' xs v := q.resolve_left (by simp)
    exact ⟨.cons (.inr (ZdG.mono (g := g) (g' := g.pick ms tk) (RO.le_refl _) hmo hv)) q1, q2, q3⟩
   | cst u =>
    replace he : (match (SV.cst u :: cs) with
     | .mo k' xs :: cs => (ZbD (a := .slice k') (b := .slice k) xs).bind fun xs => (r.get h cs self (pos + 1)).map fun y => ((xs, y.1), y.2)
     | .cst (.slice none 0 0) :: cs => (r.get h cs self (pos + 1)).map fun y => (([], y.1), y.2)
     | _ => none) = some (c, l) := he
    split at he
    ·rename_i hh; cases hh
    ·rename_i hh
     cases hh
     obtain ⟨⟨y, l'⟩, e2, he⟩ := Option.map_eq_some_iff.1 he
     cases he
     simp only [List.length_cons] at h3
     obtain ⟨q1, q2, q3⟩ := ih (fun _ => htk rfl) (fun _ => htm rfl) e2 ha h1 h2 (by omega) h4
     have hv : CRep g (.cst (.slice none 0 0)) v := q.resolve_left (by simp)
     exact ⟨.cons (.inr (.inl ⟨rfl, hv.1⟩)) q1, q2, q3⟩
    ·cases he
   | _ => cases he
 | ref o r iho ihr =>
  intro htk htm cs self pos c l vs self' nx he ha h1 h2 h3 h4
  cases ha with
  | nil => cases he
  | @cons sv v cs vs q ha =>
   simp only [List.length_cons] at h3
   cases sv with
   | ptr b off => cases off with
    | succ _ => cases he
    | zero =>
     replace he : (match getB h b with | some (.cells cs') => (match Nat.ble cs'.length 50 with | true => (o.get h cs' b 0).bind fun x => (r.get h cs self (pos + 1)).map fun y => ((x.1, y.1), (b :: x.2) ++ y.2) | false => none) | _ => none) = some (c, l) := he
     split at he
     ·rename_i cs' hgb
      split at he
      ·rename_i hle
       obtain ⟨⟨x, lx⟩, e1, he⟩ := Option.bind_eq_some_iff.1 he
       obtain ⟨⟨y, ly⟩, e2, he⟩ := Option.map_eq_some_iff.1 he
       cases he
       dsimp only at h4 ⊢
       obtain ⟨hbN, cur, ty, hh, hcur⟩ := hb b cs' hgb
       have h0 := h4 0 (by simp)
       have hx := iho (fun h => htk (by show (o.hasOwn || r.hasOwn) = true; rw [h]; rfl)) (fun h => htm (by show (o.hasMo || r.hasMo) = true; rw [h]; rfl)) e1 hcur (self' := nx) (nx := nx + 1) (by simpa using h0.1) (by simpa using h0.2) (by have := Nat.le_of_ble_eq_true hle; omega) (fun j hj => by
        have := h4 (j + 1) (by simp; omega)
        rw [show nx + (j + 1) = nx + 1 + j by omega] at this
        refine ⟨this.1, ?_⟩
        rw [this.2]
        simp [List.getD_eq_getElem?_getD, List.getElem?_append_left (show j < lx.length from hj)])
       obtain ⟨x1, x2, x3⟩ := hx
       have hy := ihr (fun h => htk (by show (o.hasOwn || r.hasOwn) = true; rw [h]; simp)) (fun h => htm (by show (o.hasMo || r.hasMo) = true; rw [h]; simp)) e2 ha (nx := nx + (1 + (o.put x nx 0 (nx + 1)).2.length)) h1 h2 (by omega) (fun j hj => by
        have := h4 (1 + lx.length + j) (by simp; omega)
        rw [x2, show nx + (1 + lx.length) + j = nx + (1 + lx.length + j) by omega]
        refine ⟨this.1, ?_⟩
        rw [this.2, List.getD_eq_getElem?_getD, List.getD_eq_getElem?_getD, show 1 + lx.length + j = (b :: lx).length + j by simp; omega, List.getElem?_append_right (by omega)]
        simp)
       obtain ⟨y1, y2, y3⟩ := hy
       have hv : CRep g (.ptr b 0) v := q.resolve_left (by simp)
       refine ⟨.cons (.inr ⟨?_, ?_⟩) y1, ?_, fun j blk hj => ?_⟩
       ·rw [hv.1]
        show Value.pointer (some ⟨g.β b, 0, none⟩) = .pointer (some ⟨g.β (ms.getD nx 0), 0, none⟩)
        rw [show ms.getD nx 0 = b by simpa using h0.2]
       ·show nx < ms.length; simpa using h0.1
       ·show ((Blk.cells (o.put x nx 0 (nx + 1)).1 :: (o.put x nx 0 (nx + 1)).2) ++ _).length = _
        rw [List.length_append, List.length_append]
        have y2' : (r.put (x, y).snd self' (pos + 1) (nx + (1 + (o.put x nx 0 (nx + 1)).snd.length))).snd.length = ly.length := y2
        rw [y2', List.length_cons, List.length_cons, x2]
       ·replace hj : getB ((Blk.cells (o.put x nx 0 (nx + 1)).1 :: (o.put x nx 0 (nx + 1)).2) ++ (r.put y self' (pos + 1) (nx + (1 + (o.put x nx 0 (nx + 1)).2.length))).2) j = some blk := hj
        by_cases hj1 : j < (Blk.cells (o.put x nx 0 (nx + 1)).1 :: (o.put x nx 0 (nx + 1)).2).length
        ·rw [ZbK hj1] at hj
         cases j with
         | zero =>
          obtain rfl := Option.some.inj hj
          exact ⟨cur, ty, by simpa using hh, x1⟩
         | succ j =>
          obtain ⟨cur', ty', k1, k2⟩ := x3 j blk hj
          have hjl : j < lx.length := by simp [x2] at hj1; omega
          refine ⟨cur', ty', ?_, k2⟩
          have : ((b :: lx) ++ ly).getD (j + 1) 0 = lx.getD j 0 := by simp [List.getD_eq_getElem?_getD, List.getElem?_append_left hjl]
          rw [this]; exact k1
        ·obtain ⟨i, rfl⟩ : ∃ i, j = (Blk.cells (o.put x nx 0 (nx + 1)).1 :: (o.put x nx 0 (nx + 1)).2).length + i := ⟨j - (Blk.cells (o.put x nx 0 (nx + 1)).1 :: (o.put x nx 0 (nx + 1)).2).length, by omega⟩
         rw [ZbJ] at hj
         obtain ⟨cur', ty', k1, k2⟩ := y3 i blk hj
         refine ⟨cur', ty', ?_, k2⟩
         have : ((b :: lx) ++ ly).getD ((Blk.cells (o.put x nx 0 (nx + 1)).1 :: (o.put x nx 0 (nx + 1)).2).length + i) 0 = ly.getD i 0 := by
          rw [List.getD_eq_getElem?_getD, List.getD_eq_getElem?_getD, show (Blk.cells (o.put x nx 0 (nx + 1)).1 :: (o.put x nx 0 (nx + 1)).2).length = (b :: lx).length by simp [x2], List.getElem?_append_right (by omega)]
          simp
         rw [this]; exact k1
      ·cases he
     ·cases he
   | _ => cases he
end Go.Shal
set_option linter.unusedVariables false
namespace Go.Shal
structure Gh.turnP (P : Nat → Bool) (g g' : Gh) : Prop where
 R : g.R.le g'.R
 β : ∀ b, b < g.N → g'.β b = g.β b
 N : g.N ≤ g'.N
 ν : ∀ u, P u = false → g'.ν u = g.ν u ∧ g'.σ u = g.σ u
 φ : ∀ b, g.φ b → g'.φ b
 ψ : ∀ b m, g.ψ b m → g'.ψ b m
 κ : P 1100000000000 = false → g'.κ = g.κ
theorem CRep.scrubP {P : Nat → Bool} {g g' : Gh} (h : g.turnP P g') {s : SV} {v : Value} (k : CRep g s v) (hm : s.noMo = true) : CRep g' (s.scrubP P) v := by
 cases s with
 | mo _ _ => cases hm
 | mq _ _ _ => exact k.elim
 | own t' kd xs =>
  show CRep g' (cond (P t') (.dat (.slice kd) xs) (.own t' kd xs)) v
  cases e : P t' with
  | true => exact ⟨rfl, k.1.mono h.R⟩
  | false => exact ⟨k.1.mono h.R, by rw [(h.ν t' e).1]; exact k.2.1, by rw [(h.ν t' e).2]; exact k.2.2⟩
 | cst c => exact k
 | dat _ _ => exact ⟨k.1, k.2.mono h.R⟩
 | fresh _ _ => obtain ⟨k, b, n, e, q⟩ := k; exact ⟨k.mono h.R, b, n, e, h.φ b q⟩
 | ptr b o => exact ⟨by rw [h.β b k.2]; exact k.1, Nat.lt_of_lt_of_le k.2 h.N⟩
 | undef => exact k
 | rptr _ _ => exact k
 | tup _ => exact k
 | agg _ => exact k
 | func _ _ => exact k
 | sl _ _ _ => exact k.elim
 | eptr _ _ _ _ => exact k.elim
 | jk _ _ => exact JRep.ext h.ψ k
 | jp _ => exact k.elim
 | rm _ _ _ _ => exact k.elim
 | mp _ => exact k.elim
 | raw _ _ _ => exact k.elim
theorem CRep.scrubPU {P : Nat → Bool} {g g' : Gh} (h : g.turnP P g') {s : SV} {v : Value} (k : CRep g s v) : s.scrubP P = .undef ∨ CRep g' (s.scrubP P) v := by
 cases s with
 | mo kd xs =>
  show cond (P 1100000000000) SV.undef (.mo kd xs) = .undef ∨ CRep g' (cond (P 1100000000000) .undef (.mo kd xs)) v
  cases e : P 1100000000000 with
  | true => exact .inl rfl
  | false => exact .inr (ZdG.mono h.R (h.κ e) k)
 | _ => exact .inr (CRep.scrubP h k rfl)
theorem PRep.turnP {P : Nat → Bool} {g g' : Gh} (h : g.turnP P g') {s : SV} {v : Value} (k : PRep g s v) : PRep g' s v := by
 obtain ⟨k1, k2⟩ := k
 have := CRep.scrubP h k2 (by cases s <;> first | rfl | cases k1)
 cases s <;> first | exact ⟨k1, this⟩ | (cases k1; done) | exact k2.elim
theorem QRep.scrubQ {P : Nat → Bool} {g g' : Gh} (h : g.turnP P g') {s : SV} {v : Value} (k : QRep g s v) : QRep g' (s.scrubQ P) v := by
 cases s with
 | own t' kd xs =>
  have k' := CRep.scrubP (s := .own t' kd xs) h k rfl
  show QRep g' (cond (P t') (.dat (.slice kd) xs) (.own t' kd xs)) v
  change CRep g' (cond (P t') (.dat (.slice kd) xs) (.own t' kd xs)) v at k'
  cases e : P t' with
  | true => rw [e] at k'; exact DRep.of_one rfl k'.2
  | false => rw [e] at k'; exact k'
 | cst c => exact k
 | dat _ _ => exact DRep.mono h.R k
 | fresh _ _ => obtain ⟨k, b, n, e, q⟩ := k; exact ⟨k.mono h.R, b, n, e, h.φ b q⟩
 | ptr b o => exact ⟨by rw [h.β b k.2]; exact k.1, Nat.lt_of_lt_of_le k.2 h.N⟩
 | mo _ _ => exact k.elim
 | mq _ _ _ => exact k.elim
 | undef => exact k.elim
 | rptr _ _ => exact k.elim
 | tup _ => exact k.elim
 | agg _ => obtain ⟨vs, e, k⟩ := k; exact ⟨vs, e, k.imp fun _ _ q => q.of h.R h.ψ⟩
 | func _ _ => exact k.elim
 | sl _ _ _ => exact k.elim
 | eptr _ _ _ _ => exact k.elim
 | jk _ _ => exact JRep.ext h.ψ k
 | jp _ => exact k.elim
 | rm b _ _ _ => exact ⟨by rw [h.β b k.2.1]; exact k.1, Nat.lt_of_lt_of_le k.2.1 h.N, k.2.2⟩
 | mp _ => exact k.elim
 | raw _ _ _ => exact k.elim
theorem SRep.scrubP {P : Nat → Bool} {g g' : Gh} (h : g.turnP P g') {s : SV} {v : Value} (k : SRep g s v) : SRep g' (s.scrubP P) v := by
 cases s with
 | own t' kd xs =>
  have k' := CRep.scrubP (s := .own t' kd xs) h k rfl
  show SRep g' (cond (P t') (.dat (.slice kd) xs) (.own t' kd xs)) v
  change CRep g' (cond (P t') (.dat (.slice kd) xs) (.own t' kd xs)) v at k'
  cases e : P t' with
  | true => rw [e] at k'; exact DRep.of_one rfl k'.2
  | false => rw [e] at k'; exact k'
 | cst c => exact k
 | dat _ _ => exact DRep.mono h.R k
 | fresh _ _ => obtain ⟨k, b, n, e, q⟩ := k; exact ⟨k.mono h.R, b, n, e, h.φ b q⟩
 | ptr b o => exact ⟨by rw [h.β b k.2]; exact k.1, Nat.lt_of_lt_of_le k.2 h.N⟩
 | mo kd xs =>
  show SRep g' (cond (P 1100000000000) .undef (.mo kd xs)) v
  cases e : P 1100000000000 with
  | true => trivial
  | false => exact ZdG.mono h.R (h.κ e) k
 | mq kd i p =>
  show SRep g' (cond (P 1100000000000) .undef (.mq kd i p)) v
  cases e : P 1100000000000 with
  | true => trivial
  | false => exact ZgE.mono (h.κ e) k
 | undef => trivial
 | rptr _ _ => obtain ⟨b, o, cs, e, k1, k2⟩ := k; exact ⟨b, o, cs, e, k1.mono h.R, fun j c hc => h.R _ _ _ (k2 j c hc)⟩
 | tup l => obtain ⟨vs, e, k⟩ := k; exact ⟨vs, e, All2.mapL k fun _ _ q => QRep.scrubQ h q⟩
 | agg _ => obtain ⟨vs, e, k⟩ := k; exact ⟨vs, e, k.imp fun _ _ q => q.turnP h⟩
 | func _ _ => obtain ⟨vs, e, k⟩ := k; exact ⟨vs, e, k.imp fun _ _ q => q.turnP h⟩
 | sl b _ _ => obtain ⟨c, k⟩ := k; exact ⟨c, by rw [h.β b k.2.1]; exact k.1, Nat.lt_of_lt_of_le k.2.1 h.N, k.2.2⟩
 | eptr b _ _ _ => exact ⟨by rw [h.β b k.2.1]; exact k.1, Nat.lt_of_lt_of_le k.2.1 h.N, k.2.2⟩
 | mp b => exact ⟨by rw [h.β b k.2]; exact k.1, Nat.lt_of_lt_of_le k.2 h.N⟩
 | jk _ _ => exact JRep.ext h.ψ k
 | jp _ => obtain ⟨b, o, m, e, q, r⟩ := k; exact ⟨b, o, m, e, h.ψ _ _ q, r⟩
 | rm b _ _ _ => exact ⟨by rw [h.β b k.2.1]; exact k.1, Nat.lt_of_lt_of_le k.2.1 h.N, k.2.2⟩
 | raw t' kd n =>
  obtain ⟨b, c, e1, e2, e3, e4, e5⟩ := k
  show SRep g' (cond (P t') .undef (.raw t' kd n)) v
  cases e : P t' with
  | true => trivial
  | false => exact ⟨b, c, by rw [(h.ν t' e).1]; exact e1, e2, e3, e4, by rw [(h.ν t' e).2]; exact e5⟩
theorem BRep.scrubP {P : Nat → Bool} {g g' : Gh} (h : g.turnP P g') {b : Blk} {vs : List Value} (k : BRep g b vs) : BRep g' (b.scrubP P) vs := by
 cases b with
 | cells cs =>
  show All2 _ (cs.map (·.scrubP P)) vs
  replace k : All2 _ cs vs := k
  induction k with
  | nil => exact .nil
  | cons q _ ih =>
   refine .cons ?_ ih
   rcases q with rfl | q
   ·exact .inl rfl
   ·exact CRep.scrubPU h q
 | arr _ _ => exact ⟨k.1, fun i x hx => let ⟨c, h1, h2⟩ := k.2 i x hx; ⟨c, h1.mono h.R, h2⟩⟩
 | mp _ _ => exact k
theorem ZqD {g g' : Gh} {ms : List Nat} {tb : Nat → Option Nat} {e : Nat} (hR : g.R.le g'.R) {P : Nat → Bool} (hP : ∀ t, P t = false → tb t = none) : g.turnP P (g.join g' ms tb e) :=
 ⟨hR, fun b hb => by show (if b < g.N then g.β b else _) = _; rw [if_pos hb], Nat.le_add_right _ _, fun u hu => by
  constructor
  ·show (match tb u with | some t => g'.ν t | none => g.ν u) = _; rw [hP u hu]
  ·show (match tb u with | some t => g'.σ t | none => g.σ u) = _; rw [hP u hu], fun b h => h, fun b m h => .inl h, fun h => by show (match tb 1100000000000 with | some _ => g'.κ | none => g.κ) = _; rw [hP _ h]⟩
end Go.Shal
set_option linter.unusedVariables false
namespace Go.Shal
theorem Zdw : ∀ (o : Ob) (c : o.T) (self pos nx : Nat), (o.put c self pos nx).2.length = o.cnt
 | .nil, _, _, _, _ => rfl
 | .dat k r, c, self, pos, nx => Zdw r c.2 self (pos + k.size) nx
 | .own k r, c, self, pos, nx => Zdw r c.2 self (pos + 1) nx
 | .mo k r, c, self, pos, nx => Zdw r c.2 self (pos + 1) nx
 | .ref o r, c, self, pos, nx => by
  show ((Blk.cells (o.put c.1 nx 0 (nx + 1)).1 :: (o.put c.1 nx 0 (nx + 1)).2) ++ (r.put c.2 self (pos + 1) (nx + (1 + (o.put c.1 nx 0 (nx + 1)).2.length))).2).length = (1 + o.cnt) + r.cnt
  rw [List.length_append, List.length_cons, Zdw o, Zdw r]; omega
def cntP : List Pk → Nat
 | [] => 0
 | .obj o :: r => (1 + o.cnt) + cntP r
 | .dat _ :: r => cntP r
 | .own _ :: r => cntP r
 | .nil :: r => cntP r
 | .fn _ :: r => cntP r
 | .room _ :: r => 1 + cntP r
theorem ZcR : ∀ (ps : List Pk) (x : PT ps) (j nx : Nat), (ZbF ps x j nx).2.length = cntP ps
 | [], _, _, _ => rfl
 | .dat _ :: ps, x, j, nx => ZcR ps x.2 (j + 1) nx
 | .own _ :: ps, x, j, nx => ZcR ps x.2 (j + 1) nx
 | .nil :: ps, x, j, nx => ZcR ps x.2 (j + 1) nx
 | .fn _ :: ps, x, j, nx => ZcR ps x.2 (j + 1) nx
 | .room _ :: ps, x, j, nx => by
  show (ZbF ps x.2 (j + 1) (nx + 1)).2.length + 1 = 1 + cntP ps
  rw [ZcR ps]; omega
 | .obj o :: ps, x, j, nx => by
  show ((Blk.cells (o.put x.1 nx 0 (nx + 1)).1 :: (o.put x.1 nx 0 (nx + 1)).2) ++ (ZbF ps x.2 (j + 1) (nx + (1 + (o.put x.1 nx 0 (nx + 1)).2.length))).2).length = (1 + o.cnt) + cntP ps
  rw [List.length_append, List.length_cons, Zdw o, ZcR ps]; omega
theorem ZdM : ∀ (ps : List Pk) (x : BT ps) (nx : Nat), (endB ps x nx).length = cntP ps
 | [], _, _ => rfl
 | .dat _ :: ps, x, nx => ZdM ps x nx
 | .own _ :: ps, x, nx => ZdM ps x nx
 | .nil :: ps, x, nx => ZdM ps x nx
 | .fn _ :: ps, x, nx => ZdM ps x nx
 | .room _ :: ps, x, nx => by
  show (endB ps x.2 (nx + 1)).length + 1 = 1 + cntP ps
  rw [ZdM ps]; omega
 | .obj o :: ps, x, nx => by
  show ((Blk.cells (o.put x.1 nx 0 (nx + 1)).1 :: (o.put x.1 nx 0 (nx + 1)).2) ++ endB ps x.2 (nx + (1 + (o.put x.1 nx 0 (nx + 1)).2.length))).length = (1 + o.cnt) + cntP ps
  rw [List.length_append, List.length_cons, Zdw o, ZdM ps]; omega
theorem ZdO : ∀ (rs : List Rk) (x : RT rs) (j nx : Nat), allB Rk.small rs = true → (resV rs x j nx).2.length ≤ rs.length * 1001
 | [], _, _, _, _ => Nat.le_refl _
 | .dat _ :: rs, x, j, nx, h => by
  have := ZdO rs x.2 (j + 1) nx h
  refine Nat.le_trans this ?_; simp only [List.length_cons, Nat.add_mul]; omega
 | .own _ :: rs, x, j, nx, h => by
  have := ZdO rs x.2 (j + 1) nx h
  refine Nat.le_trans this ?_; simp only [List.length_cons, Nat.add_mul]; omega
 | .jk _ :: rs, x, j, nx, h => by
  have := ZdO rs x.2 (j + 1) nx h
  refine Nat.le_trans this ?_; simp only [List.length_cons, Nat.add_mul]; omega
 | .js _ :: rs, x, j, nx, h => by
  have := ZdO rs x.2 (j + 1) nx h
  refine Nat.le_trans this ?_; simp only [List.length_cons, Nat.add_mul]; omega
 | .rin _ _ :: rs, x, j, nx, h => by
  have := ZdO rs x.2 (j + 1) nx h
  refine Nat.le_trans this ?_; simp only [List.length_cons, Nat.add_mul]; omega
 | .row _ :: rs, x, j, nx, h => by
  have := ZdO rs x.2 (j + 1) (nx + 1) h
  show (resV rs x.2 (j + 1) (nx + 1)).2.length + 1 ≤ _
  simp only [List.length_cons, Nat.add_mul]; omega
 | .ref o :: rs, (none, y), j, nx, h => by
  have h : cond (Rk.small (.ref o)) (allB Rk.small rs) false = true := h
  cases hs : Rk.small (.ref o) with
  | false => rw [hs] at h; cases h
  | true =>
   rw [hs] at h
   have := ZdO rs y (j + 1) nx h
   refine Nat.le_trans this ?_; simp only [List.length_cons, Nat.add_mul]; omega
 | .ref o :: rs, (some c, y), j, nx, h => by
  have h : cond (Rk.small (.ref o)) (allB Rk.small rs) false = true := h
  cases hs : Rk.small (.ref o) with
  | false => rw [hs] at h; cases h
  | true =>
   rw [hs] at h
   have hc : o.cnt ≤ 1000 := by
    simp only [Rk.small, Bool.and_eq_true] at hs
    exact Nat.le_of_ble_eq_true hs.2.1
   have := ZdO rs y (j + 1) (nx + (1 + (o.put c nx 0 (nx + 1)).2.length)) h
   have e : (resV (.ref o :: rs) (some c, y) j nx).2.length = (1 + (o.put c nx 0 (nx + 1)).2.length) + (resV rs y (j + 1) (nx + (1 + (o.put c nx 0 (nx + 1)).2.length))).2.length := by
    show ((Blk.cells (o.put c nx 0 (nx + 1)).1 :: (o.put c nx 0 (nx + 1)).2) ++ (resV rs y (j + 1) (nx + (1 + (o.put c nx 0 (nx + 1)).2.length))).2).length = _
    rw [List.length_append, List.length_cons]; omega
   rw [e, Zdw o c] at *
   simp only [List.length_cons, Nat.add_mul]
   omega
def SV.tokIn (Q : Nat → Prop) : SV → Prop
 | .own t _ _ => Q t
 | .mo _ _ => Q 1100000000000
 | .fresh _ _ => False
 | _ => True
def Blk.tokIn (Q : Nat → Prop) : Blk → Prop
 | .cells cs => ∀ s ∈ cs, s.tokIn Q
 | .arr _ _ => True
 | .mp _ _ => True
theorem Zei (Q : Nat → Prop) : ∀ (k : Kd) (x : k.T), ∀ s ∈ k.split x, s.tokIn Q
 | .int k, x, s, h => by obtain rfl := List.mem_singleton.1 (show s ∈ [SV.dat (.int k) x] from h); trivial
 | .bool, x, s, h => by obtain rfl := List.mem_singleton.1 (show s ∈ [SV.dat .bool x] from h); trivial
 | .flt, x, s, h => by obtain rfl := List.mem_singleton.1 (show s ∈ [SV.dat .flt x] from h); trivial
 | .str, x, s, h => by obtain rfl := List.mem_singleton.1 (show s ∈ [SV.dat .str x] from h); trivial
 | .slice k, x, s, h => by obtain rfl := List.mem_singleton.1 (show s ∈ [SV.dat (.slice k) x] from h); trivial
 | .np, x, s, h => by obtain rfl := List.mem_singleton.1 (show s ∈ [SV.cst (.pointer none)] from h); trivial
 | .rp k, x, s, h => by obtain rfl := List.mem_singleton.1 (show s ∈ [SV.dat (.rp k) x] from h); trivial
 | .nsl, x, s, h => by obtain rfl := List.mem_singleton.1 (show s ∈ [SV.cst (.slice none 0 0)] from h); trivial
 | .tre k, x, s, h => by
  rcases List.mem_append.1 (show s ∈ k.split x.val ++ [SV.dat (.slice (.tre k)) x.sub] from h) with h | h
  ·exact Zei Q k _ s h
  ·obtain rfl := List.mem_singleton.1 h; trivial
 | .unit, x, s, h => by cases h
 | .pair a b, x, s, h => by
  rcases List.mem_append.1 (show s ∈ a.split x.1 ++ b.split x.2 from h) with h | h
  ·exact Zei Q a _ s h
  ·exact Zei Q b _ s h
 | .arr n k, xs, s, h => by
  obtain ⟨i, _, h⟩ := List.mem_flatMap.1 (show s ∈ (List.range n).flatMap fun i => k.split (xs.getD i k.zero) from h)
  exact Zei Q k _ s h
theorem Zfg : ∀ (o : Ob), o.hasMo = true → o.hasOwn = true
 | .nil, h => by cases h
 | .dat _ r, h => Zfg r h
 | .own _ _, _ => rfl
 | .mo _ _, _ => rfl
 | .ref o r, h => by
  have h : (o.hasMo || r.hasMo) = true := h
  show (o.hasOwn || r.hasOwn) = true
  rcases (Bool.or_eq_true_iff).1 h with h | h
  ·rw [Zfg o h]; rfl
  ·rw [Zfg r h]; simp
theorem ZeS (Q : Nat → Prop) : ∀ (o : Ob) (c : o.T) (self pos nx : Nat), o.smallIn = true → pos + o.width ≤ 50 → (o.hasOwn = true → ∀ i q, q < 50 → (i = self ∨ (nx ≤ i ∧ i < nx + o.cnt)) → Q (tokC i q)) → (o.hasMo = true → Q 1100000000000) →
  (∀ s ∈ (o.put c self pos nx).1, s.tokIn Q) ∧ ∀ b ∈ (o.put c self pos nx).2, b.tokIn Q
 | .nil, _, _, _, _, _, _, _, _ => ⟨(fun s h => by cases h), (fun b h => by cases h)⟩
 | .dat k r, c, self, pos, nx, hs, hw, hq, hm => by
  obtain ⟨h1, h2⟩ := ZeS Q r c.2 self (pos + k.size) nx hs (by simp only [Ob.width] at hw; omega) hq hm
  refine ⟨fun s h => ?_, h2⟩
  rcases List.mem_append.1 (show s ∈ k.split c.1 ++ (r.put c.2 self (pos + k.size) nx).1 from h) with h | h
  ·exact Zei Q k c.1 s h
  ·exact h1 s h
 | .mo k r, c, self, pos, nx, hs, hw, hq, hm => by
  obtain ⟨h1, h2⟩ := ZeS Q r c.2 self (pos + 1) nx hs (by simp only [Ob.width] at hw; omega) (fun _ => hq rfl) (fun _ => hm rfl)
  refine ⟨fun s h => ?_, h2⟩
  rcases List.mem_cons.1 (show s ∈ SV.mo k c.1 :: (r.put c.2 self (pos + 1) nx).1 from h) with rfl | h
  ·exact hm rfl
  ·exact h1 s h
 | .own k r, c, self, pos, nx, hs, hw, hq, hm => by
  obtain ⟨h1, h2⟩ := ZeS Q r c.2 self (pos + 1) nx hs (by simp only [Ob.width] at hw; omega) (fun _ => hq rfl) hm
  refine ⟨fun s h => ?_, h2⟩
  rcases List.mem_cons.1 (show s ∈ SV.own (tokC self pos) k c.1 :: (r.put c.2 self (pos + 1) nx).1 from h) with rfl | h
  ·exact hq rfl self pos (by simp only [Ob.width] at hw; omega) (.inl rfl)
  ·exact h1 s h
 | .ref o r, c, self, pos, nx, hs, hw, hq, hm => by
  simp only [Ob.smallIn, Bool.and_eq_true] at hs
  obtain ⟨⟨hs1, hs2⟩, hs3⟩ := hs
  have hs1 := Nat.le_of_ble_eq_true hs1
  have hc := Zdw o c.1 nx 0 (nx + 1)
  simp only [Ob.width] at hw
  obtain ⟨a1, a2⟩ := ZeS Q o c.1 nx 0 (nx + 1) hs2 (by omega) (fun h i q hq1 hi => hq (by show (o.hasOwn || r.hasOwn) = true; rw [h]; rfl) i q hq1 (.inr (by simp only [Ob.cnt]; omega))) (fun h => hm (by show (o.hasMo || r.hasMo) = true; rw [h]; rfl))
  obtain ⟨b1, b2⟩ := ZeS Q r c.2 self (pos + 1) (nx + (1 + (o.put c.1 nx 0 (nx + 1)).2.length)) hs3 (by omega) (fun h i q hq1 hi => hq (by show (o.hasOwn || r.hasOwn) = true; rw [h]; simp) i q hq1 (by rw [hc] at hi; simp only [Ob.cnt]; omega)) (fun h => hm (by show (o.hasMo || r.hasMo) = true; rw [h]; simp))
  refine ⟨fun s h => ?_, fun b h => ?_⟩
  ·rcases List.mem_cons.1 (show s ∈ SV.ptr nx 0 :: (r.put c.2 self (pos + 1) (nx + (1 + (o.put c.1 nx 0 (nx + 1)).2.length))).1 from h) with rfl | h
   ·trivial
   ·exact b1 s h
  ·rcases List.mem_append.1 (show b ∈ (Blk.cells (o.put c.1 nx 0 (nx + 1)).1 :: (o.put c.1 nx 0 (nx + 1)).2) ++ (r.put c.2 self (pos + 1) (nx + (1 + (o.put c.1 nx 0 (nx + 1)).2.length))).2 from h) with h | h
   ·rcases List.mem_cons.1 h with rfl | h
    ·exact a1
    ·exact a2 b h
   ·exact b2 b h
theorem ZiV {o : Ob} (h : o.small = true) : o.smallIn = true ∧ 0 + o.width ≤ 50 := by
 simp only [Ob.small, Bool.and_eq_true] at h
 exact ⟨h.2, by have := Nat.le_of_ble_eq_true h.1; omega⟩
theorem ZdZ (Q : Nat → Prop) : ∀ (ps : List Pk) (x : BT ps) (nx : Nat), allB Pk.small ps = true → (anyB Pk.inn ps = true → ∀ i q, q < 50 → nx ≤ i → i < nx + cntP ps → Q (tokC i q)) → (anyB Pk.inn ps = true → Q 1100000000000) → ∀ b ∈ endB ps x nx, b.tokIn Q
 | [], _, _, _, _, _, b, h => by cases h
 | .dat _ :: ps, x, nx, hs, hq, hm, b, h => ZdZ Q ps x nx hs hq hm b h
 | .own _ :: ps, x, nx, hs, hq, hm, b, h => ZdZ Q ps x nx hs (fun _ => hq rfl) (fun _ => hm rfl) b h
 | .nil :: ps, x, nx, hs, hq, hm, b, h => ZdZ Q ps x nx hs hq hm b h
 | .fn _ :: ps, x, nx, hs, hq, hm, b, h => ZdZ Q ps x nx hs hq hm b h
 | .room k :: ps, x, nx, hs, hq, hm, b, h => by
  rcases List.mem_cons.1 (show b ∈ Blk.arr k x.1 :: endB ps x.2 (nx + 1) from h) with rfl | h
  ·trivial
  ·exact ZdZ Q ps x.2 (nx + 1) hs (fun h i q hq1 h1 h2 => hq h i q hq1 (by omega) (by simp only [cntP]; omega)) hm b h
 | .obj o :: ps, x, nx, hs, hq, hm, b, h => by
  have hm : (cond o.hasOwn true (anyB Pk.inn ps)) = true → Q 1100000000000 := hm
  have hs : cond o.small (allB Pk.small ps) false = true := hs
  have hq : (cond o.hasOwn true (anyB Pk.inn ps)) = true → ∀ i q, q < 50 → nx ≤ i → i < nx + ((1 + o.cnt) + cntP ps) → Q (tokC i q) := hq
  cases hsm : o.small with
  | false => rw [hsm] at hs; cases hs
  | true =>
   rw [hsm] at hs
   obtain ⟨q1, q2⟩ := ZiV hsm
   have hc := Zdw o x.1 nx 0 (nx + 1)
   obtain ⟨a1, a2⟩ := ZeS Q o x.1 nx 0 (nx + 1) q1 q2 (fun h i q hq1 hi => hq (by rw [h]; rfl) i q hq1 (by omega) (by omega)) (fun h => hm (by rw [Zfg o h]; rfl))
   have b1 := ZdZ Q ps x.2 (nx + (1 + (o.put x.1 nx 0 (nx + 1)).2.length)) hs (fun h i q hq1 h1 h2 => hq (by rw [h]; cases o.hasOwn <;> rfl) i q hq1 (by omega) (by rw [hc] at h2; omega)) (fun h => hm (by rw [h]; cases o.hasOwn <;> rfl))
   rcases List.mem_append.1 (show b ∈ (Blk.cells (o.put x.1 nx 0 (nx + 1)).1 :: (o.put x.1 nx 0 (nx + 1)).2) ++ endB ps x.2 (nx + (1 + (o.put x.1 nx 0 (nx + 1)).2.length)) from h) with h | h
   ·rcases List.mem_cons.1 h with rfl | h
    ·exact a1
    ·exact a2 b h
   ·exact b1 b h
theorem Zdo (Q : Nat → Prop) : ∀ (rs : List Rk) (x : RT rs) (j nx : Nat), allB Rk.small rs = true → (anyB Rk.refOwn rs = true → ∀ i q, q < 50 → nx ≤ i → i < nx + (resV rs x j nx).2.length → Q (tokC i q)) → (anyB Rk.isOwn rs = true → ∀ k, j ≤ k → k < j + rs.length → Q (tokR k)) →
  (∀ s ∈ (resV rs x j nx).1, s.tokIn Q) ∧ ∀ b ∈ (resV rs x j nx).2, b.tokIn Q
 | [], _, _, _, _, _, _ => ⟨(fun s h => by cases h), (fun b h => by cases h)⟩
 | .dat k :: rs, x, j, nx, hs, h1, h2 => by
  obtain ⟨a1, a2⟩ := Zdo Q rs x.2 (j + 1) nx hs h1 (fun h k hk1 hk2 => h2 h k (by omega) (by simp only [List.length_cons]; omega))
  refine ⟨fun s h => ?_, a2⟩
  rcases List.mem_cons.1 (show s ∈ SV.dat k x.1 :: (resV rs x.2 (j + 1) nx).1 from h) with rfl | h
  ·trivial
  ·exact a1 s h
 | .jk k :: rs, x, j, nx, hs, h1, h2 => by
  obtain ⟨a1, a2⟩ := Zdo Q rs x.2 (j + 1) nx hs h1 (fun h k hk1 hk2 => h2 h k (by omega) (by simp only [List.length_cons]; omega))
  refine ⟨fun s h => ?_, a2⟩
  rcases List.mem_cons.1 (show s ∈ SV.jk k x.1 :: (resV rs x.2 (j + 1) nx).1 from h) with rfl | h
  ·trivial
  ·exact a1 s h
 | .js q :: rs, x, j, nx, hs, h1, h2 => by
  obtain ⟨a1, a2⟩ := Zdo Q rs x.2 (j + 1) nx hs h1 (fun h k hk1 hk2 => h2 h k (by omega) (by simp only [List.length_cons]; omega))
  refine ⟨fun s h => ?_, a2⟩
  rcases List.mem_cons.1 (show s ∈ SV.agg (ZlQ q x.1) :: (resV rs x.2 (j + 1) nx).1 from h) with rfl | h
  ·trivial
  ·exact a1 s h
 | .rin i k :: rs, x, j, nx, hs, h1, h2 => by
  obtain ⟨a1, a2⟩ := Zdo Q rs x.2 (j + 1) nx hs h1 (fun h k hk1 hk2 => h2 h k (by omega) (by simp only [List.length_cons]; omega))
  refine ⟨fun s h => ?_, a2⟩
  rcases List.mem_cons.1 (show s ∈ SV.rm i k x.1.1 x.1.2 :: (resV rs x.2 (j + 1) nx).1 from h) with rfl | h
  ·trivial
  ·exact a1 s h
 | .row k :: rs, x, j, nx, hs, h1, h2 => by
  have hl : (resV (.row k :: rs) x j nx).2.length = (resV rs x.2 (j + 1) (nx + 1)).2.length + 1 := rfl
  rw [hl] at h1
  obtain ⟨a1, a2⟩ := Zdo Q rs x.2 (j + 1) (nx + 1) hs (fun h i q hq1 h3 h4 => h1 h i q hq1 (by omega) (by omega)) (fun h k hk1 hk2 => h2 h k (by omega) (by simp only [List.length_cons]; omega))
  refine ⟨fun s h => ?_, fun b h => ?_⟩
  ·rcases List.mem_cons.1 (show s ∈ SV.rm nx k x.1.2.1 x.1.2.2 :: (resV rs x.2 (j + 1) (nx + 1)).1 from h) with rfl | h
   ·trivial
   ·exact a1 s h
  ·rcases List.mem_cons.1 (show b ∈ Blk.arr k x.1.1 :: (resV rs x.2 (j + 1) (nx + 1)).2 from h) with rfl | h
   ·trivial
   ·exact a2 b h
 | .own k :: rs, x, j, nx, hs, h1, h2 => by
  obtain ⟨a1, a2⟩ := Zdo Q rs x.2 (j + 1) nx hs h1 (fun h k hk1 hk2 => h2 rfl k (by omega) (by simp only [List.length_cons]; omega))
  refine ⟨fun s h => ?_, a2⟩
  rcases List.mem_cons.1 (show s ∈ SV.own (tokR j) k x.1 :: (resV rs x.2 (j + 1) nx).1 from h) with rfl | h
  ·exact h2 rfl j (Nat.le_refl _) (by simp only [List.length_cons]; omega)
  ·exact a1 s h
 | .ref o :: rs, (none, y), j, nx, hs, h1, h2 => by
  have hs : cond (Rk.small (.ref o)) (allB Rk.small rs) false = true := hs
  cases hsm : Rk.small (.ref o) with
  | false => rw [hsm] at hs; cases hs
  | true =>
   rw [hsm] at hs
   have h1 : (cond o.hasOwn true (anyB Rk.refOwn rs)) = true → ∀ i q, q < 50 → nx ≤ i → i < nx + (resV rs y (j + 1) nx).2.length → Q (tokC i q) := h1
   obtain ⟨a1, a2⟩ := Zdo Q rs y (j + 1) nx hs (fun h => h1 (by rw [h]; cases o.hasOwn <;> rfl)) (fun h k hk1 hk2 => h2 h k (by omega) (by simp only [List.length_cons]; omega))
   refine ⟨fun s h => ?_, a2⟩
   rcases List.mem_cons.1 (show s ∈ SV.cst (.pointer none) :: (resV rs y (j + 1) nx).1 from h) with rfl | h
   ·trivial
   ·exact a1 s h
 | .ref o :: rs, (some c, y), j, nx, hs, h1, h2 => by
  have hs : cond (Rk.small (.ref o)) (allB Rk.small rs) false = true := hs
  cases hsm : Rk.small (.ref o) with
  | false => rw [hsm] at hs; cases hs
  | true =>
   rw [hsm] at hs
   have hlen : (resV (.ref o :: rs) (some c, y) j nx).2.length = (1 + (o.put c nx 0 (nx + 1)).2.length) + (resV rs y (j + 1) (nx + (1 + (o.put c nx 0 (nx + 1)).2.length))).2.length := by
    show ((Blk.cells (o.put c nx 0 (nx + 1)).1 :: (o.put c nx 0 (nx + 1)).2) ++ (resV rs y (j + 1) (nx + (1 + (o.put c nx 0 (nx + 1)).2.length))).2).length = _
    rw [List.length_append, List.length_cons]; omega
   rw [hlen] at h1
   have h1 : (cond o.hasOwn true (anyB Rk.refOwn rs)) = true → _ := h1
   simp only [Rk.small, Bool.and_eq_true] at hsm
   obtain ⟨q1, q2⟩ := ZiV hsm.1
   have hc := Zdw o c nx 0 (nx + 1)
   obtain ⟨p1, p2⟩ := ZeS Q o c nx 0 (nx + 1) q1 q2 (fun h i q hq1 hi => h1 (by rw [h]; rfl) i q hq1 (by omega) (by omega)) (fun h => by have := hsm.2.2; rw [h] at this; cases this)
   obtain ⟨a1, a2⟩ := Zdo Q rs y (j + 1) (nx + (1 + (o.put c nx 0 (nx + 1)).2.length)) hs (fun h i q hq1 h3 h4 => h1 (by rw [h]; cases o.hasOwn <;> rfl) i q hq1 (by omega) (by omega)) (fun h k hk1 hk2 => h2 h k (by omega) (by simp only [List.length_cons]; omega))
   refine ⟨fun s h => ?_, fun b h => ?_⟩
   ·rcases List.mem_cons.1 (show s ∈ SV.ptr nx 0 :: (resV rs y (j + 1) (nx + (1 + (o.put c nx 0 (nx + 1)).2.length))).1 from h) with rfl | h
    ·trivial
    ·exact a1 s h
   ·rcases List.mem_append.1 (show b ∈ (Blk.cells (o.put c nx 0 (nx + 1)).1 :: (o.put c nx 0 (nx + 1)).2) ++ (resV rs y (j + 1) (nx + (1 + (o.put c nx 0 (nx + 1)).2.length))).2 from h) with h | h
    ·rcases List.mem_cons.1 h with rfl | h
     ·exact p1
     ·exact p2 b h
    ·exact a2 b h
theorem Ztt {g : Gh} {w : World} {h : List Blk} {ms : List Nat} {tk : Nat → Option Nat} (hN : ∀ i ∈ ms, i < g.N) (hb : ZrC g w h) (hbA : ∀ b k xs, getB h b = some (.arr k xs) → ∃ cur ty, w.heap[g.β b]? = some (.cells cur ty (0, 0)) ∧ BRep g (.arr k xs) cur.toList) : ∀ (ps : List Pk),
  (anyB Pk.inn ps = true → (∀ i pos, i < ms.length → pos < 50 → tk (tokC i pos) = some (tokC (ms.getD i 0) pos)) ∧ (∀ j, tk (tokP j) = some (tokP j) ∨ 1000 ≤ j) ∧ (tk 1100000000000).isSome = true) →
  ∀ {j nx : Nat} {svs : List SV} {vals : List Value} {x : PT ps} {l : List Nat}, Zcm ps j h svs = some (x, l) → All2 (SRep g) svs vals → j + ps.length ≤ 1000 → (∀ i, i < l.length → nx + i < ms.length ∧ ms.getD (nx + i) 0 = l.getD i 0) →
  All2 (SRep (g.pick ms tk)) (ZbF ps x j nx).1 vals ∧ (ZbF ps x j nx).2.length = l.length ∧
   ∀ i blk, getB (ZbF ps x j nx).2 i = some blk → ∃ cur ty, w.heap[g.β (l.getD i 0)]? = some (.cells cur ty (0, 0)) ∧ BRep (g.pick ms tk) blk cur.toList := by
 intro ps
 induction ps with
 | nil =>
  intro _ j nx svs vals x l he ha _ _
  cases svs with
  | nil => cases he; cases ha; exact ⟨.nil, rfl, fun i blk e => by cases e⟩
  | cons _ _ => cases he
 | cons pk ps ih =>
  intro htk j nx svs vals x l he ha hj hl
  simp only [List.length_cons] at hj
  cases pk with
  | dat k =>
   cases ha with
   | nil => cases he
   | @cons sv v svs vals q ha =>
    obtain ⟨y, e1, he⟩ := Option.bind_eq_some_iff.1 (show (sv.as k).bind (fun x => (Zcm ps (j + 1) h svs).map fun y => ((x, y.1), y.2)) = some (x, l) from he)
    obtain ⟨⟨z, l'⟩, e2, he⟩ := Option.map_eq_some_iff.1 he
    cases he
    obtain ⟨k1, k2, k3⟩ := ih htk e2 ha (by omega) hl
    have hd : DRep g.R k y v := q.as e1
    exact ⟨.cons hd k1, k2, k3⟩
  | own k =>
   cases ha with
   | nil => cases he
   | @cons sv v svs vals q ha =>
    cases sv with
    | own t k' xs =>
     replace he : (match Nat.beq t (tokP j) with | true => (ZbD (a := .slice k') (b := .slice k) xs).bind fun xs => (Zcm ps (j + 1) h svs).map fun y => ((xs, y.1), y.2) | false => none) = some (x, l) := he
     split at he
     ·rename_i hbeq
      obtain rfl := Nat.eq_of_beq_eq_true hbeq
      obtain ⟨xs', e1, he⟩ := Option.bind_eq_some_iff.1 he
      obtain ⟨⟨z, l'⟩, e2, he⟩ := Option.map_eq_some_iff.1 he
      cases he
      obtain ⟨ek, rfl⟩ := Zbr e1
      injection ek with ek
      subst ek
      have htk' := htk rfl
      obtain ⟨k1, k2, k3⟩ := ih (fun _ => htk') e2 ha (by omega) hl
      obtain ⟨c1, c2, c3⟩ : CRep g (.own (tokP j) k' xs) v := q
      have htj : tk (tokP j) = some (tokP j) := by
       rcases htk'.2.1 j with h | h
       ·exact h
       ·omega
      refine ⟨.cons (show CRep (g.pick ms tk) (.own (tokP j) k' xs) v from ⟨c1, ?_, ?_⟩) k1, k2, k3⟩
      ·show v = (match tk (tokP j) with | some u => g.ν u | none => .slice none 0 0); rw [htj]; exact c2
      ·show (match tk (tokP j) with | some u => g.σ u | none => 0) = _; rw [htj]; exact c3
     ·cases he
    | _ => cases he
  | nil =>
   cases ha with
   | nil => cases he
   | @cons sv v svs vals q ha =>
    cases sv with
    | cst c => cases c with
     | pointer a => cases a with
      | some _ => cases he
      | none =>
       obtain ⟨⟨z, l'⟩, e2, he⟩ := Option.map_eq_some_iff.1 (show (Zcm ps (j + 1) h svs).map (fun y => (((), y.1), y.2)) = some (x, l) from he)
       cases he
       obtain ⟨k1, k2, k3⟩ := ih htk e2 ha (by omega) hl
       exact ⟨.cons q k1, k2, k3⟩
     | _ => cases he
    | _ => cases he
  | fn gf =>
   cases ha with
   | nil => cases he
   | @cons sv v svs vals q ha =>
    cases sv with
    | func g' cs => cases cs with
     | cons _ _ => cases he
     | nil =>
      replace he : (match Nat.beq gf g' with | true => (Zcm ps (j + 1) h svs).map fun y => (((), y.1), y.2) | false => none) = some (x, l) := he
      split at he
      ·rename_i hbeq
       obtain rfl := Nat.eq_of_beq_eq_true hbeq
       obtain ⟨⟨z, l'⟩, e2, he⟩ := Option.map_eq_some_iff.1 he
       cases he
       obtain ⟨k1, k2, k3⟩ := ih htk e2 ha (by omega) hl
       obtain ⟨us, ev, hus⟩ := q
       cases hus
       exact ⟨.cons (show SRep (g.pick ms tk) (.func gf []) v from ⟨[], ev, .nil⟩) k1, k2, k3⟩
      ·cases he
    | _ => cases he
  | room k =>
   cases ha with
   | nil => cases he
   | @cons sv v svs vals q ha =>
    cases sv with
    | rm b k' n c =>
     replace he : (match decEq k' k, getB h b with
      | isTrue _, some (.arr k'' xs) => (ZbD (a := .slice k'') (b := .slice k) xs).bind fun xs => (Zcm ps (j + 1) h svs).map fun y => (((xs, n, c), y.1), b :: y.2)
      | _, _ => none) = some (x, l) := he
     split at he
     ·rename_i hk k'' xs e1 e2
      subst hk
      obtain ⟨xs', e3, he⟩ := Option.bind_eq_some_iff.1 he
      obtain ⟨⟨z, l'⟩, e4, he⟩ := Option.map_eq_some_iff.1 he
      cases he
      obtain ⟨ek, rfl⟩ := Zbr e3
      injection ek with ek
      subst ek
      obtain ⟨hv1, hv2, hv3⟩ : v = .slice (some ⟨g.β b, 0, none⟩) n c ∧ b < g.N ∧ n ≤ c ∧ c ≤ maxLen := q
      obtain ⟨cur, ty, hh, hcur⟩ := hbA b _ _ e2
      have h0 := hl 0 (by simp)
      obtain ⟨k1, k2, k3⟩ := ih htk e4 ha (nx := nx + 1) (by omega) (fun i hi => by
       have := hl (i + 1) (by simp; omega)
       rw [show nx + (i + 1) = nx + 1 + i by omega] at this
       exact ⟨this.1, by rw [this.2]; rfl⟩)
      refine ⟨.cons (show SRep (g.pick ms tk) (.rm nx _ n c) v from ⟨?_, ?_, hv3⟩) k1, ?_, fun i blk hi => ?_⟩
      ·rw [hv1]
       show Value.slice (some ⟨g.β b, 0, none⟩) n c = .slice (some ⟨g.β (ms.getD nx 0), 0, none⟩) n c
       rw [show ms.getD nx 0 = b by simpa using h0.2]
      ·show nx < ms.length; simpa using h0.1
      ·show (ZbF ps z (j + 1) (nx + 1)).2.length + 1 = l'.length + 1
       rw [k2]
      ·cases i with
       | zero =>
        obtain rfl := Option.some.inj hi
        exact ⟨cur, ty, by simpa using hh, hcur⟩
       | succ i => exact k3 i blk hi
     ·cases he
    | _ => cases he
  | obj o =>
   cases ha with
   | nil => cases he
   | @cons sv v svs vals q ha =>
    cases sv with
    | ptr b off => cases off with
     | succ _ => cases he
     | zero =>
      replace he : (match getB h b with | some (.cells cs') => (match Nat.ble cs'.length 50 with | true => (o.get h cs' b 0).bind fun x => (Zcm ps (j + 1) h svs).map fun y => ((x.1, y.1), (b :: x.2) ++ y.2) | false => none) | _ => none) = some (x, l) := he
      split at he
      ·rename_i cs' hgb
       split at he
       ·rename_i hle
        obtain ⟨⟨z, lx⟩, e1, he⟩ := Option.bind_eq_some_iff.1 he
        obtain ⟨⟨y, ly⟩, e2, he⟩ := Option.map_eq_some_iff.1 he
        cases he
        dsimp only at hl ⊢
        obtain ⟨hbN, cur, ty, hh, hcur⟩ := hb b cs' hgb
        have h0 := hl 0 (by simp)
        have hx := Zir hN hb o (fun hh => (htk (by show cond o.hasOwn true (anyB Pk.inn ps) = true; rw [hh]; rfl)).1) (fun hh => (htk (by show cond o.hasOwn true (anyB Pk.inn ps) = true; rw [Zfg o hh]; rfl)).2.2) e1 hcur (self' := nx) (nx := nx + 1) (by simpa using h0.1) (by simpa using h0.2) (by have := Nat.le_of_ble_eq_true hle; omega) (fun i hi => by
         have := hl (i + 1) (by simp; omega)
         rw [show nx + (i + 1) = nx + 1 + i by omega] at this
         refine ⟨this.1, ?_⟩
         rw [this.2]
         simp [List.getD_eq_getElem?_getD, List.getElem?_append_left (show i < lx.length from hi)])
        obtain ⟨x1, x2, x3⟩ := hx
        have hy := ih (fun hh => htk (by show cond o.hasOwn true (anyB Pk.inn ps) = true; rw [hh]; cases o.hasOwn <;> rfl)) e2 ha (nx := nx + (1 + (o.put z nx 0 (nx + 1)).2.length)) (by omega) (fun i hi => by
         have := hl (1 + lx.length + i) (by simp; omega)
         rw [x2, show nx + (1 + lx.length) + i = nx + (1 + lx.length + i) by omega]
         refine ⟨this.1, ?_⟩
         rw [this.2, List.getD_eq_getElem?_getD, List.getD_eq_getElem?_getD, show 1 + lx.length + i = (b :: lx).length + i by simp; omega, List.getElem?_append_right (by omega)]
         simp)
        obtain ⟨y1, y2, y3⟩ := hy
        have hv : CRep g (.ptr b 0) v := q
        refine ⟨.cons (show CRep (g.pick ms tk) (.ptr nx 0) v from ⟨?_, ?_⟩) y1, ?_, fun i blk hi => ?_⟩
        ·rw [hv.1]
         show Value.pointer (some ⟨g.β b, 0, none⟩) = .pointer (some ⟨g.β (ms.getD nx 0), 0, none⟩)
         rw [show ms.getD nx 0 = b by simpa using h0.2]
        ·show nx < ms.length; simpa using h0.1
        ·show ((Blk.cells (o.put z nx 0 (nx + 1)).1 :: (o.put z nx 0 (nx + 1)).2) ++ (ZbF ps y (j + 1) (nx + (1 + (o.put z nx 0 (nx + 1)).2.length))).2).length = _
         rw [List.length_append, List.length_append, y2, List.length_cons, List.length_cons, x2]
        ·replace hi : getB ((Blk.cells (o.put z nx 0 (nx + 1)).1 :: (o.put z nx 0 (nx + 1)).2) ++ (ZbF ps y (j + 1) (nx + (1 + (o.put z nx 0 (nx + 1)).2.length))).2) i = some blk := hi
         by_cases hj1 : i < (Blk.cells (o.put z nx 0 (nx + 1)).1 :: (o.put z nx 0 (nx + 1)).2).length
         ·rw [ZbK hj1] at hi
          cases i with
          | zero =>
           obtain rfl := Option.some.inj hi
           exact ⟨cur, ty, by simpa using hh, x1⟩
          | succ i =>
           obtain ⟨cur', ty', k1, k2⟩ := x3 i blk hi
           have hjl : i < lx.length := by simp [x2] at hj1; omega
           refine ⟨cur', ty', ?_, k2⟩
           have : ((b :: lx) ++ ly).getD (i + 1) 0 = lx.getD i 0 := by simp [List.getD_eq_getElem?_getD, List.getElem?_append_left hjl]
           rw [this]; exact k1
         ·obtain ⟨i', rfl⟩ : ∃ i', i = (Blk.cells (o.put z nx 0 (nx + 1)).1 :: (o.put z nx 0 (nx + 1)).2).length + i' := ⟨i - (Blk.cells (o.put z nx 0 (nx + 1)).1 :: (o.put z nx 0 (nx + 1)).2).length, by omega⟩
          rw [ZbJ] at hi
          obtain ⟨cur', ty', k1, k2⟩ := y3 i' blk hi
          refine ⟨cur', ty', ?_, k2⟩
          have : ((b :: lx) ++ ly).getD ((Blk.cells (o.put z nx 0 (nx + 1)).1 :: (o.put z nx 0 (nx + 1)).2).length + i') 0 = ly.getD i' 0 := by
           rw [List.getD_eq_getElem?_getD, List.getD_eq_getElem?_getD, show (Blk.cells (o.put z nx 0 (nx + 1)).1 :: (o.put z nx 0 (nx + 1)).2).length = (b :: lx).length by simp [x2], List.getElem?_append_right (by omega)]
           simp
          rw [this]; exact k1
       ·cases he
      ·cases he
    | _ => cases he
def tkX (lo hi : Nat) (ms : List Nat) (t : Nat) : Option Nat :=
 cond (Nat.beq t 1100000000000) (some t) (cond (Nat.ble 1000 t && Nat.ble t 1099511627775) (cond (Nat.blt ((t - 1000) / 50) ms.length) (some (tokC (ms.getD ((t - 1000) / 50) 0) ((t - 1000) % 50))) none)
  (cond (Nat.ble lo t && Nat.blt t hi) (some t) none))
theorem ZrK {a b : Nat} (h : a ≠ b) : Nat.beq a b = false := by
 cases e : Nat.beq a b with
 | false => rfl
 | true => exact absurd (Nat.eq_of_beq_eq_true e) h
theorem ZeG {a b : Nat} (h : a ≤ b) : Nat.ble a b = true := Nat.ble_eq_true_of_le h
theorem ZfM {a b : Nat} (h : b < a) : Nat.ble a b = false := by
 cases e : Nat.ble a b with
 | false => rfl
 | true => have := Nat.le_of_ble_eq_true e; omega
theorem ZhZ {a b : Nat} (h : a < b) : Nat.blt a b = true := ZeG h
theorem blt_f {a b : Nat} (h : b ≤ a) : Nat.blt a b = false := ZfM (by omega)
theorem ZoF {lo hi : Nat} {ms : List Nat} {i pos : Nat} (hi' : i < ms.length) (hp : pos < 50) (hl : ms.length ≤ 1000000) : tkX lo hi ms (tokC i pos) = some (tokC (ms.getD i 0) pos) := by
 unfold tkX tokC
 have e1 : (1000 + 50 * i + pos - 1000) / 50 = i := by omega
 have e2 : (1000 + 50 * i + pos - 1000) % 50 = pos := by omega
 rw [ZrK (by omega), e1, e2, ZeG (by omega), ZeG (by omega), ZhZ hi']; rfl
theorem Zjb {lo hi : Nat} {ms : List Nat} {t u : Nat} (h : tkX lo hi ms t = some u) : (∃ i pos, i < ms.length ∧ pos < 50 ∧ t = tokC i pos ∧ u = tokC (ms.getD i 0) pos) ∨ (lo ≤ t ∧ t < hi ∧ u = t) ∨ (t = 1100000000000 ∧ u = t) := by
 unfold tkX at h
 cases e0 : Nat.beq t 1100000000000 with
 | true => rw [e0] at h; exact .inr (.inr ⟨Nat.eq_of_beq_eq_true e0, (Option.some.inj h).symm⟩)
 | false =>
 rw [e0] at h
 replace h : cond (Nat.ble 1000 t && Nat.ble t 1099511627775) (cond (Nat.blt ((t - 1000) / 50) ms.length) (some (tokC (ms.getD ((t - 1000) / 50) 0) ((t - 1000) % 50))) none) (cond (Nat.ble lo t && Nat.blt t hi) (some t) none) = some u := h
 cases e : (Nat.ble 1000 t && Nat.ble t 1099511627775) with
 | true =>
  rw [e] at h
  cases e2 : Nat.blt ((t - 1000) / 50) ms.length with
  | false => rw [e2] at h; cases h
  | true =>
   rw [e2] at h
   rw [Bool.and_eq_true] at e
   have h1 := Nat.le_of_ble_eq_true e.1
   have h2 : (t - 1000) / 50 < ms.length := Nat.le_of_ble_eq_true e2
   exact .inl ⟨(t - 1000) / 50, (t - 1000) % 50, h2, Nat.mod_lt _ (by omega), by unfold tokC; omega, (Option.some.inj h).symm⟩
 | false =>
  rw [e] at h
  cases e2 : (Nat.ble lo t && Nat.blt t hi) with
  | false => rw [e2] at h; cases h
  | true =>
   rw [e2] at h
   rw [Bool.and_eq_true] at e2
   exact .inr (.inl ⟨Nat.le_of_ble_eq_true e2.1, Nat.le_of_ble_eq_true e2.2, (Option.some.inj h).symm⟩)
theorem Zrw {lo hi : Nat} {ms : List Nat} (hlo : 1099511627776 ≤ lo) (hms : ∀ i ∈ ms, i < 1000000) (hn : ms.Nodup) {t u v : Nat} (h1 : tkX lo hi ms t = some v) (h2 : tkX lo hi ms u = some v) : t = u := by
 rcases Zjb h1 with ⟨i, p, a1, a2, a3, a4⟩ | ⟨a1, a2, a3⟩ | ⟨a1, a3⟩ <;> rcases Zjb h2 with ⟨j, q, b1, b2, b3, b4⟩ | ⟨b1, b2, b3⟩ | ⟨b1, b3⟩
 ·unfold tokC at a4 b4
  have e : ms.getD i 0 = ms.getD j 0 ∧ p = q := by omega
  have := Zkv hn a1 b1 e.1
  rw [a3, b3, this, e.2]
 ·have := hms _ (Zcw a1)
  unfold tokC at a4
  omega
 ·have := hms _ (Zcw a1)
  unfold tokC at a4
  omega
 ·have := hms _ (Zcw b1)
  unfold tokC at b4
  omega
 ·omega
 ·omega
 ·have := hms _ (Zcw b1)
  unfold tokC at b4
  omega
 ·omega
 ·omega
def Zjo (b : Nat) : List Nat → Nat
 | [] => 0
 | x :: r => cond (Nat.beq b x) 0 (Zjo b r + 1)
theorem ZdC {d : Nat} : ∀ {l : List Nat}, isIn d l = true ↔ d ∈ l
 | [] => by simp [isIn]
 | x :: r => by
  simp only [isIn, List.mem_cons]
  cases e : Nat.beq d x with
  | true => simp [Nat.eq_of_beq_eq_true e]
  | false =>
   have : d ≠ x := fun h => by subst h; simp at e
   simp [this, ZdC (l := r)]
theorem Zcs {b : Nat} : ∀ {l : List Nat}, b ∈ l → Zjo b l < l.length ∧ l.getD (Zjo b l) 0 = b
 | [], h => by cases h
 | x :: r, h => by
  unfold Zjo
  cases e : Nat.beq b x with
  | true => simp [Nat.eq_of_beq_eq_true e]
  | false =>
   have hne : b ≠ x := fun h => by subst h; simp at e
   have := Zcs (l := r) (by simpa [hne] using h)
   simp only [cond_false]
   exact ⟨by simp; exact this.1, by simpa [List.getD_eq_getElem?_getD] using this.2⟩
theorem Zpk {l : List Nat} (hn : l.Nodup) {i : Nat} (hi : i < l.length) : Zjo (l.getD i 0) l = i := by
 obtain ⟨h1, h2⟩ := Zcs (Zcw hi)
 exact Zkv hn h1 hi h2
def tbX (inn out res : Bool) (ms : List Nat) (L d u : Nat) : Option Nat :=
 cond (Nat.ble u 999) none (cond (Nat.ble u 1099511627775)
  (cond (inn && isIn ((u - 1000) / 50) ms) (some (tokC (Zjo ((u - 1000) / 50) ms) ((u - 1000) % 50))) (cond (out && Nat.ble L ((u - 1000) / 50)) (some (tokC (ms.length + ((u - 1000) / 50 - L)) ((u - 1000) % 50))) none))
  (cond (Nat.ble u 2199023255551) (cond inn (some u) none) (cond (res && (Nat.ble (tokD d 0) u && Nat.ble u (tokD d 99))) (some (tokR (u - tokD d 0))) none)))
theorem ZsF {inn out res : Bool} {ms : List Nat} {L d t : Nat} (h : ZfG inn out res ms L d t = false) : tbX inn out res ms L d t = none := by
 unfold ZfG at h
 unfold tbX
 cases e1 : Nat.ble t 999 with
 | true => rfl
 | false =>
  rw [e1] at h
  cases e2 : Nat.ble t 1099511627775 with
  | true =>
   rw [e2] at h
   simp only [cond_false, cond_true, Bool.or_eq_false_iff] at h ⊢
   rw [h.1, h.2]; rfl
  | false =>
   rw [e2] at h
   cases e3 : Nat.ble t 2199023255551 with
   | true => rw [e3] at h; simp only [cond_false, cond_true] at h ⊢; rw [h]; rfl
   | false => rw [e3] at h; simp only [cond_false] at h ⊢; rw [h]; rfl
theorem Zmw {inn out res : Bool} {ms : List Nat} {L d u v : Nat} (h : tbX inn out res ms L d u = some v) :
  (∃ b pos, pos < 50 ∧ u = tokC b pos ∧ u ≤ 1099511627775 ∧ ((inn = true ∧ b ∈ ms ∧ v = tokC (Zjo b ms) pos) ∨ (out = true ∧ L ≤ b ∧ v = tokC (ms.length + (b - L)) pos))) ∨ (1099511627776 ≤ u ∧ u ≤ 2199023255551 ∧ v = u) ∨ (tokD d 0 ≤ u ∧ u ≤ tokD d 99 ∧ v = tokR (u - tokD d 0)) := by
 unfold tbX at h
 cases e1 : Nat.ble u 999 with
 | true => rw [e1] at h; cases h
 | false =>
  rw [e1] at h
  have h1 : 1000 ≤ u := by
   rcases Nat.lt_or_ge u 1000 with h | h
   ·rw [ZeG (by omega)] at e1; cases e1
   ·exact h
  cases e2 : Nat.ble u 1099511627775 with
  | true =>
   rw [e2] at h
   have h2 := Nat.le_of_ble_eq_true e2
   left
   refine ⟨(u - 1000) / 50, (u - 1000) % 50, Nat.mod_lt _ (by omega), by unfold tokC; omega, h2, ?_⟩
   simp only [cond_false, cond_true] at h
   cases e3 : (inn && isIn ((u - 1000) / 50) ms) with
   | true =>
    rw [e3] at h
    rw [Bool.and_eq_true] at e3
    exact .inl ⟨e3.1, ZdC.1 e3.2, (Option.some.inj h).symm⟩
   | false =>
    rw [e3] at h
    simp only [cond_false] at h
    cases e4 : (out && Nat.ble L ((u - 1000) / 50)) with
    | true =>
     rw [e4] at h
     rw [Bool.and_eq_true] at e4
     exact .inr ⟨e4.1, Nat.le_of_ble_eq_true e4.2, (Option.some.inj h).symm⟩
    | false => rw [e4] at h; cases h
  | false =>
   rw [e2] at h
   have h2 : 1099511627776 ≤ u := by
    rcases Nat.lt_or_ge u 1099511627776 with h | h
    ·rw [ZeG (by omega)] at e2; cases e2
    ·exact h
   right
   cases e3 : Nat.ble u 2199023255551 with
   | true =>
    rw [e3] at h
    simp only [cond_false, cond_true] at h
    cases inn with
    | true => exact .inl ⟨h2, Nat.le_of_ble_eq_true e3, (Option.some.inj h).symm⟩
    | false => cases h
   | false =>
    rw [e3] at h
    simp only [cond_false] at h
    cases e4 : (res && (Nat.ble (tokD d 0) u && Nat.ble u (tokD d 99))) with
    | true =>
     rw [e4] at h
     simp only [Bool.and_eq_true] at e4
     exact .inr ⟨Nat.le_of_ble_eq_true e4.2.1, Nat.le_of_ble_eq_true e4.2.2, (Option.some.inj h).symm⟩
    | false => rw [e4] at h; cases h
theorem Zui {inn out res : Bool} {ms : List Nat} {L d : Nat} (hL : (inn || out) = true → L ≤ 1000000 ∧ ms.length ≤ L) (hms : ∀ i ∈ ms, i < L) {t u v : Nat} (h1 : tbX inn out res ms L d t = some v) (h2 : tbX inn out res ms L d u = some v) : t = u := by
 rcases Zmw h1 with ⟨b, p, a1, a2, a3, a4⟩ | ⟨a1, a2, a3⟩ | ⟨a1, a2, a3⟩ <;> rcases Zmw h2 with ⟨c, q, b1, b2, b3, b4⟩ | ⟨b1, b2, b3⟩ | ⟨b1, b2, b3⟩
 ·rcases a4 with ⟨ai, a4, a5⟩ | ⟨ai, a4, a5⟩ <;> rcases b4 with ⟨bi, b4, b5⟩ | ⟨bi, b4, b5⟩ <;> unfold tokC at a5 b5 <;> have hL := hL (by rw [ai]; simp)
  ·obtain ⟨x1, x2⟩ := Zcs a4
   obtain ⟨y1, y2⟩ := Zcs b4
   have e : Zjo b ms = Zjo c ms ∧ p = q := by omega
   have : b = c := by rw [← x2, ← y2, e.1]
   rw [a2, b2, this, e.2]
  ·obtain ⟨x1, x2⟩ := Zcs a4
   omega
  ·obtain ⟨y1, y2⟩ := Zcs b4
   omega
  ·have e : b = c ∧ p = q := by omega
   rw [a2, b2, e.1, e.2]
 ·rcases a4 with ⟨ai, a4, a5⟩ | ⟨ai, a4, a5⟩
  ·obtain ⟨x1, x2⟩ := Zcs a4
   unfold tokC at a5 a2
   have hL := hL (by rw [ai]; simp)
   omega
  ·unfold tokC at a5 a2
   have hL := hL (by rw [ai]; simp)
   omega
 ·rcases a4 with ⟨ai, a4, a5⟩ | ⟨ai, a4, a5⟩
  ·obtain ⟨x1, x2⟩ := Zcs a4
   unfold tokC at a5 a2
   have hL := hL (by rw [ai]; simp)
   unfold tokR at b3
   omega
  ·unfold tokC at a5 a2
   have hL := hL (by rw [ai]; simp)
   unfold tokR at b3
   omega
 ·rcases b4 with ⟨bi, b4, b5⟩ | ⟨bi, b4, b5⟩
  ·obtain ⟨x1, x2⟩ := Zcs b4
   unfold tokC at b5 b2
   have hL := hL (by rw [bi]; simp)
   omega
  ·unfold tokC at b5 b2
   have hL := hL (by rw [bi]; simp)
   omega
 ·omega
 ·unfold tokR at b3; omega
 ·rcases b4 with ⟨bi, b4, b5⟩ | ⟨bi, b4, b5⟩
  ·obtain ⟨x1, x2⟩ := Zcs b4
   unfold tokC at b5 b2
   have hL := hL (by rw [bi]; simp)
   unfold tokR at a3
   omega
  ·unfold tokC at b5 b2
   have hL := hL (by rw [bi]; simp)
   unfold tokR at a3
   omega
 ·unfold tokR at a3; omega
 ·unfold tokR at a3 b3; omega
theorem Zuh {out res : Bool} {ms : List Nat} {L d : Nat} (hL : L ≤ 1000000) (hms : ∀ i ∈ ms, i < L) {t u : Nat} (h : tkX 1099511627776 2199023255552 ms t = some u) : (tbX true out res ms L d u).isSome = true := by
 rcases Zjb h with ⟨i, p, a1, a2, a3, a4⟩ | ⟨a1, a2, a3⟩ | ⟨a1, a3⟩
 ·have hm := Zcw a1
  have := hms _ hm
  unfold tokC at a4
  unfold tbX
  rw [ZfM (by omega), ZeG (by omega), show (u - 1000) / 50 = ms.getD i 0 by omega, ZdC.2 hm]; rfl
 ·unfold tbX
  rw [show Nat.ble u 999 = false from ZfM (by omega), show Nat.ble u 1099511627775 = false from ZfM (by omega), show Nat.ble u 2199023255551 = true from ZeG (by omega)]; rfl
 ·unfold tbX
  rw [show Nat.ble u 999 = false from ZfM (by omega), show Nat.ble u 1099511627775 = false from ZfM (by omega), show Nat.ble u 2199023255551 = true from ZeG (by omega)]; rfl
theorem Ztk {inn out res : Bool} {ms : List Nat} {L d : Nat} : tbX inn out res ms L d 1100000000000 = cond inn (some 1100000000000) none := by
 unfold tbX
 rw [show Nat.ble 1100000000000 999 = false from rfl, show Nat.ble 1100000000000 1099511627775 = false from rfl, show Nat.ble 1100000000000 2199023255551 = true from rfl]; rfl
theorem Zub {ms : List Nat} {L d : Nat} : renT ms L d 1100000000000 = 1100000000000 := rfl
theorem ZsG {out res : Bool} {ms : List Nat} {L d : Nat} (hL : L ≤ 1000000) (hms : ∀ i ∈ ms, i < L) (hn : ms.Nodup) (hlen : ms.length ≤ L) {i pos : Nat} (hi : i < ms.length) (hp : pos < 50) : tbX true out res ms L d (renT ms L d (tokC i pos)) = some (tokC i pos) := by
 have hm := Zcw hi
 have := hms _ hm
 have e : renT ms L d (tokC i pos) = tokC (ms.getD i 0) pos := by
  unfold renT renB
  rw [ZeG (by unfold tokC; omega), show (tokC i pos - 1000) / 50 = i by unfold tokC; omega, show (tokC i pos - 1000) % 50 = pos by unfold tokC; omega, ZhZ hi]; rfl
 rw [e]
 unfold tbX
 rw [ZfM (by unfold tokC; omega), ZeG (by unfold tokC; omega), show (tokC (ms.getD i 0) pos - 1000) / 50 = ms.getD i 0 by unfold tokC; omega, show (tokC (ms.getD i 0) pos - 1000) % 50 = pos by unfold tokC; omega, ZdC.2 hm]
 simp only [cond_false, cond_true, Bool.and_self, Zpk hn hi]
theorem ZsH {inn res : Bool} {ms : List Nat} {L d : Nat} (hL : L ≤ 1000000) (hms : ∀ i ∈ ms, i < L) (hlen : ms.length ≤ L) {k pos : Nat} (hk : k ≤ 1000000) (hp : pos < 50) : tbX inn true res ms L d (renT ms L d (tokC (ms.length + k) pos)) = some (tokC (ms.length + k) pos) := by
 have e : renT ms L d (tokC (ms.length + k) pos) = tokC (L + k) pos := by
  unfold renT renB
  rw [ZeG (by unfold tokC; omega), show (tokC (ms.length + k) pos - 1000) / 50 = ms.length + k by unfold tokC; omega, show (tokC (ms.length + k) pos - 1000) % 50 = pos by unfold tokC; omega, blt_f (by omega)]
  simp only [cond_true, cond_false, Nat.add_sub_cancel_left]
 rw [e]
 unfold tbX
 have hni : isIn (L + k) ms = false := by
  cases e : isIn (L + k) ms with
  | false => rfl
  | true => have := hms _ (ZdC.1 e); omega
 rw [ZfM (by unfold tokC; omega), ZeG (by unfold tokC; omega), show (tokC (L + k) pos - 1000) / 50 = L + k by unfold tokC; omega, show (tokC (L + k) pos - 1000) % 50 = pos by unfold tokC; omega, hni, ZeG (by omega)]
 simp only [cond_false, cond_true, Bool.and_false, Bool.and_self, Nat.add_sub_cancel_left]
theorem ZsI {inn out : Bool} {ms : List Nat} {L d : Nat} {j : Nat} (hj : j ≤ 99) : tbX inn out true ms L d (renT ms L d (tokR j)) = some (tokR j) := by
 have e : renT ms L d (tokR j) = tokD d j := by
  unfold renT
  rw [show Nat.ble (tokR j) 1099511627775 = false from ZfM (by unfold tokR; omega)]
  have : tokR j - tokR 0 = j := by unfold tokR; omega
  rw [this, show Nat.beq (tokR j) 1100000000000 = false from ZrK (by unfold tokR; omega)]; rfl
 rw [e]
 unfold tbX
 rw [show Nat.ble (tokD d j) 999 = false from ZfM (by unfold tokD; omega), show Nat.ble (tokD d j) 1099511627775 = false from ZfM (by unfold tokD; omega), show Nat.ble (tokD d j) 2199023255551 = false from ZfM (by unfold tokD; omega),
  show Nat.ble (tokD d 0) (tokD d j) = true from ZeG (by unfold tokD; omega), show Nat.ble (tokD d j) (tokD d 99) = true from ZeG (by unfold tokD; omega)]
 have : tokD d j - tokD d 0 = j := by unfold tokD; omega
 rw [this]; rfl
theorem Zow {g g' : Gh} {ms : List Nat} {tb : Nat → Option Nat} {e L d : Nat} (hL : L = g.N) (hN : g'.N = ms.length + e) (hβ : ∀ i, i < ms.length → g'.β i = g.β (ms.getD i 0)) (hms : ∀ i ∈ ms, i < g.N) {s : SV} {v : Value}
  (hq : s.tokIn (fun t => tb (renT ms L d t) = some t)) (h : CRep g' s v) : CRep (g.join g' ms tb e) (s.ren ms L d) v := by
 cases s with
 | own t k xs =>
  have hq : tb (renT ms L d t) = some t := hq
  obtain ⟨h1, h2, h3⟩ := h
  refine ⟨h1, ?_, ?_⟩
  ·show v = (match tb (renT ms L d t) with | some u => g'.ν u | none => g.ν (renT ms L d t)); rw [hq]; exact h2
  ·show (match tb (renT ms L d t) with | some u => g'.σ u | none => g.σ (renT ms L d t)) = _; rw [hq]; exact h3
 | ptr b o =>
  obtain ⟨h1, h2⟩ := h
  rw [hN] at h2
  show v = .pointer (some ⟨(g.join g' ms tb e).β (renB ms L b), o, none⟩) ∧ renB ms L b < g.N + e
  have hj : ∀ i, (g.join g' ms tb e).β i = if i < g.N then g.β i else g'.β (ms.length + (i - g.N)) := fun i => rfl
  by_cases hb : b < ms.length
  ·have e1 : renB ms L b = ms.getD b 0 := by unfold renB; rw [ZhZ hb]; rfl
   have := hms _ (Zcw hb)
   rw [e1, hj, if_pos this, ← hβ b hb]
   exact ⟨h1, by omega⟩
  ·have e1 : renB ms L b = L + (b - ms.length) := by unfold renB; rw [blt_f (by omega)]; rfl
   rw [e1, hj, if_neg (by omega), show ms.length + (L + (b - ms.length) - g.N) = b by omega]
   exact ⟨h1, by omega⟩
 | cst c => exact h
 | dat k x => exact h
 | fresh _ _ => exact hq.elim
 | undef => exact h
 | rptr _ _ => exact h
 | tup _ => exact h
 | agg _ => exact h
 | func _ _ => exact h
 | sl _ _ _ => exact h
 | mp _ => exact h
 | rm _ _ _ _ => exact h
 | eptr _ _ _ _ => exact h
 | mq _ _ _ => exact h
 | mo k xs =>
  have hq : tb 1100000000000 = some 1100000000000 := hq
  exact ZdG.mono (g := g') (g' := g.join g' ms tb e) (RO.le_refl _) (by show (match tb 1100000000000 with | some _ => g'.κ | none => g.κ) = _; rw [hq]) h
 | jk _ _ => exact JRep.ext (g := g') (g' := g.join g' ms tb e) (fun _ _ q => Or.inr q) h
 | jp _ => exact h
 | raw _ _ _ => exact h
theorem Zrh {g g' : Gh} {ms : List Nat} {tb : Nat → Option Nat} {e L d : Nat} (hL : L = g.N) (hN : g'.N = ms.length + e) (hβ : ∀ i, i < ms.length → g'.β i = g.β (ms.getD i 0)) (hms : ∀ i ∈ ms, i < g.N) {s : SV} {v : Value}
  (hq : s.tokIn (fun t => tb (renT ms L d t) = some t)) (h : QRep g' s v) : QRep (g.join g' ms tb e) (s.ren ms L d) v := by
 cases s with
 | own t k xs => exact Zow (s := .own t k xs) hL hN hβ hms hq h
 | ptr b o => exact Zow (s := .ptr b o) hL hN hβ hms hq h
 | cst c => exact h
 | dat k x => exact h
 | fresh _ _ => exact hq.elim
 | undef => exact h
 | rptr _ _ => exact h
 | tup _ => exact h
 | agg _ => obtain ⟨vs, e', k⟩ := h; exact ⟨vs, e', k.imp fun _ _ q => q.of (g := g') (g' := g.join g' ms tb e) (RO.le_refl _) (fun _ _ q => Or.inr q)⟩
 | func _ _ => exact h
 | sl _ _ _ => exact h
 | mp _ => exact h
 | rm b k n c =>
  obtain ⟨h1, h2, h3⟩ := h
  obtain ⟨q1, q2⟩ := Zow (s := .ptr b 0) (v := .pointer (some ⟨g'.β b, 0, none⟩)) (tb := tb) (d := d) hL hN hβ hms trivial ⟨rfl, h2⟩
  injection q1 with q1
  injection q1 with q1
  injection q1 with q1
  exact ⟨by rw [h1, q1], q2, h3⟩
 | eptr _ _ _ _ => exact h
 | mq _ _ _ => exact h
 | mo _ _ => exact h
 | jk _ _ => exact JRep.ext (g := g') (g' := g.join g' ms tb e) (fun _ _ q => Or.inr q) h
 | jp _ => exact h
 | raw _ _ _ => exact h
theorem Zrg {g g' : Gh} {ms : List Nat} {tb : Nat → Option Nat} {e L d : Nat} (hL : L = g.N) (hN : g'.N = ms.length + e) (hβ : ∀ i, i < ms.length → g'.β i = g.β (ms.getD i 0)) (hms : ∀ i ∈ ms, i < g.N) {b : Blk} {vs : List Value}
  (hq : b.tokIn (fun t => tb (renT ms L d t) = some t)) (h : BRep g' b vs) : BRep (g.join g' ms tb e) (b.ren ms L d) vs := by
 cases b with
 | arr _ _ => exact h
 | mp _ _ => exact h
 | cells cs =>
  show All2 (fun s v => s = .undef ∨ CRep (g.join g' ms tb e) s v) (cs.map (SV.ren ms L d)) vs
  replace h : All2 (fun s v => s = .undef ∨ CRep g' s v) cs vs := h
  replace hq : ∀ s ∈ cs, s.tokIn (fun t => tb (renT ms L d t) = some t) := hq
  induction h with
  | nil => exact .nil
  | cons q _ ih =>
   refine .cons ?_ (ih fun s hs => hq s (by simp [hs]))
   rcases q with rfl | q
   ·exact .inl rfl
   ·exact .inr (Zow hL hN hβ hms (hq _ (by simp)) q)
theorem Zet {β : Type} : ∀ (rs : List Rk) (x : RT rs) (j nx : Nat) (K : List SV → List Blk → Option β), resC rs x j nx K = K (resV rs x j nx).1 (resV rs x j nx).2
 | [], _, _, _, K => rfl
 | .dat k :: rs, x, j, nx, K => Zet rs x.2 (j + 1) nx _
 | .own k :: rs, x, j, nx, K => Zet rs x.2 (j + 1) nx _
 | .jk k :: rs, x, j, nx, K => Zet rs x.2 (j + 1) nx _
 | .js k :: rs, x, j, nx, K => Zet rs x.2 (j + 1) nx _
 | .rin _ k :: rs, x, j, nx, K => Zet rs x.2 (j + 1) nx _
 | .row k :: rs, x, j, nx, K => Zet rs x.2 (j + 1) (nx + 1) _
 | .ref o :: rs, (none, y), j, nx, K => Zet rs y (j + 1) nx _
 | .ref o :: rs, (some c, y), j, nx, K => Zet rs y (j + 1) _ _
theorem Zed : ∀ (ms : List Nat) (bs h : List Blk), (setL h ms bs).length = h.length
 | [], bs, _ => by cases bs <;> rfl
 | _ :: _, [], _ => rfl
 | m :: ms, b :: bs, h => by show (setL (setB h m b) ms bs).length = _; rw [Zed ms bs, Zcx]
theorem Zec : ∀ (ms : List Nat) (bs h : List Blk) {j : Nat}, j ∉ ms → getB (setL h ms bs) j = getB h j
 | [], bs, _, _, _ => by cases bs <;> rfl
 | _ :: _, [], _, _, _ => rfl
 | m :: ms, b :: bs, h, j, hj => by
  show getB (setL (setB h m b) ms bs) j = _
  simp only [List.mem_cons, not_or] at hj
  rw [Zec ms bs _ hj.2, Zcr hj.1]
theorem ZlM {l : List Blk} {i : Nat} (h : i < l.length) : ∃ b, getB l i = some b := by
 induction l generalizing i with
 | nil => simp at h
 | cons x r ih => cases i with
  | zero => exact ⟨x, rfl⟩
  | succ i => exact ih (by simpa using h)
theorem Zoi {l : List Blk} {i : Nat} {b : Blk} (h : getB l i = some b) : b ∈ l := by
 induction l generalizing i with
 | nil => cases h
 | cons x r ih => cases i with
  | zero => cases h; simp
  | succ i => exact List.mem_cons_of_mem _ (ih h)
theorem Zhf : ∀ (ms : List Nat) (bs h : List Blk), ms.Nodup → bs.length = ms.length → (∀ i ∈ ms, i < h.length) → ∀ {k : Nat}, k < ms.length → getB (setL h ms bs) (ms.getD k 0) = getB bs k
 | [], _, _, _, _, _, k, hk => by simp at hk
 | m :: ms, [], _, _, hl, _, _, _ => by simp at hl
 | m :: ms, b :: bs, h, hn, hl, hm, k, hk => by
  obtain ⟨h1, h2⟩ := List.nodup_cons.1 hn
  show getB (setL (setB h m b) ms bs) _ = _
  cases k with
  | zero =>
   show getB (setL (setB h m b) ms bs) m = some b
   rw [Zec ms bs _ h1]
   obtain ⟨c, hc⟩ := ZlM (hm m (by simp))
   exact ZcB hc
  | succ k =>
   have := Zhf ms bs (setB h m b) h2 (by simpa using hl) (fun i hi => by rw [Zcx]; exact hm i (by simp [hi])) (k := k) (by simpa using hk)
   rw [show (m :: ms).getD (k + 1) 0 = ms.getD k 0 by simp [List.getD_eq_getElem?_getD], this]; rfl
theorem Zfe (f : Blk → Blk) : ∀ (l : List Blk) (i : Nat), getB (l.map f) i = (getB l i).map f
 | [], i => rfl
 | x :: l, 0 => rfl
 | x :: l, i + 1 => Zfe f l i
theorem ZfX : ∀ {l : List Nat}, ZiG l = true → l.Nodup
 | [], _ => List.nodup_nil
 | x :: r, h => by
  unfold ZiG at h
  simp only [Bool.and_eq_true, Bool.not_eq_true'] at h
  exact List.nodup_cons.2 ⟨(fun hm => by rw [ZdC.2 hm] at h; cases h.1), ZfX h.2⟩
end Go.Shal
set_option linter.unusedVariables false
namespace Go.Shal
open Go.RowKit
section
variable {P : Program} {E : Env} {w0 : World} {R0 : RO} {p : Pr}
variable {g : Gh} {s : St} {a : Act} {w : World} {β : Type} {r : β}
theorem Inv.know (h : Inv w0 R0 p g s a w) {d : Nat} {sv : SV} (hv : SRep g sv (a.tmps.getD d undef)) : Inv w0 R0 p g (s.put (some d) sv) a w := by
 refine ⟨h.toMem, h.defers, fun i => ?_, by show _ = (setN s.slots d sv).length; rw [ZeO]; exact h.len⟩
 show SRep g (getN (setN s.slots d sv) i) _
 rw [Zff]
 split
 ·rename_i hd; rw [← hd.1]; exact hv
 ·exact h.slots i
def ZoI (g : Gh) (a : Act) (w : World) (v : Value) : Pl → Prop
 | .slot i => v = a.tmps.getD i undef
 | .cell b i => b < g.N ∧ ∃ cur ty, w.heap[g.β b]? = some (.cells cur ty (0, 0)) ∧ cur[i]? = some v
theorem All2.getN' {g : Gh} {cs : List SV} {vs : List Value} (h : All2 (fun s v => s = SV.undef ∨ CRep g s v) cs vs) (i : Nat) (hne : getN cs i ≠ .undef) : ∃ v, vs[i]? = some v ∧ CRep g (getN cs i) v := by
 induction h generalizing i with
 | nil => exact absurd rfl hne
 | cons q _ ih => cases i with
  | zero => exact ⟨_, rfl, q.resolve_left hne⟩
  | succ i => obtain ⟨v, h1, h2⟩ := ih i hne; exact ⟨v, by simpa using h1, h2⟩
theorem All2.setN' {g : Gh} {cs : List SV} {vs : List Value} (h : All2 (fun s v => s = SV.undef ∨ CRep g s v) cs vs) (i : Nat) {sv : SV} {v : Value} (hi : vs[i]? = some v) (hv : CRep g sv v) : All2 (fun s v => s = SV.undef ∨ CRep g s v) (setN cs i sv) vs := by
 induction h generalizing i with
 | nil => simp at hi
 | cons q r ih => cases i with
  | zero => simp at hi; subst hi; exact .cons (.inr hv) r
  | succ i => exact .cons q (ih i (by simpa using hi))
theorem Inv.atPl (h : Inv w0 R0 p g s a w) (pl : Pl) (hne : s.at pl ≠ .undef) : ∃ v, ZoI g a w v pl ∧ SRep g (s.at pl) v ∧ ((∃ b i, pl = .cell b i) → CRep g (s.at pl) v) := by
 cases pl with
 | slot i => exact ⟨_, rfl, h.slots i, fun ⟨b, i, e⟩ => by cases e⟩
 | cell b i =>
  have hat : s.at (.cell b i) = (match getB s.heap b with | some (.cells cs) => getN cs i | _ => .undef) := rfl
  rw [hat] at hne ⊢
  cases hb : getB s.heap b with
  | none => rw [hb] at hne; exact absurd rfl hne
  | some blk => cases blk with
   | arr _ _ => rw [hb] at hne; exact absurd rfl hne
   | mp _ _ => rw [hb] at hne; exact absurd rfl hne
   | cells cs =>
    rw [hb] at hne
    obtain ⟨cur, ty, h1, h2⟩ := h.blk b _ hb
    obtain ⟨v, h3, h4⟩ := All2.getN' (show All2 _ cs cur.toList from h2) i hne
    exact ⟨v, ⟨h.n ▸ ZbT hb, cur, ty, h1, by simpa using h3⟩, h4.srep, fun _ => h4⟩
theorem Inv.knowAt (h : Inv w0 R0 p g s a w) {pl : Pl} {sv : SV} {v : Value} (hp : ZoI g a w v pl) (hs : SRep g sv v) (hc : (∃ b i, pl = .cell b i) → CRep g sv v) : Inv w0 R0 p g (s.setAt sv pl) a w := by
 cases pl with
 | slot i => obtain rfl : v = _ := hp; exact h.know hs
 | cell b i =>
  show Inv w0 R0 p g (match getB s.heap b with | some (.cells cs) => { s with heap := setB s.heap b (.cells (setN cs i sv)) } | _ => s) a w
  cases hb : getB s.heap b with
  | none => exact h
  | some blk => cases blk with
   | arr _ _ => exact h
   | mp _ _ => exact h
   | cells cs =>
    obtain ⟨hlt, cur, ty, k1, k2⟩ := hp
    have hcc := hc ⟨b, i, rfl⟩
    refine ⟨?_, h.defers, h.slots, h.len⟩
    refine { h.toMem with n := by rw [Zcx]; exact h.n, blk := fun j b' hj => ?_ }
    by_cases hji : j = b
    ·subst hji
     rw [ZcB hb] at hj
     obtain rfl := Option.some.inj hj
     obtain ⟨cur', ty', q1, q2⟩ := h.blk j _ hb
     rw [k1] at q1
     obtain ⟨rfl, rfl, _⟩ : cur = cur' ∧ ty = ty' ∧ True := by injection q1 with q1; injection q1 with q1 q2; exact ⟨q1, q2, trivial⟩
     exact ARep.of ⟨cur, ty, k1, All2.setN' (show All2 _ cs cur.toList from q2) i (by simpa using k2) hcc⟩
    ·rw [Zcr hji] at hj
     exact h.blk j b' hj
theorem SV.one_ok {k : Kd} {sv : SV} {v : Value} {x : k.T} (h : CRep g sv v) (he : sv.one k = some x) (hk : k.agg = false) : CRep g (.dat k x) v := by
 refine ⟨hk, ?_⟩
 have : sv.as k = some x := by
  unfold SV.one at he
  unfold SV.as
  cases sv <;> first | exact he | (cases he; done)
 exact (h.srep.as this).one hk
theorem Inv.shuts : ∀ (l : List (Pl × Kd)) {s s' : St}, Inv w0 R0 p g s a w → s.shuts l = some s' → Inv w0 R0 p g s' a w
 | [], s, s', h, he => by cases he; exact h
 | (i, k) :: l, s, s', h, he => by
  unfold St.shuts at he
  split at he
  ·rename_i x hx
   have hne : s.at i ≠ .undef := fun e => by
    rw [e] at hx
    unfold Pl.as at hx
    split at hx
    ·cases hx
    ·split at hx <;> cases hx
   obtain ⟨v, h1, h2, h3⟩ := h.atPl i hne
   refine Inv.shuts l (h.knowAt (sv := .dat k x) h1 ?_ ?_) he
   ·unfold Pl.as at hx
    split at hx
    ·exact h2.as hx
    ·split at hx
     ·cases hx
     ·rename_i b j hk
      exact (SV.one_ok (h3 ⟨_, _, rfl⟩) hx hk).srep
   ·rintro ⟨b, j, rfl⟩
    unfold Pl.as at hx
    simp only at hx
    split at hx
    ·cases hx
    ·rename_i hk
     exact SV.one_ok (h3 ⟨_, _, rfl⟩) hx hk
  ·cases he
theorem Inv.setTok (h : Inv w0 R0 p g s a w) (t : Nat) (v : Value) (n : Nat) (hn : Zht (g.setTok t v n) p w t) (hinj : ∀ u b, u ≠ t → live g u b → ¬ live (g.setTok t v n) t b) (hfr : ∀ b, (g.φ b ∨ ∃ m, g.ψ b m) → ¬ live (g.setTok t v n) t b) (hmo : ∀ m, g.κ = some m → ¬ live (g.setTok t v n) t m.b) :
  Inv w0 R0 p (g.setTok t v n) (s.scrub t) a w := h.turn (h.toMem.setTok t v n hn hinj hfr hmo) (Zcz g t v n)
theorem Inv.fullTok (h : Inv w0 R0 p g s a w) (t : Nat) {v : Value} (n : Nat) (hv : ∃ a' m, v = .slice a' m m) : Inv w0 R0 p (g.setTok t v n) (s.scrub t) a w := by
 obtain ⟨a', m, rfl⟩ := hv
 have hnl : ∀ b, ¬ live (g.setTok t (.slice a' m m) n) t b := by
  rintro b ⟨n', c', z', e, hlt⟩
  rw [(Gh.setTok_same g t _ _).1] at e
  injection e with _ e1 e2
  omega
 exact h.setTok t _ n (.inl ⟨a', m, (Gh.setTok_same g t _ _).1⟩) (fun u b _ _ => hnl b) (fun b _ => hnl b) (fun m _ => hnl m.b)
theorem ZoI.same {g g' : Gh} {v : Value} {pl : Pl} (hp : ZoI g a w v pl) (hN : g'.N = g.N) (hβ : g'.β = g.β) : ZoI g' a w v pl := by
 cases pl with
 | slot i => exact hp
 | cell b i => obtain ⟨h1, h2⟩ := hp; exact ⟨hN ▸ h1, by rw [hβ]; exact h2⟩
theorem Inv.retag {pl : Pl} {tok : Nat} {k : Kd} {s' : St} (h : Inv w0 R0 p g s a w) (he : s.retag pl tok k = some s') : ∃ g', Inv w0 R0 p g' s' a w := by
 have full : ∀ {g : Gh} {s : St} {xs : List k.T} {v : Value}, Inv w0 R0 p g s a w → ZoI g a w v pl → Rep g.R (.slice k) xs [v] → (∃ a' n, v = .slice a' n n) → ∃ g', Inv w0 R0 p g' ((s.scrub tok).setAt (.own tok k xs) pl) a w := by
  intro g s xs v h hp hr hv
  have : CRep (g.setTok tok v k.size) (.own tok k xs) v := ⟨hr, (Gh.setTok_same g tok _ _).1.symm, (Gh.setTok_same g tok _ _).2⟩
  exact ⟨_, (h.fullTok tok k.size hv).knowAt (sv := .own tok k xs) (hp.same rfl rfl) this (fun _ => this)⟩
 have hne : s.at pl ≠ .undef := fun e => by unfold St.retag at he; rw [e] at he; cases he
 obtain ⟨v, hp, hx, _⟩ := h.atPl pl hne
 unfold St.retag at he
 split at he
 ·rename_i t k' xs hslot
  rw [hslot] at hx
  obtain ⟨h1, h2, h3⟩ : CRep g (.own t k' xs) _ := hx
  split at he
  ·rename_i xs' hc
   obtain ⟨ek, rfl⟩ := Zbr hc
   injection ek with ek
   subst ek
   split at he
   ·cases he; exact ⟨g, h⟩
   ·rename_i hne
    cases he
    have hne : t ≠ tok := fun e => by subst e; simp at hne
    have i1 := h.fullTok tok (v := .slice none 0 0) 0 ⟨none, 0, rfl⟩
    have i2 := i1.fullTok t (v := .slice none 0 0) 0 ⟨none, 0, rfl⟩
    have back : ∀ u b, live ((g.setTok tok (.slice none 0 0) 0).setTok t (.slice none 0 0) 0) u b → u ≠ t ∧ live g u b := by
     rintro u b ⟨n', c', z', e, hlt⟩
     by_cases hu : u = t
     ·subst hu; rw [(Gh.setTok_same _ u _ _).1] at e; cases e
     ·rw [(Gh.setTok_other _ t _ _ hu).1] at e
      by_cases hu' : u = tok
      ·subst hu'; rw [(Gh.setTok_same g u _ _).1] at e; cases e
      ·rw [(Gh.setTok_other g tok _ _ hu').1] at e
       exact ⟨hu, n', c', z', e, hlt⟩
    have fwd : ∀ b, live (((g.setTok tok (.slice none 0 0) 0).setTok t (.slice none 0 0) 0).setTok tok (v) k'.size) tok b → live g t b := by
     rintro b ⟨n', c', z', e, hlt⟩
     rw [(Gh.setTok_same _ tok _ _).1, h2] at e
     exact ⟨n', c', z', e, hlt⟩
    have i3 := i2.setTok tok (v) k'.size (by
     rcases h.tok t with ⟨a', n', e⟩ | ⟨b, n', c, cur, ty, z, e, q1, q2, q3, q4, q5, q6, q7⟩
     ·exact .inl ⟨a', n', by rw [(Gh.setTok_same _ tok _ _).1, h2]; exact e⟩
     ·refine .inr ⟨b, n', c, cur, ty, z, by rw [(Gh.setTok_same _ tok _ _).1, h2]; exact e, q1, q2, q3, ?_, fun o ho => ?_, q6, q7⟩
      ·rw [(Gh.setTok_same _ tok _ _).2, ← h3]; exact q4
      ·rw [(Gh.setTok_same _ tok _ _).2, ← h3] at ho; exact q5 o ho) (fun u b hu hl hl' => by
     obtain ⟨hut, hg⟩ := back u b hl
     exact hut (h.tokInj u t b hg (fwd b hl'))) (fun b hf hl => (h.fr b hf).2.2.2 t (fwd b hl)) (fun m hm hl => (h.mo m hm).nl t (fwd m.b hl))
    have hfin : CRep (((g.setTok tok (.slice none 0 0) 0).setTok t (.slice none 0 0) 0).setTok tok v k'.size) (.own tok k' xs) v := ⟨h1, (Gh.setTok_same _ tok _ _).1.symm, (Gh.setTok_same _ tok _ _).2⟩
    exact ⟨_, i3.knowAt (sv := .own tok k' xs) (hp.same rfl rfl) hfin (fun _ => hfin)⟩
  ·cases he
 ·rename_i k' xs hslot
  rw [hslot] at hx
  obtain ⟨h1, b, n, h2, _⟩ : CRep g (.fresh k' xs) _ := hx
  split at he
  ·rename_i xs' hc
   cases he
   obtain ⟨ek, rfl⟩ := Zbr hc
   injection ek with ek
   subst ek
   exact full h hp h1 ⟨_, n, h2⟩
  ·cases he
 ·rename_i hslot
  rw [hslot] at hx
  cases he
  have hx : v = .slice none 0 0 := hx
  exact full h hp (by rw [hx]; exact ⟨none, 0, rfl, Nat.le_refl _, Nat.zero_le _, .inl rfl⟩) ⟨none, 0, hx⟩
 ·cases he
theorem Inv.retags : ∀ (l : List (Pl × Nat × Kd)) {s s' : St} {g : Gh}, Inv w0 R0 p g s a w → s.retags l = some s' → ∃ g', Inv w0 R0 p g' s' a w
 | [], s, s', g, h, he => by cases he; exact ⟨g, h⟩
 | (i, t, k) :: l, s, s', g, h, he => by
  unfold St.retags at he
  split at he
  ·rename_i s1 h1
   obtain ⟨g1, i1⟩ := h.retag h1
   exact Inv.retags l i1 he
  ·cases he
theorem Inv.prepV : ∀ (ps : List Pk) (j : Nat) (xs : List Operand) {s s' : St} {g : Gh}, Inv w0 R0 p g s a w → Shal.prepV ps j xs s = some s' → ∃ g', Inv w0 R0 p g' s' a w
 | [], j, xs, s, s', g, h, he => by cases he; exact ⟨g, h⟩
 | .dat _ :: ps, j, xs, s, s', g, h, he => by
  cases xs with
  | nil => cases he
  | cons x xs => exact Inv.prepV ps (j + 1) xs h he
 | .nil :: ps, j, xs, s, s', g, h, he => by
  cases xs with
  | nil => cases he
  | cons x xs => exact Inv.prepV ps (j + 1) xs h he
 | .room _ :: ps, j, xs, s, s', g, h, he => by
  cases xs with
  | nil => cases he
  | cons x xs => exact Inv.prepV ps (j + 1) xs h he
 | .fn _ :: ps, j, xs, s, s', g, h, he => by
  cases xs with
  | nil => cases he
  | cons x xs => exact Inv.prepV ps (j + 1) xs h he
 | .own k :: ps, j, xs, s, s', g, h, he => by
  cases xs with
  | nil => cases he
  | cons x xs => cases x with
   | tmp t =>
    replace he : (match s.retag (.slot t) (tokP j) k with | some s => Shal.prepV ps (j + 1) xs s | none => none) = some s' := he
    split at he
    ·rename_i s1 h1
     obtain ⟨g1, i1⟩ := h.retag h1
     exact Inv.prepV ps (j + 1) xs i1 he
    ·cases he
   | _ => cases he
 | .obj o :: ps, j, xs, s, s', g, h, he => by
  cases xs with
  | nil => cases he
  | cons x xs =>
   replace he : (match o.hasOwn with
    | false => Shal.prepV ps (j + 1) xs s
    | true => match s.eval x with
     | .ptr b 0 => match getB s.heap b with
      | some (.cells cs) => match s.retags ((o.owns s.heap cs b 0).map fun q => (.cell q.1 q.2.1, tokC q.1 q.2.1, q.2.2)) with
       | some s => Shal.prepV ps (j + 1) xs s
       | none => none
      | _ => none
     | _ => none) = some s' := he
   split at he
   ·exact Inv.prepV ps (j + 1) xs h he
   ·split at he
    ·split at he
     ·split at he
      ·rename_i s1 h1
       obtain ⟨g1, i1⟩ := Inv.retags _ h h1
       exact Inv.prepV ps (j + 1) xs i1 he
      ·cases he
     ·cases he
    ·cases he
end
end Go.Shal
set_option linter.unusedVariables false
namespace Go.Shal
open Go.RowKit
def RRep (R : RO) (rs : List Kd) (x : (Kd.struct rs).T) (v : Value) : Prop :=
 match rs, x with
 | [k], (x, _) => DRep R k x v
 | rs, x => ∃ vs, v = .tuple vs.toArray ∧ TRep R rs x vs
def GOk (G : ZhW) (R : RO) : Prop := ∀ b q, look G b = some q → ∃ cs, Rep R q.k q.x cs ∧ ∀ (j : Nat) c, cs[j]? = some c → R b (0 + j) = some c
theorem GOk.mono {G : ZhW} {R R' : RO} (h : GOk G R) (hR : R.le R') : GOk G R' := fun b q hq => let ⟨cs, h1, h2⟩ := h b q hq; ⟨cs, h1.mono hR, fun j c hc => hR _ _ _ (h2 j c hc)⟩
def Zbi (P : Program) (G : ZhW) (f : FuncId) (C : Con) : Prop :=
 ∀ n x r, C.f n x = some r → ∀ (w : World) (R : RO) (vs : List Value), GOk G R → (∀ b o v, R b o = some v → w.cell? ⟨b, o, none⟩ = some v) → TRep R C.ps x vs →
  Calls P f vs.toArray w fun e w' => ∃ (R' : RO) (v : Value), e = .returned v ∧ R.le R' ∧ (∀ b o, b < w.heap.size → R' b o = R b o) ∧ (∀ b o v, R' b o = some v → w'.cell? ⟨b, o, none⟩ = some v) ∧
   RRep R' C.rs r v ∧ Below w.heap.size w w'
def ZrE (g : Gh) : List SV → Value → Prop
 | [s], v => QRep g s v
 | l, v => ∃ vs, v = .tuple vs.toArray ∧ All2 (QRep g) l vs
def ZbP (P : Program) (G : ZhW) (f : FuncId) (C : OCon) : Prop :=
 ∀ n x r, C.f n x = some r → ∀ (w0 : World) (R0 : RO) (p : Pr) (g : Gh) (w : World) (vs : List Value), GOk G R0 → p.M = (ZbF C.ps x 0 0).2.length → Mem w0 R0 p g (ZbF C.ps x 0 0).2 w → All2 (SRep g) (ZbF C.ps x 0 0).1 vs →
  Calls P f vs.toArray w fun e w' => ∃ (g' : Gh) (v : Value), e = .returned v ∧ Mem w0 R0 p g' (endB C.ps r.2 0 ++ (resV C.rs r.1 0 (ZbF C.ps x 0 0).2.length).2) w' ∧ ZrE g' (resV C.rs r.1 0 (ZbF C.ps x 0 0).2.length).1 v
def FnOk (P : Program) (f : FuncId) : Prop := ∃ fn, P.funcs[f]? = some fn ∧ fn.body.isSome = true ∧ (fn.name == "runtime.NumGoroutine") = false
def ZrD (P : Program) (f : FuncId) (C : Con) : Prop := ∃ fn e, P.funcs[f]? = some fn ∧ (fn.name == "runtime.NumGoroutine") = false ∧ fn.body.isNone = true ∧ Extern.findNext fn = none ∧ Extern.find fn = some e ∧
 ∀ n x r, C.f n x = some r → ∀ (R : RO) (vs : List Value) (w : World), TRep R C.ps x vs → ∃ v, (e vs.toArray).run P w = .ok v w ∧ RRep R C.rs r v
structure EnvOk (P : Program) (E : Env) : Prop extends EnvTy P E where
 con : ∀ f C, look E.cons f = some C → (Zbi P E.globs f C ∧ FnOk P f) ∨ ZrD P f C
 obj : ∀ f Cs, look E.objs f = some Cs → (∀ C ∈ Cs, ZbP P E.globs f C) ∧ FnOk P f
 mixed : P.follows .mixedOrders = true
 norm : ∀ {k nm}, look E.loops k = some nm ∨ look E.cuts k = some nm → E.base ≤ nm.into.floor ∧ ∀ t c, look nm.outs t = some c → E.base ≤ c.floor
structure ZdW (P : Program) (E : Env) (R0 : RO) (p : Pr) : Prop extends EnvOk P E where
 glob : GOk E.globs R0
 base : p.M ≤ E.base
theorem ZdW.normAt {P : Program} {E : Env} {R0 : RO} {p : Pr} (h : ZdW P E R0 p) {k nm} (hk : look E.loops k = some nm ∨ look E.cuts k = some nm) : p.M ≤ nm.into.floor ∧ ∀ t c, look nm.outs t = some c → p.M ≤ c.floor :=
 let ⟨h1, h2⟩ := h.toEnvOk.norm hk
 ⟨Nat.le_trans h.base h1, fun t c hc => Nat.le_trans h.base (h2 t c hc)⟩
theorem SRep.asR {E : Env} {R0 : RO} {g : Gh} (hG : GOk E.globs R0) (hR : R0.le g.R) {sv : SV} {v : Value} (h : SRep g sv v) : SRep g (E.asR sv) v := by
 unfold Env.asR
 split
 ·rename_i b
  split
  ·rename_i q hq
   obtain ⟨cs, h1, h2⟩ := hG.mono hR b q hq
   exact ⟨b, 0, cs, h, h1, h2⟩
  ·exact h
 ·rename_i k x
  obtain ⟨b, o, c, e, h1, h2⟩ := DRep.one (k := .rp k) rfl h
  simp only [List.cons.injEq, and_true] at e
  exact ⟨b, o, c, e, h1, h2⟩
 ·exact h
section
variable {P : Program} {E : Env} {w0 : World} {R0 : RO} {p : Pr}
variable {g : Gh} {s : St} {a : Act} {w : World}
theorem ZrW {β : Type} (v : SV) (K : SV → β) : v.force K = K v := by cases v <;> rfl
theorem ZmU {β : Type} : ∀ (l : List SV) (K : List SV → β), Zim l K = K l
 | [], K => rfl
 | v :: r, K => by show v.force (fun v => Zim r fun r => K (v :: r)) = _; rw [ZrW, ZmU r]
theorem Zqs {β : Type} (b : Blk) (K : Blk → β) : b.force K = K b := by
 cases b with
 | cells cs => show Zim cs _ = _; rw [ZmU]
 | arr _ _ => rfl
 | mp _ _ => rfl
theorem Zqr {β : Type} : ∀ (l : List Blk) (K : List Blk → β), ZlJ l K = K l
 | [], K => rfl
 | v :: r, K => by show v.force (fun v => ZlJ r fun r => K (v :: r)) = _; rw [Zqs, Zqr r]
theorem Zbn {β : Type} (s : St) (K : St → β) : s.force K = K s := by
 show Zim s.slots (fun l => ZlJ s.heap fun h => K ⟨l, h⟩) = _
 rw [ZmU, Zqr]
theorem Zlo (h : Inv w0 R0 p g s a w) : ∀ (ks : List Kd) (ops : List Operand) (x : (Kd.struct ks).T), ZfI ks (ops.map s.eval) = some x → TRep g.R ks x (ops.map a.eval)
 | [], [], x, _ => rfl
 | [], _ :: _, x, he => by cases he
 | _ :: _, [], x, he => by cases he
 | k :: ks, o :: ops, x, he => by
  obtain ⟨y, e1, he⟩ := Option.bind_eq_some_iff.1 (show ((s.eval o).as k).bind (fun x => (ZfI ks (ops.map s.eval)).bind fun y => some (x, y)) = some x from he)
  obtain ⟨z, e2, he⟩ := Option.bind_eq_some_iff.1 he
  cases he
  exact ⟨a.eval o, ops.map a.eval, rfl, (h.eval o).as e1, Zlo h ks ops z e2⟩
theorem Mem.called {h : List Blk} (m : Mem w0 R0 p g h w) {R' : RO} {w' : World} (h1 : g.R.le R') (h2 : ∀ b o, b < w.heap.size → R' b o = g.R b o) (h3 : ∀ b o v, R' b o = some v → w'.cell? ⟨b, o, none⟩ = some v) (h4 : Below w.heap.size w w') :
  Mem w0 R0 p { g with R := R' } h w' ∧ g.ext { g with R := R' } := by
 have hext : g.ext { g with R := R' } := ⟨h1, fun _ _ => rfl, Nat.le_refl _, rfl, rfl, fun _ h => h, fun _ _ h => h, rfl⟩
 refine ⟨?_, hext⟩
 constructor
 ·exact m.n
 ·exact h3
 ·intro i b hi
  rw [show ({ g with R := R' } : Gh).β i = g.β i from rfl, h4.block _ (m.blkLt i (m.n ▸ ZbT hi))]
  exact (m.blk i b hi).ext hext
 ·intro i hi o
  show R' (g.β i) o = none
  rw [h2 _ _ (m.blkLt i hi)]; exact m.sepB i hi o
 ·exact m.inj
 ·intro t
  rcases m.tok t with ⟨a, n, e⟩ | ⟨b, n, c, cur, ty, z, e, k1, k2, k3, k4, k5, k6, k7⟩
  ·exact .inl ⟨a, n, e⟩
  ·have hb := ZaV k3
   exact .inr ⟨b, n, c, cur, ty, z, e, k1, k2, by rw [h4.block _ hb]; exact k3, k4, fun o ho => by show R' b o = none; rw [h2 _ _ hb]; exact k5 o ho, k6, k7⟩
 ·exact m.tokInj
 ·exact m.np
 ·intro b hf
  obtain ⟨k1, k2⟩ := m.fr b hf
  exact ⟨Nat.lt_of_lt_of_le k1 h4.size, k2⟩
 ·intro b hp; exact ⟨(m.old b hp).1, by rw [h4.block _ (m.pLt hp)]; exact (m.old b hp).2⟩
 ·intro b o hp
  show R' b o = _
  rw [h2 _ _ (m.pLt hp)]; exact m.oldR b o hp
 ·exact RO.le_trans m.leR h1
 ·exact Nat.le_trans m.size h4.size
 ·rw [h4.os]; exact m.os
 ·rw [h4.tape]; exact m.tape
 ·rw [h4.output]; exact m.output
 ·exact m.keep
 ·intro b' n hf
  obtain ⟨⟨cu, t', k1, hs⟩, k3, k6⟩ := m.jk b' n hf
  have hlt := ZaV k1
  exact ⟨⟨cu, t', by rw [h4.block _ hlt]; exact k1, hs⟩, fun o => by show R' b' o = none; rw [h2 _ _ hlt]; exact k3 o, k6⟩
 ·intro q hq
  have k := m.mo q hq
  have hlt := m.moLt hq
  exact k.mono (h4.block _ hlt) (fun o => by show R' q.b o = none; rw [h2 _ _ hlt]; exact k.R o) k.β k.np k.nl k.nφ k.nψ
theorem ZhN (h : Inv w0 R0 p g s a w) {d : Option Nat} : ∀ {rs : List Kd} {x : (Kd.struct rs).T} {v : Value}, RRep g.R rs x v → Inv w0 R0 p g (Zfm d s rs x) (a.put d v) w
 | [], x, v, hr => h.put (sv := .tup []) (by obtain ⟨vs, e, k⟩ := hr; exact ⟨vs, e, k.parts⟩) d
 | [k], x, v, hr => h.put (sv := .dat k x.1) hr d
 | k :: k' :: ks, x, v, hr => h.put (sv := .tup (ZeW (k :: k' :: ks) x)) (by obtain ⟨vs, e, k⟩ := hr; exact ⟨vs, e, k.parts⟩) d
theorem Zfp {f : FuncId} {fn : Func} (hf : P.funcs[f]? = some fn) (hb : fn.body.isSome = true) (hn : (fn.name == "runtime.NumGoroutine") = false) (args : Array Value) (w : World) : (callFunc f args).run P w = .ok (.enter f args) w := by
 have hnone : fn.body.isNone = false := by
  cases e : fn.body with
  | none => rw [e] at hb; cases hb
  | some _ => rfl
 unfold callFunc
 simp only [Sem.run_bind, run_program, Result.andThen_ok, hf]
 simp only [hn, Bool.false_eq_true, if_false, hnone]
 rfl
theorem Zqa (hE : ZdW P E R0 p) (h : Inv w0 R0 p g s a w) {o : Oper} {c : Call} (ho : o.op = .call c) {f : Operand} (hc : c.callee = .value f) {fid : FuncId} (hv : s.eval f = .func fid []) {C : Con} (hC : look E.cons fid = some C)
  {x : (Kd.struct C.ps).T} (hx : ZfI C.ps (c.args.toList.map s.eval) = some x) {n : Nat} {r : (Kd.struct C.rs).T} (hr : C.f n x = some r) : Goes P o a w (Then w0 R0 p (Zfm o.dst s C.rs r)) := by
 have hargs := Zlo h C.ps c.args.toList x hx
 have hval : a.eval f = .func (.func fid) #[] #[] := by
  have := h.eval f
  rw [hv] at this
  obtain ⟨vs, e, hn⟩ := this
  cases hn
  exact e
 have e : c.args.map a.eval = (c.args.toList.map a.eval).toArray := by
  apply Array.ext'
  simp
 rcases hE.con fid C hC with ⟨hs, fn, h1, h2, h3⟩ | ⟨fn, ex, h1, h2, h3, h4, h5, h6⟩
 rotate_left
 ·obtain ⟨v, hr1, hr2⟩ := h6 n x r hr g.R _ w hargs
  refine Goes.value (v := v) (w' := w) ?_ ⟨g, ZhN h hr2⟩
  unfold execOp
  simp only [ho]
  rw [Sem.run_bind]
  unfold resolve
  simp only [hc, hval, Deferred.ofValue, Sem.run_pure, Result.andThen_ok, Array.empty_append]
  unfold invoke
  simp only [Array.append_empty]
  rw [run_callFunc_extern h1 h2 h3 h4 h5, e, hr1]; rfl
 have hcall := hs n x r hr w g.R _ (hE.glob.mono h.leR) h.ro hargs
 have hrun : (execOp a.eval o).run P w = .ok (.enter fid (c.args.map a.eval)) w := by
  unfold execOp
  simp only [ho]
  rw [Sem.run_bind]
  unfold resolve
  simp only [hc, hval, Deferred.ofValue, Sem.run_pure, Result.andThen_ok, Array.empty_append]
  unfold invoke
  simp only [Array.append_empty]
  rw [Zfp h1 h2 h3]
 intro next Q hn
 unfold Oper.wp
 rw [hrun]
 show Calls P fid (c.args.map a.eval) w _
 rw [e]
 refine hcall.mono fun e w' ⟨R', v, he, k1, k2, k3, k4, k5⟩ => ?_
 subst he
 obtain ⟨m, hext⟩ := h.toMem.called k1 k2 k3 k5
 exact hn _ _ ⟨_, ZhN (h.ext m hext) k4⟩
end
end Go.Shal
set_option linter.unusedVariables false
namespace Go.Shal
open Go.RowKit
theorem Zqx {h : List Blk} : ∀ (o : Ob) {cs : List SV} {self pos : Nat} {c : o.T} {l : List Nat}, o.get h cs self pos = some (c, l) → ∀ i ∈ l, i < h.length := by
 intro o
 induction o with
 | nil =>
  intro cs self pos c l he i hi
  cases cs with
  | nil => cases he; cases hi
  | cons _ _ => cases he
 | dat k r ih =>
  intro cs self pos c l he
  obtain ⟨⟨x, rest⟩, e1, he⟩ := Option.bind_eq_some_iff.1 he
  obtain ⟨⟨y, l'⟩, e2, he⟩ := Option.map_eq_some_iff.1 he
  cases he
  exact ih e2
 | own k r ih =>
  intro cs self pos c l he
  cases cs with
  | nil => cases he
  | cons sv cs => cases sv with
   | own t k' xs =>
    replace he : (match Nat.beq t (tokC self pos) with | true => (ZbD (a := .slice k') (b := .slice k) xs).bind fun xs => (r.get h cs self (pos + 1)).map fun y => ((xs, y.1), y.2) | false => none) = some (c, l) := he
    split at he
    ·obtain ⟨xs', e1, he⟩ := Option.bind_eq_some_iff.1 he
     obtain ⟨⟨y, l'⟩, e2, he⟩ := Option.map_eq_some_iff.1 he
     cases he
     exact ih e2
    ·cases he
   | _ => cases he
 | mo k r ih =>
  intro cs self pos c l he
  cases cs with
  | nil => cases he
  | cons sv cs => cases sv with
   | mo k' xs =>
    replace he : ((ZbD (a := .slice k') (b := .slice k) xs).bind fun xs => (r.get h cs self (pos + 1)).map fun y => ((xs, y.1), y.2)) = some (c, l) := he
    obtain ⟨xs', e1, he⟩ := Option.bind_eq_some_iff.1 he
    obtain ⟨⟨y, l'⟩, e2, he⟩ := Option.map_eq_some_iff.1 he
    cases he
    exact ih e2
   | cst u =>
    replace he : (match (SV.cst u :: cs) with
     | .mo k' xs :: cs => (ZbD (a := .slice k') (b := .slice k) xs).bind fun xs => (r.get h cs self (pos + 1)).map fun y => ((xs, y.1), y.2)
     | .cst (.slice none 0 0) :: cs => (r.get h cs self (pos + 1)).map fun y => (([], y.1), y.2)
     | _ => none) = some (c, l) := he
    split at he
    ·rename_i hh; cases hh
    ·rename_i hh
     cases hh
     obtain ⟨⟨y, l'⟩, e2, he⟩ := Option.map_eq_some_iff.1 he
     cases he
     exact ih e2
    ·cases he
   | _ => cases he
 | ref o r iho ihr =>
  intro cs self pos c l he
  cases cs with
  | nil => cases he
  | cons sv cs => cases sv with
   | ptr b off => cases off with
    | succ _ => cases he
    | zero =>
     replace he : (match getB h b with | some (.cells cs') => (match Nat.ble cs'.length 50 with | true => (o.get h cs' b 0).bind fun x => (r.get h cs self (pos + 1)).map fun y => ((x.1, y.1), (b :: x.2) ++ y.2) | false => none) | _ => none) = some (c, l) := he
     split at he
     ·rename_i cs' hgb
      split at he
      ·obtain ⟨⟨x, lx⟩, e1, he⟩ := Option.bind_eq_some_iff.1 he
       obtain ⟨⟨y, ly⟩, e2, he⟩ := Option.map_eq_some_iff.1 he
       cases he
       intro i hi
       rcases List.mem_append.1 hi with hi | hi
       ·rcases List.mem_cons.1 hi with rfl | hi
        ·exact ZbT hgb
        ·exact iho e1 i hi
       ·exact ihr e2 i hi
      ·cases he
     ·cases he
   | _ => cases he
theorem ZpN {h : List Blk} : ∀ (ps : List Pk) {j : Nat} {svs : List SV} {x : PT ps} {l : List Nat}, Zcm ps j h svs = some (x, l) → ∀ i ∈ l, i < h.length := by
 intro ps
 induction ps with
 | nil =>
  intro j svs x l he i hi
  cases svs with
  | nil => cases he; cases hi
  | cons _ _ => cases he
 | cons pk ps ih =>
  intro j svs x l he
  cases svs with
  | nil => cases pk <;> cases he
  | cons sv svs =>
   cases pk with
   | dat k =>
    obtain ⟨y, e1, he⟩ := Option.bind_eq_some_iff.1 (show (sv.as k).bind (fun x => (Zcm ps (j + 1) h svs).map fun y => ((x, y.1), y.2)) = some (x, l) from he)
    obtain ⟨⟨z, l'⟩, e2, he⟩ := Option.map_eq_some_iff.1 he
    cases he
    exact ih e2
   | own k =>
    cases sv with
    | own t k' xs =>
     replace he : (match Nat.beq t (tokP j) with | true => (ZbD (a := .slice k') (b := .slice k) xs).bind fun xs => (Zcm ps (j + 1) h svs).map fun y => ((xs, y.1), y.2) | false => none) = some (x, l) := he
     split at he
     ·obtain ⟨xs', e1, he⟩ := Option.bind_eq_some_iff.1 he
      obtain ⟨⟨z, l'⟩, e2, he⟩ := Option.map_eq_some_iff.1 he
      cases he
      exact ih e2
     ·cases he
    | _ => cases he
   | nil =>
    cases sv with
    | cst c => cases c with
     | pointer a => cases a with
      | some _ => cases he
      | none =>
       obtain ⟨⟨z, l'⟩, e2, he⟩ := Option.map_eq_some_iff.1 (show (Zcm ps (j + 1) h svs).map (fun y => (((), y.1), y.2)) = some (x, l) from he)
       cases he
       exact ih e2
     | _ => cases he
    | _ => cases he
   | fn gf =>
    cases sv with
    | func g' cs => cases cs with
     | cons _ _ => cases he
     | nil =>
      replace he : (match Nat.beq gf g' with | true => (Zcm ps (j + 1) h svs).map fun y => (((), y.1), y.2) | false => none) = some (x, l) := he
      split at he
      ·obtain ⟨⟨z, l'⟩, e2, he⟩ := Option.map_eq_some_iff.1 he
       cases he
       exact ih e2
      ·cases he
    | _ => cases he
   | room k =>
    cases sv with
    | rm b k' n c =>
     replace he : (match decEq k' k, getB h b with
      | isTrue _, some (.arr k'' xs) => (ZbD (a := .slice k'') (b := .slice k) xs).bind fun xs => (Zcm ps (j + 1) h svs).map fun y => (((xs, n, c), y.1), b :: y.2)
      | _, _ => none) = some (x, l) := he
     split at he
     ·rename_i hk k'' xs e1 hgb
      obtain ⟨xs', e3, he⟩ := Option.bind_eq_some_iff.1 he
      obtain ⟨⟨z, l'⟩, e4, he⟩ := Option.map_eq_some_iff.1 he
      cases he
      intro i hi
      rcases List.mem_cons.1 hi with rfl | hi
      ·exact ZbT hgb
      ·exact ih e4 i hi
     ·cases he
    | _ => cases he
   | obj o =>
    cases sv with
    | ptr b off => cases off with
     | succ _ => cases he
     | zero =>
      replace he : (match getB h b with | some (.cells cs') => (match Nat.ble cs'.length 50 with | true => (o.get h cs' b 0).bind fun x => (Zcm ps (j + 1) h svs).map fun y => ((x.1, y.1), (b :: x.2) ++ y.2) | false => none) | _ => none) = some (x, l) := he
      split at he
      ·rename_i cs' hgb
       split at he
       ·obtain ⟨⟨z, lx⟩, e1, he⟩ := Option.bind_eq_some_iff.1 he
        obtain ⟨⟨y, ly⟩, e2, he⟩ := Option.map_eq_some_iff.1 he
        cases he
        intro i hi
        rcases List.mem_append.1 hi with hi | hi
        ·rcases List.mem_cons.1 hi with rfl | hi
         ·exact ZbT hgb
         ·exact Zqx o e1 i hi
        ·exact ih e2 i hi
       ·cases he
      ·cases he
    | _ => cases he
section
variable {P : Program} {E : Env} {w0 : World} {R0 : RO} {p : Pr}
variable {g : Gh} {s : St} {a : Act} {w : World}
theorem Mem.blkAt {h : List Blk} (m : Mem w0 R0 p g h w) : ZrC g w h := fun b cs hb => ⟨m.n ▸ ZbT hb, let ⟨cur, ty, h1, h2⟩ := m.blk b _ hb; ⟨cur, ty, h1, h2⟩⟩
theorem Mem.keptBlk {h : List Blk} (m : Mem w0 R0 p g h w) {ms : List Nat} {tk : Nat → Option Nat} (hms : ∀ i ∈ ms, i < g.N) {i : Nat} (hi : i < g.N) (hni : i ∉ ms) : kept g w ms tk (g.β i) :=
 ⟨m.blkLt i hi, fun j hj e => hni (by rw [← m.inj j i (hms j hj) hi e]; exact hj), fun t u ht ⟨n, c, z, e, hlt⟩ => by
  rcases m.tok u with ⟨a, k, e'⟩ | ⟨b', n', c', cur, ty, z, e', q1, q2, q3, q4, q5, q6, q7⟩
  ·rw [e] at e'; injection e' with _ x y; omega
  ·rw [e] at e'; injection e' with x _ _; injection x with x; injection x with x; subst x; exact q6 i hi rfl, fun _ q hq e => (m.mo q hq).β i hi e.symm⟩
theorem ZgH {C : OCon} {args : List Operand} {q : Zer} (h : Zkj C args s = some q) : ∃ s' x ms, q = ⟨C, s', x, ms⟩ ∧ Shal.prepV C.ps 0 args s = some s' ∧ Zcm C.ps 0 s'.heap (args.map s'.eval) = some (x, ms) ∧ ms.Nodup ∧ C.small = true ∧ ((C.inn || C.out) = true → s'.heap.length < 1000000 ∧ ms.length ≤ s'.heap.length) := by
 unfold Zkj at h
 split at h
 ·cases h
 ·rename_i s' hp
  split at h
  ·cases h
  ·rename_i x ms ha
   split at h
   ·rename_i hc
    simp only [Bool.and_eq_true] at hc
    cases h
    refine ⟨s', x, ms, rfl, hp, ha, ZfX hc.1, hc.2.1, fun hio => ?_⟩
    have := hc.2.2
    rw [hio] at this
    simp only [Bool.not_true, Bool.false_or, Bool.and_eq_true] at this
    exact ⟨Nat.le_of_ble_eq_true this.1, Nat.le_of_ble_eq_true this.2⟩
   ·cases h
theorem ZgS : ∀ {Cs : List OCon} {args : List Operand} {q : Zer}, ZeZ Cs args s = some q → ∃ C ∈ Cs, Zkj C args s = some q
 | [], _, _, h => by cases h
 | C :: r, args, q, h => by
  unfold ZeZ at h
  split at h
  ·exact ⟨C, by simp, h⟩
  ·obtain ⟨C', h1, h2⟩ := ZgS h
   exact ⟨C', by simp [h1], h2⟩
theorem Zhl {o : Oper} {Cs : List OCon} {args : Array Operand} (h : Zch E o = some (Cs, args)) : ∃ c f, o.op = .call c ∧ c.callee = .value (.func f) ∧ look E.objs f = some Cs ∧ args = c.args := by
 unfold Zch at h
 split at h
 ·rename_i c hc
  split at h
  ·rename_i f hf
   split at h
   ·rename_i Cs' hl
    cases h
    exact ⟨c, f, hc, hf, hl, rfl⟩
   ·cases h
  ·cases h
 ·cases h
theorem ZlH (h : Inv w0 R0 p g s a w) : ∀ (xs : List Operand), All2 (SRep g) (xs.map s.eval) (xs.map a.eval)
 | [] => .nil
 | x :: xs => .cons (h.eval x) (ZlH h xs)
theorem ZqG {ms : List Nat} {n d t : Nat} : ZfG false false false ms n d t = false := by
 unfold ZfG
 cases Nat.ble t 999 <;> cases Nat.ble t 1099511627775 <;> cases Nat.ble t 2199023255551 <;> rfl
theorem Ziq (f : SV → SV) : ∀ (l : List SV) (i : Nat), f .undef = .undef → getN (l.map f) i = f (getN l i)
 | [], _, h => h.symm
 | x :: l, 0, _ => rfl
 | x :: l, i + 1, h => Ziq f l i h
def tkC (C : OCon) (ms : List Nat) : Nat → Option Nat := cond C.inn (tkX 1099511627776 2199023255552 ms) (fun _ => none)
theorem ZoR (hE : ZdW P E R0 p) (h : Inv w0 R0 p g s a w) {o : Oper} {Cs : List OCon} {args : Array Operand} (hoc : Zch E o = some (Cs, args)) {q : Zer} (hq : ZeZ Cs args.toList s = some q)
  {n : Nat} {y : RT q.C.rs × BT q.C.ps} (hy : q.C.f n q.x = some y) : Goes P o a w (Then w0 R0 p (q.state o.dst y.2 (resV q.C.rs y.1 0 q.ms.length).1 (resV q.C.rs y.1 0 q.ms.length).2)) := by
 obtain ⟨c, f, ho, hc, hl, rfl⟩ := Zhl hoc
 obtain ⟨C, hC, hcv⟩ := ZgS hq
 obtain ⟨s', x, ms, rfl, hprep, hargs, hnd, hsm, hLL⟩ := ZgH hcv
 obtain ⟨hSs, fn, hf1, hf2, hf3⟩ := hE.obj f Cs hl
 have hS := hSs C hC
 obtain ⟨g1, i1⟩ := h.prepV C.ps 0 _ hprep
 have hNL : g1.N = s'.heap.length := i1.n
 have hms : ∀ i ∈ ms, i < g1.N := fun i hi => by rw [hNL]; exact ZpN C.ps hargs i hi
 have hms6 : (C.inn || C.out) = true → ∀ i ∈ ms, i < 1000000 := fun h i hi => by have := hms i hi; have := hLL h; omega
 unfold OCon.small at hsm
 simp only [Bool.and_eq_true] at hsm
 obtain ⟨hsp, hsr, hsl, hpl⟩ := hsm
 have hsl := Nat.le_of_ble_eq_true hsl
 have hpl := Nat.le_of_ble_eq_true hpl
 have htkinj : ∀ t u v, tkC C ms t = some v → tkC C ms u = some v → t = u := fun t u v h1 h2 => by
  unfold tkC at h1 h2
  cases hin : C.inn with
  | true => rw [hin] at h1 h2; exact Zrw (Nat.le_refl _) (hms6 (by rw [hin]; rfl)) hnd h1 h2
  | false => rw [hin] at h1; cases h1
 obtain ⟨k1, k2, k3⟩ := Ztt (tk := tkC C ms) hms i1.toMem.blkAt (fun b k xs hb => i1.toMem.blk b _ hb) C.ps (fun hin => by
   have hin : C.inn = true := hin
   have hLL := hLL (by rw [hin]; rfl)
   unfold tkC
   rw [hin]
   refine ⟨fun i pos hi hp => ZoF hi hp (by omega), fun j => ?_, rfl⟩
   by_cases hj : 1000 ≤ j
   ·exact .inr hj
   ·left
    show tkX _ _ ms (tokP j) = _
    unfold tkX
    rw [show Nat.beq (tokP j) 1100000000000 = false from ZrK (by unfold tokP; omega), show Nat.ble (tokP j) 1099511627775 = false from ZfM (by unfold tokP; omega), Bool.and_false, show Nat.ble 1099511627776 (tokP j) = true from ZeG (by unfold tokP; omega), show Nat.blt (tokP j) 2199023255552 = true from ZhZ (by unfold tokP; omega)]; rfl) (j := 0) (nx := 0) hargs (ZlH i1 _) (by omega) (fun i hi => by rw [Nat.zero_add]; exact ⟨hi, rfl⟩)
 have m1 : Mem w g1.R (kept g1 w ms (tkC C ms)) (g1.pick ms (tkC C ms)) (ZbF C.ps x 0 0).2 w := i1.toMem.sub hms hnd htkinj k2 (fun i b hb => ARep.of (k3 i b hb)) (fun b hb => ⟨hb.1, rfl⟩) (fun i hi hk => hk.2.1 i hi rfl) (fun t u b ht hlv hk => hk.2.2.1 t u ht hlv) (fun _ _ _ => rfl) (RO.le_refl _) (Nat.le_refl _) rfl rfl rfl (fun i hi => ⟨hi, rfl⟩) (fun hs q hq hk => hk.2.2.2 hs q hq rfl)
 have hcall := hS n x y hy w g1.R (kept g1 w ms (tkC C ms)) _ w _ (hE.glob.mono i1.leR) k2.symm m1 k1
 have hlenS : (ZbF C.ps x 0 0).2.length = ms.length := k2
 rw [hlenS] at hcall
 have hrun : (execOp a.eval o).run P w = .ok (.enter f (c.args.map a.eval)) w := by
  unfold execOp
  simp only [ho]
  rw [Sem.run_bind]
  unfold resolve
  have hval : a.eval (.func f) = .func (.func f) #[] #[] := rfl
  simp only [hc, hval, Deferred.ofValue, Sem.run_pure, Result.andThen_ok, Array.empty_append]
  unfold invoke
  simp only [Array.append_empty]
  rw [Zfp hf1 hf2 hf3]
 intro next Q hn
 unfold Oper.wp
 rw [hrun]
 show Calls P f (c.args.map a.eval) w _
 have hae : c.args.map a.eval = (c.args.toList.map a.eval).toArray := by
  apply Array.ext'
  simp
 rw [hae]
 refine hcall.mono fun e w' ⟨g', v, he, m', hres⟩ => ?_
 subst he
 refine hn _ _ ?_
 have hd : (o.dst.getD 0) = o.dst.getD 0 := rfl
 generalize hdd : o.dst.getD 0 = d at hd
 clear hd
 have hcnt : (endB C.ps y.2 0).length = ms.length := by rw [ZdM, ← ZcR C.ps x 0 0]; exact hlenS
 have hN : g'.N = ms.length + (resV C.rs y.1 0 ms.length).2.length := by rw [m'.n, List.length_append, hcnt]
 have hrl : (resV C.rs y.1 0 ms.length).2.length ≤ 1000000 := by
  have := ZdO C.rs y.1 0 ms.length hsr
  omega
 generalize hbl : (resV C.rs y.1 0 ms.length).2 = bl at *
 generalize hrv : (resV C.rs y.1 0 ms.length).1 = rv at *
 generalize hL' : s'.heap.length = L at *
 have hmsL : ∀ i ∈ ms, i < L := fun i hi => by rw [← hNL]; exact hms i hi
 have htbn : ∀ t, ZfG C.inn C.out C.res ms L d t = false → tbX C.inn C.out C.res ms L d t = none := fun t ht => ZsF ht
 have hβ : ∀ i, i < ms.length → g'.β i = g1.β (ms.getD i 0) := fun i hi => (m'.keep i hi).2
 have tok1 : ∀ b ∈ endB C.ps y.2 0, b.tokIn (fun t => tbX C.inn C.out C.res ms L d (renT ms L d t) = some t) := ZdZ _ C.ps y.2 0 hsp (fun hin i qq hq1 _ hi => by
  have hin : C.inn = true := hin
  have ⟨hL, hmsl⟩ := hLL (by rw [hin]; rfl)
  rw [hin]
  rw [Nat.zero_add, ← ZcR C.ps x 0 0, hlenS] at hi
  exact ZsG (by omega) hmsL hnd hmsl hi hq1) (fun hin => by
  have hin : C.inn = true := hin
  show tbX _ _ _ ms L d (renT ms L d 1100000000000) = some 1100000000000
  rw [Zub, Ztk, hin]; rfl)
 have tok2 := Zdo (fun t => tbX C.inn C.out C.res ms L d (renT ms L d t) = some t) C.rs y.1 0 ms.length hsr (fun ho' i qq hq1 hi1 hi2 => by
  have ho' : C.out = true := ho'
  have ⟨hL, hmsl⟩ := hLL (by rw [ho']; simp)
  rw [ho']
  rw [hbl] at hi2
  obtain ⟨k, rfl⟩ : ∃ k, i = ms.length + k := ⟨i - ms.length, by omega⟩
  exact ZsH (by omega) hmsL hmsl (by omega) hq1) (fun hr k hk1 hk2 => by
  have hr : C.res = true := hr
  rw [hr]
  exact ZsI (by omega))
 rw [hbl, hrv] at tok2
 obtain ⟨tok2, tok3⟩ := tok2
 have hleR : g1.R.le g'.R := m'.leR
 have hold : ∃ s1 : St, scrC C ms L d s' = s1 ∧ (∀ sv vv, ∀ i, getN s1.slots i = sv → SRep g1 (getN s'.slots i) vv → SRep (g1.join g' ms (tbX C.inn C.out C.res ms L d) bl.length) sv vv) ∧
   (∀ i b, getB s1.heap i = some b → ∃ b1, getB s'.heap i = some b1 ∧ (∀ vs, BRep g1 b1 vs → BRep (g1.join g' ms (tbX C.inn C.out C.res ms L d) bl.length) b vs) ∧ ∀ k es, b1 = .mp k es → b = .mp k es) ∧ s1.heap.length = s'.heap.length ∧ s1.slots.length = s'.slots.length := by
  unfold scrC
  cases hany : C.any with
  | true =>
   have ht := ZqD (g := g1) (g' := g') (ms := ms) (e := bl.length) hleR htbn
   refine ⟨_, rfl, fun sv vv i hsv hr => ?_, fun i b hb => ?_, by simp [St.scrubP], by simp [St.scrubP]⟩
   ·have : getN (s'.scrubP (ZfG C.inn C.out C.res ms L d)).slots i = (getN s'.slots i).scrubP (ZfG C.inn C.out C.res ms L d) := Ziq _ _ _ rfl
    rw [← hsv, this]
    exact hr.scrubP ht
   ·have : getB (s'.scrubP (ZfG C.inn C.out C.res ms L d)).heap i = (getB s'.heap i).map (·.scrubP (ZfG C.inn C.out C.res ms L d)) := Zfe _ _ _
    rw [this] at hb
    obtain ⟨b1, h1, h2⟩ := Option.map_eq_some_iff.1 hb
    subst h2
    exact ⟨b1, h1, fun vs hv => hv.scrubP ht, fun k es e => by subst e; rfl⟩
  | false =>
   have hf : C.inn = false ∧ C.out = false ∧ C.res = false := by
    unfold OCon.any at hany
    simpa [Bool.or_eq_false_iff] using hany
   have htb0 : tbX C.inn C.out C.res ms L d = fun _ => none := by
    funext t
    refine htbn t ?_
    rw [hf.1, hf.2.1, hf.2.2]; exact ZqG
   rw [htb0]
   have hext : g1.ext (g1.join g' ms (fun _ => none) bl.length) := ⟨hleR, fun b hb => by show (if b < g1.N then g1.β b else _) = _; rw [if_pos hb], Nat.le_add_right _ _, rfl, rfl, fun b h => h, fun b m h => .inl h, rfl⟩
   exact ⟨_, rfl, fun sv vv i hsv hr => by rw [← hsv]; exact hr.ext hext, fun i b hb => ⟨b, hb, fun vs hv => hv.ext hext, fun _ _ e => e⟩, rfl, rfl⟩
 obtain ⟨s1, hs1, hsl1, hhp1, hlen1, hlen2⟩ := hold
 have hst : Zer.state ⟨C, s', x, ms⟩ o.dst y.2 rv bl = ({ slots := s1.slots, heap := setL s1.heap ms ((endB C.ps y.2 0).map (Blk.ren ms L d)) ++ bl.map (Blk.ren ms L d) } : St).put o.dst (tupV (rv.map (SV.ren ms L d))) := by
  unfold Zer.state
  simp only [hdd, hL', hs1]
 show Then w0 R0 p (Zer.state ⟨C, s', x, ms⟩ o.dst y.2 rv bl) _ _
 rw [hst]
 have m2 : Mem w0 R0 p (g1.join g' ms (tbX C.inn C.out C.res ms L d) bl.length) (setL s1.heap ms ((endB C.ps y.2 0).map (Blk.ren ms L d)) ++ bl.map (Blk.ren ms L d)) w' := by
  refine i1.toMem.back hms m' hN (fun t u v h1 h2 => Zui (fun h => by have := hLL h; omega) hmsL h1 h2) (fun t u ht => ?_) ?_ ?_ ?_
  ·unfold tkC at ht
   cases hin : C.inn with
   | true => rw [hin] at ht; have := hLL (by rw [hin]; rfl); exact Zuh (by omega) hmsL ht
   | false => rw [hin] at ht; cases ht
  ·rw [Ztk]; unfold tkC; cases C.inn <;> rfl
  ·rw [List.length_append, Zed, List.length_map, hlen1, hL', hNL]
  ·intro i b hib
   rcases Nat.lt_or_ge i L with hi | hi
   ·rw [ZbK (by rw [Zed, hlen1, hL']; exact hi)] at hib
    have hjβ : (g1.join g' ms (tbX C.inn C.out C.res ms L d) bl.length).β i = g1.β i := by show (if i < g1.N then g1.β i else _) = _; rw [if_pos (by omega)]
    by_cases him : i ∈ ms
    ·obtain ⟨q1, q2⟩ := Zcs him
     rw [← q2, Zhf ms _ s1.heap hnd (by rw [List.length_map, hcnt]) (fun j hj => by rw [hlen1, hL']; exact hmsL j hj) q1, Zfe] at hib
     obtain ⟨b0, hb0, rfl⟩ := Option.map_eq_some_iff.1 hib
     have this := hβ _ q1
     rw [q2] at this
     rw [hjβ, ← this]
     exact (m'.blk (Zjo i ms) b0 (by rw [ZbK (by rw [hcnt]; exact q1)]; exact hb0)).imp (fun _ h2 => Zrg hNL.symm hN hβ hms (tok1 _ (Zoi hb0)) h2) fun _ _ e => by subst e; rfl
    ·rw [Zec _ _ _ him] at hib
     obtain ⟨b1, h1, h2⟩ := hhp1 i b hib
     rw [hjβ, (m'.old _ (i1.toMem.keptBlk hms (by omega) him)).2]
     exact (i1.blk i b1 h1).imp (fun vs h4 => h2.1 vs h4) h2.2
   ·obtain ⟨k, rfl⟩ : ∃ k, i = (setL s1.heap ms ((endB C.ps y.2 0).map (Blk.ren ms L d))).length + k := ⟨i - (setL s1.heap ms ((endB C.ps y.2 0).map (Blk.ren ms L d))).length, by rw [Zed, hlen1, hL']; omega⟩
    rw [ZbJ, Zfe] at hib
    obtain ⟨b0, hb0, rfl⟩ := Option.map_eq_some_iff.1 hib
    have hjβ : (g1.join g' ms (tbX C.inn C.out C.res ms L d) bl.length).β ((setL s1.heap ms ((endB C.ps y.2 0).map (Blk.ren ms L d))).length + k) = g'.β ((endB C.ps y.2 0).length + k) := by
     show (if _ < g1.N then _ else g'.β (ms.length + (_ - g1.N))) = _
     rw [Zed, hlen1, hL', if_neg (by omega), hcnt]
     congr 1; omega
    rw [hjβ]
    exact (m'.blk ((endB C.ps y.2 0).length + k) b0 (by rw [ZbJ]; exact hb0)).imp (fun _ h2 => Zrg hNL.symm hN hβ hms (tok3 _ (Zoi hb0)) h2) fun _ _ e => by subst e; rfl
 refine ⟨_, Inv.put (s := { slots := s1.slots, heap := _ }) ⟨m2, i1.defers, fun i => hsl1 _ _ i rfl (i1.slots i), by rw [i1.len]; exact hlen2.symm⟩ ?_ o.dst⟩
 have hr2 : ∀ (l : List SV) (u : Value), (∀ s ∈ l, s.tokIn (fun t => tbX C.inn C.out C.res ms L d (renT ms L d t) = some t)) → ZrE g' l u → SRep (g1.join g' ms (tbX C.inn C.out C.res ms L d) bl.length) (tupV (l.map (SV.ren ms L d))) u := by
  have tups : ∀ (l : List SV) (vs : List Value), All2 (QRep g') l vs → (∀ s ∈ l, s.tokIn (fun t => tbX C.inn C.out C.res ms L d (renT ms L d t) = some t)) → All2 (QRep (g1.join g' ms (tbX C.inn C.out C.res ms L d) bl.length)) (l.map (SV.ren ms L d)) vs := by
   intro l vs hl ht
   induction hl with
   | nil => exact .nil
   | cons q _ ih => exact .cons (Zrh hNL.symm hN hβ hms (ht _ (by simp)) q) (ih fun s hs => ht s (by simp [hs]))
  intro l u ht hres
  match l, hres with
  | [], ⟨vs, e, hall⟩ => exact ⟨vs, e, tups [] vs hall ht⟩
  | [sv], hres => exact (Zrh hNL.symm hN hβ hms (ht _ (by simp)) hres).srep
  | sv :: sv' :: l, ⟨vs, e, hall⟩ => exact ⟨vs, e, tups _ vs hall ht⟩
 exact hr2 rv v tok2 hres
end
end Go.Shal
set_option linter.unusedVariables false
namespace Go.Shal
open Go.RowKit
section
variable {P : Program} {E : Env} {w0 : World} {R0 : RO} {p : Pr}
variable {g : Gh} {s : St} {a : Act} {w : World}
theorem Rep.nilBytes (R : RO) : Rep R (.slice (.int .u8)) ([] : List Int) [.slice none 0 0] := ⟨none, 0, rfl, Nat.le_refl _, Nat.zero_le _, .inl rfl⟩
theorem Zlv (hE : EnvTy P E) (h : Inv w0 R0 p g s a w) {o : Oper} {t u : TypeId} {x : Operand} (ho : o.op = .convert t u x) {sv : SV} (he : Zih E t u (s.eval x) = some sv) : Goes P o a w (Then w0 R0 p (s.put o.dst sv)) := by
 have hx := h.eval x
 have fin : ∀ {v : Value}, (convert t u (a.eval x)).run P w = .ok v w → SRep g sv v → Goes P o a w (Then w0 R0 p (s.put o.dst sv)) := fun hr hv =>
  h.val (by unfold execOp; simp only [ho]; exact ZbW hr) hv
 unfold Zih at he
 split at he
 ·rename_i it i ht hu
  obtain ⟨inf, z, htt⟩ := hE.ty t it ht
  obtain ⟨inf', z', hut⟩ := hE.ty u i hu
  obtain ⟨ds, hds⟩ := Option.isSome_iff_exists.1 htt.kd.some.1
  have hkd := hut.kd
  split at he
  ·rename_i k hk
   rw [hk] at hkd
   have hkd : P.underlying u = some (.int k) := hkd
   obtain ⟨⟨k', n⟩, e, rfl⟩ := Option.map_eq_some_iff.1 he
   obtain ⟨ev, hr⟩ := hx.asInt e
   refine fin (v := .int k (k.wrap n)) ?_ (SRep.int (ZcZ _ _))
   rw [ev]
   unfold convert
   simp only [Sem.run_bind, run_underlying hds, run_underlying hkd, Result.andThen_ok]
   rfl
  ·rename_i hk
   rw [hk] at hkd
   have hkd : P.underlying u = some .string := hkd
   split at he
   ·rename_i l e
    cases he
    obtain ⟨b, ev, rfl, hm⟩ := hx.asStr e
    refine fin (v := .string b) ?_ (SRep.str hm)
    rw [ev]
    unfold convert
    simp only [Sem.run_bind, run_underlying hds, run_underlying hkd, Result.andThen_ok]
    rfl
   ·split at he
    ·rename_i e ie hel
     obtain ⟨hsl, inf2, z2, het⟩ := Zbx hE hel
     split at he
     ·rename_i hke
      have hek := het.kd
      rw [hke] at hek
      have hek : P.underlying e = some (.int .u8) := hek
      split at he
      ·rename_i xs hsx
       cases he
       obtain ⟨b, hb, rfl, hm⟩ := Zew (P := P) h.toMem (hx.asSlice hsx)
       refine fin (v := .string b) ?_ (SRep.str hm)
       obtain ⟨ad, cap, cells, ev, _⟩ := (hx.asSlice hsx).row
       unfold convert
       simp only [Sem.run_bind, run_underlying hsl, run_underlying hkd, Result.andThen_ok]
       rw [ev] at hb ⊢
       simp only [Sem.run_bind, run_underlying hek, Result.andThen_ok]
       exact hb
      ·cases he
      ·split at he
       ·rename_i hcst
        cases he
        rw [hcst] at hx
        obtain ⟨b, hb, hbb, hm⟩ := Zew (P := P) h.toMem (Rep.nilBytes g.R)
        have ev : a.eval x = .slice none 0 0 := hx
        have : SRep g (.dat .str []) (.string b) := by rw [← hbb]; exact SRep.str hm
        refine fin (v := .string b) ?_ this
        rw [ev]
        unfold convert
        simp only [Sem.run_bind, run_underlying hsl, run_underlying hkd, Result.andThen_ok, run_underlying hek]
        exact hb
       ·cases he
     ·cases he
    ·cases he
  ·rename_i hk
   rw [hk] at hkd
   split at he
   ·rename_i xs hfr
    split at he
    ·rename_i e ie hbeq hel
     obtain ⟨hsl, inf2, z2, het⟩ := Zbx hE hel
     have htu : t = u := Nat.eq_of_beq_eq_true hbeq
     subst htu
     split at he
     ·rename_i hke
      cases he
      have hek := het.kd
      rw [hke] at hek
      have hek : P.underlying e = some (.int .u8) := hek
      rw [hfr] at hx
      obtain ⟨hrep, b, n, ev, hφ⟩ : CRep g (.fresh (.int .u8) xs) (a.eval x) := hx
      obtain ⟨hb1, _⟩ := h.fr b (.inl hφ)
      have hrun : ∃ w', (convert t t (a.eval x)).run P w = .ok (a.eval x) w' ∧ Mem w0 R0 p g s.heap w' := by
       rw [ev]
       unfold convert
       simp only [Sem.run_bind, run_underlying hsl, Result.andThen_ok, beq_self_eq_true, run_underlying hek]
       unfold markStringish
       simp only [Sem.run_bind, run_shape, Result.andThen_ok]
       cases hshape : w.shape? b with
       | none => exact ⟨w, rfl, h.toMem⟩
       | some q =>
        obtain ⟨e', m'⟩ := q
        exact ⟨w.freeze ⟨b, m', none⟩ 1, rfl, h.toMem.freeze hφ _ _⟩
      obtain ⟨w', hr, m'⟩ := hrun
      exact Goes.value (by unfold execOp; simp only [ho]; exact ZbW hr) ⟨g, (h.ext (heap := s.heap) m' (Gh.ext.refl g)).put (sv := .dat (.slice (.int .u8)) xs) (DRep.of_one rfl hrep) o.dst⟩
     ·cases he
    ·cases he
   ·cases he
  ·cases he
 ·cases he
theorem ZoU (hE : EnvTy P E) (h : Inv w0 R0 p g s a w) {o : Oper} {t u : TypeId} {x : Operand} (ho : o.op = .convert t u x) {sv : SV} (he : ZmN E t u (s.eval x) = some (true, sv)) : Goes P o a w (Then w0 R0 p (s.put o.dst sv)) := by
 have hx := h.eval x
 have fin : ∀ {v : Value}, (convert t u (a.eval x)).run P w = .ok v w → SRep g sv v → Goes P o a w (Then w0 R0 p (s.put o.dst sv)) := fun hr hv =>
  h.val (by unfold execOp; simp only [ho]; exact ZbW hr) hv
 unfold ZmN at he
 split at he
 ·rename_i it i ht hu
  obtain ⟨inf, z, htt⟩ := hE.ty t it ht
  obtain ⟨inf', z', hut⟩ := hE.ty u i hu
  have hs := htt.kd.some.1
  have hkd := hut.kd
  split at he
  ·rename_i k hk
   rw [hk] at hkd
   have hkd : P.underlying u = some (.int k) := hkd
   split at he
   ·rename_i b e
    have ev := hx.asFlt e
    injection he with he
    injection he with h1 h2
    obtain ⟨n, hn⟩ := Option.isSome_iff_exists.1 h1
    rw [hn] at h2
    subst h2
    refine fin (v := .int k n) ?_ (SRep.int ?_)
    ·rw [ev]; exact run_convert_float_int w t u .f64 k b n hs hkd hn
    ·have := floatToIntVal_wf hn
     simpa [Lit.wf, inR] using this
   ·cases he
  ·rename_i hk
   rw [hk] at hkd
   have hkd : P.underlying u = some (.float .f64) := hkd
   split at he
   ·rename_i q n e
    obtain ⟨ev, hr⟩ := hx.asInt e
    injection he with he
    injection he with h1 h2
    subst h2
    refine fin (v := .float .f64 (floatOfInt .f64 n)) ?_ SRep.flt
    rw [ev]; exact run_convert_int_float w t u q .f64 n hs hkd
   ·cases he
  ·cases he
 ·cases he
theorem Zqb (hE : EnvTy P E) (h : Inv w0 R0 p g s a w) {o : Oper} {t u : TypeId} {x : Operand} (ho : o.op = .convert t u x) {sv : SV} (he : Zob E t u (s.eval x) = some (true, sv)) : Goes P o a w (Then w0 R0 p (s.put o.dst sv)) := by
 unfold Zob at he
 split at he
 ·rename_i v e
  cases he
  exact Zlv hE h ho e
 ·exact ZoU hE h ho he
theorem Zey (hE : EnvTy P E) (h : Mem w0 R0 p g s.heap w) {u : Nat} {k : Kd} {y : SV} {v : Value} {ys : List k.T} (hy : SRep g y v) (he : Zge E u k y = some ys) : More P g w k u v ys := by
 unfold Zge at he
 split at he
 ·rename_i k' ys' hsl
  split at he
  ·rename_i ei hel
   obtain ⟨hu, _⟩ := Zbx hE hel
   obtain ⟨e, rfl⟩ := Zbr he
   injection e with e
   subst e
   exact More.ofSlice h (hy.asSlice hsl) hu
  ·cases he
 ·split at he
  ·rename_i l hl hst
   obtain ⟨b, ev, rfl, hm⟩ := hy.asStr hl
   obtain ⟨e, rfl⟩ := Zbr he
   injection e with e
   subst e
   rw [ev]
   exact More.ofString b (ZhH hE hst)
  ·split at he
   ·split at he
    ·rename_i ei hel
     cases he
     obtain ⟨hu, _⟩ := Zbx hE hel
     obtain rfl : v = .slice none 0 0 := hy
     exact ⟨[], Src.ofNil w hu 0, Zbp.nil _ _⟩
    ·cases he
   ·cases he
theorem Zql {k : Kd} {d t : Nat} {x : SV} {v : Value} {xs : List k.T} (hx : SRep g x v) (he : ZlF k d x = some (t, xs)) :
  (t ≠ 1100000000000 ∧ Rep g.R (.slice k) xs [v] ∧ ((v = g.ν t ∧ g.σ t = k.size) ∨ ∃ a n, v = .slice a n n)) ∨ (t = 1100000000000 ∧ ZdG g k xs v) := by
 have ne : ∀ {a : Nat}, Nat.beq a 1100000000000 = false → a ≠ 1100000000000 := fun h e => by rw [e] at h; cases h
 unfold ZlF at he
 split at he
 ·rename_i t' k' xs'
  split at he
  ·cases he
  ·rename_i hne
   obtain ⟨xs2, e, he⟩ := Option.map_eq_some_iff.1 he
   cases he
   obtain ⟨e', rfl⟩ := Zbr e
   injection e' with e'
   subst e'
   obtain ⟨h1, h2, h3⟩ : CRep g (.own _ k' xs') v := hx
   exact .inl ⟨ne hne, h1, .inl ⟨h2, h3⟩⟩
 ·rename_i k' xs'
  split at he
  ·cases he
  ·rename_i hne
   obtain ⟨xs2, e, he⟩ := Option.map_eq_some_iff.1 he
   cases he
   obtain ⟨e', rfl⟩ := Zbr e
   injection e' with e'
   subst e'
   obtain ⟨h1, b, n, h2, _⟩ : CRep g (.fresh k' xs') v := hx
   exact .inl ⟨ne hne, h1, .inr ⟨_, n, h2⟩⟩
 ·rename_i k' xs'
  obtain ⟨xs2, e, he⟩ := Option.map_eq_some_iff.1 he
  cases he
  obtain ⟨e', rfl⟩ := Zbr e
  injection e' with e'
  subst e'
  exact .inr ⟨rfl, hx⟩
 ·split at he
  ·cases he
  ·rename_i hne
   cases he
   obtain rfl : v = .slice none 0 0 := hx
   exact .inl ⟨ne hne, ⟨none, 0, rfl, Nat.le_refl _, Nat.zero_le _, .inl rfl⟩, .inr ⟨none, 0, rfl⟩⟩
 ·cases he
theorem Zsn {t : Nat} (h : t ≠ 1100000000000) (k : Kd) (xs : List k.T) : ZqT t k xs = .own t k xs := by
 unfold ZqT
 cases e : Nat.beq t 1100000000000 with
 | true => exact absurd (Nat.eq_of_beq_eq_true e) h
 | false => rfl
theorem ZjB {t tx ty e : TypeId} {i : TypeInfo} {z : Value} (ht : P.underlying t = some (.slice e)) (hi : P.info? e = some i) (hz : i.zero = some z) {k : Kd} (hsz : i.size = k.size) (hzc : z.cells.size = k.size) (hby : 1 ≤ i.bytes)
  (h : Inv w0 R0 p g s a w) {v : Value} {xs : List k.T} {x : Value} {ys : List k.T} (hmore : More P g w k tx x ys) (hlim : (xs.length + ys.length) * i.bytes ≤ 140737488355328) {tk d : Nat} {sv : SV} (hx : SRep g sv v) (ho : ZlF k d sv = some (tk, xs)) :
  ∃ v' w', (Builtin.append_ #[t, tx] ty #[v, x]).run P w = .ok v' w' ∧ Then w0 R0 p ((s.scrub tk).put (some d) (ZqT tk k (xs ++ ys))) (a.put (some d) v') w' := by
 rcases Zql hx ho with ⟨hne, h1, h2⟩ | ⟨rfl, h1⟩
 ·obtain ⟨v', w', g', hr, m', ht', hv'⟩ := ZmE (ty := ty) ht hi hz hsz hzc hby h.toMem h1 hmore hlim tk h2
  rw [Zsn hne]
  exact ⟨v', w', hr, g', (h.turn m' ht').put (sv := .own tk k (xs ++ ys)) hv' (some d)⟩
 ·obtain ⟨v', w', κ', hr, m', hv'⟩ := ZqP (ty := ty) ht hi hz hsz hzc hby h.toMem h1 hmore hlim
  exact ⟨v', w', hr, _, (h.turn m' (Znh g κ')).put (sv := .mo k (xs ++ ys)) hv' (some d)⟩
theorem ZmD (hE : EnvTy P E) (h : Inv w0 R0 p g s a w) {o : Oper} {c : Call} (ho : o.op = .call c) (hc : c.callee = .builtin .append) {t u : Nat} (hts : c.argTypes.toList = [t, u]) {x y : Operand} (hargs : c.args.toList = [x, y]) {d : Nat} (hd : o.dst = some d)
  {s' : St} (he : ZdB E s d t u (s.eval x) (s.eval y) = .go true s') : Goes P o a w (Then w0 R0 p s') := by
 unfold ZdB at he
 split at he
 ·cases he
 ·rename_i e i hel
  obtain ⟨hu, inf, z, ht⟩ := Zbx hE hel
  split at he
  ·rename_i ys tk xs b hm ho' hby
   injection he with hok hs'
   have hok := of_decide_eq_true hok
   simp only [LIM] at hok
   have hmore := Zey hE h.toMem (h.eval y) hm
   have hz := (DRep.ofVal g.R ht.zeroIs).cells.length
   obtain ⟨v', w', hr, hT⟩ := ZjB (ty := o.type) hu ht.info ht.zero ht.size (by simpa using hz) (by rw [ht.bytes, hby]; omega) h hmore (by rw [ht.bytes, hby]; exact hok) (h.eval x) ho'
   subst hs'
   refine Goes.value (v := v') (w' := w') ?_ ?_
   ·unfold execOp
    simp only [ho]
    rw [Sem.run_bind]
    unfold resolve
    have e1 : c.args = #[x, y] := Array.toList_inj.1 hargs
    have e2 : c.argTypes = #[t, u] := Array.toList_inj.1 hts
    simp only [hc, Sem.run_pure, Result.andThen_ok, e1, e2, List.map_toArray, List.map_cons, List.map_nil]
    unfold invoke
    simp only [builtin]
    exact ZbW hr
   ·rw [hd]
    exact hT
  ·cases he
end
end Go.Shal
