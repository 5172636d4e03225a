/- An abstract interpreter of the model's code, proved right against the model: part 3. By an AI agent. -/
import Derived.Test.YtbhigcnmdobmoaaShB
import Derived.MapKept
import Derived.Laws.IdiomCopy
import Derived.LoopN
set_option linter.unusedVariables false
namespace Go.Shal
section
variable {P : Program} {E : Env} {w0 : World} {R0 : RO} {p : Pr}
variable {g : Gh} {s : St} {a : Act} {w : World}
def LRep (k : IntKind) (es : List (Int × Bool)) (l : List MapEntry) : Prop := l.map (fun e => (e.key, e.val)) = es.map fun x => (Value.int k x.1, Value.bool x.2)
theorem ZfS {k : IntKind} {n : Int} : ∀ {es : List (Int × Bool)} {l : List MapEntry} (i : Nat), LRep k es l →
  (Instr.findNow (.int k) (.int k n) l i = some none ∧ mget es n = false ∧ ∀ v, mset es n v = es ++ [(n, v)]) ∨
  ∃ j e, Instr.findNow (.int k) (.int k n) l i = some (some (i + j, .bool (mget es n))) ∧ l[j]? = some e ∧ e.key = .int k n ∧ ∀ v, mset es n v = es.set j (n, v)
 | [], [], i, _ => .inl ⟨rfl, rfl, fun _ => rfl⟩
 | [], _ :: _, _, h => by cases h
 | _ :: _, [], _, h => by cases h
 | (m, u) :: es, e :: l, i, h => by
  injection (show (e.key, e.val) :: l.map _ = (Value.int k m, Value.bool u) :: es.map _ from h) with h1 h2
  injection h1 with h1 h3
  by_cases hm : n = m
  ·subst hm
   refine .inr ⟨0, e, ?_, rfl, h1, fun v => ?_⟩
   ·unfold Instr.findNow
    rw [h1, h3]
    simp [Instr.sameNow, mget]
   ·simp [mset]
  ·have hd : decide (n = m) = false := decide_eq_false hm
   have hs : Instr.sameNow (.int k) (.int k n) e.key = some false := by
    rw [h1]
    simp [Instr.sameNow, hm]
   rcases ZfS (n := n) (es := es) (l := l) (i + 1) h2 with ⟨q1, q2, q3⟩ | ⟨j, e', q1, q2, q3, q4⟩
   ·refine .inl ⟨?_, ?_, fun v => ?_⟩
    ·unfold Instr.findNow; rw [hs]; exact q1
    ·show cond (decide (n = m)) u (mget es n) = false; rw [hd]; exact q2
    ·show cond (decide (n = m)) ((n, v) :: es) ((m, u) :: mset es n v) = _; rw [hd, q3]; rfl
   ·have hg : mget ((m, u) :: es) n = mget es n := by show cond (decide (n = m)) u (mget es n) = _; rw [hd]; rfl
    refine .inr ⟨j + 1, e', ?_, by simpa using q2, q3, fun v => ?_⟩
    ·rw [hg]; unfold Instr.findNow; rw [hs]; simp only []; rw [q1, show i + 1 + j = i + (j + 1) by omega]
    ·show cond (decide (n = m)) ((n, v) :: es) ((m, u) :: mset es n v) = _; rw [hd, q4]; rfl
theorem LRep.set {k : IntKind} {n : Int} {v : Bool} : ∀ {es : List (Int × Bool)} {l : List MapEntry} {j : Nat} {e : MapEntry}, LRep k es l → l[j]? = some e → LRep k (es.set j (n, v)) (l.modify j fun e => { e with key := .int k n, val := .bool v })
 | [], [], _, _, _, hj => by simp at hj
 | [], _ :: _, _, _, h, _ => by cases h
 | _ :: _, [], _, _, h, _ => by cases h
 | y :: es, e :: l, 0, _, h, _ => by
  injection (show (e.key, e.val) :: l.map _ = (Value.int k y.1, Value.bool y.2) :: es.map _ from h) with h1 h2
  show ((Value.int k n, Value.bool v) :: l.map _) = ((Value.int k n, Value.bool v) :: es.map _)
  rw [h2]
 | y :: es, e :: l, j + 1, e', h, hj => by
  injection (show (e.key, e.val) :: l.map _ = (Value.int k y.1, Value.bool y.2) :: es.map _ from h) with h1 h2
  have ih := LRep.set (n := n) (v := v) (es := es) (l := l) (j := j) (e := e') h2 (by simpa using hj)
  show ((e.key, e.val) :: List.map (fun e => (e.key, e.val)) (l.modify j _)) = ((Value.int k y.1, Value.bool y.2) :: (es.set j (n, v)).map _)
  rw [h1, show List.map (fun e : MapEntry => (e.key, e.val)) (l.modify j fun e => { e with key := .int k n, val := .bool v }) = (es.set j (n, v)).map (fun x => (Value.int k x.1, Value.bool x.2)) from ih]
theorem Znd (h : Inv w0 R0 p g s a w) {o : Oper} {t : TypeId} (ho : o.op = .makeMap t none) {s' : St} (he : Zom E s o.dst t = some (.go true s')) : Goes P o a w (Then w0 R0 p s') := by
 unfold Zom at he
 split at he
 ·rename_i k hk
  injection he with he
  injection he with _ he
  subst he
  have m := h.toMem.allocO (.map #[] 0) (.mp k []) (show ARep (g.newB w.heap.size) (.mp k []) (some (.map #[] 0)) from ⟨#[], 0, rfl, rfl⟩)
  refine Goes.value (v := .map (some w.heap.size)) (w' := w.alloc (.map #[] 0)) ?_ ⟨g.newB w.heap.size, (h.ext m (Gh.newB_ext _ _)).put (sv := .mp s.heap.length) ⟨?_, ?_⟩ o.dst⟩
  ·unfold execOp
   simp only [ho]
   exact ZbW (w := w) rfl
  ·simp [Gh.newB, h.n]
  ·simp [Gh.newB, h.n]
 ·cases he
theorem ZqJ (hE : EnvTy P E) (h : Inv w0 R0 p g s a w) {t : TypeId} {m x : Operand} {sv : SV} (he : Zhj E s t (s.eval m) (s.eval x) = some sv) : ∃ v, (Instr.lookup t (a.eval m) (a.eval x) false).run P w = .ok v w ∧ SRep g sv v := by
 unfold Zhj at he
 split at he
 ·rename_i b hm
  split at he
  ·rename_i q es q' q'' n hb ht hn
   split at he
   ·rename_i e1 e2 _ _
    subst e1 e2
    cases he
    obtain ⟨kt, et, i, hu, hkt, hi, hik⟩ := hE.map t q ht
    obtain ⟨inf, z, hz⟩ := hE.ty et i hi
    have hv := h.eval m
    rw [hm] at hv
    obtain ⟨ev, hN⟩ := hv
    obtain ⟨ex, _⟩ := (h.eval x).asInt hn
    obtain ⟨mes, c, hh, hr⟩ := h.blk b _ hb
    have hr : LRep q es mes.toList := hr
    have hzero : z = .bool false := by
     have h1 := hz.zeroIs
     rw [hik] at h1
     unfold Kd.ofVal only at h1
     simp only [Kd.agg, Kd.ofCells, ZoQ] at h1
     cases z <;> simp at h1
     rename_i b; rw [h1]; rfl
    refine ⟨.bool (mget es n), ?_, [.bool (mget es n)], rfl, rfl⟩
    rw [ev, ex]
    have hkey : MapKept.IsKey (.int q) (.int q n) := rfl
    unfold Instr.lookup
    simp only [Sem.run_bind, run_underlying hu, Result.andThen_ok, MapKept.run_getObj_map hh, Sem.run_pure, MapKept.run_checkKey hkt hkey]
    rcases ZfS (n := n) 0 hr with ⟨f1, f2, _⟩ | ⟨j, e, f1, f2, f3, _⟩
    ·rw [MapKept.run_findKey hkt f1]
     simp only [Result.andThen_ok, Sem.run_bind, Zcj hz.info hz.zero, Sem.run_pure]
     rw [hzero, f2]; rfl
    ·rw [MapKept.run_findKey hkt f1]
     simp only [Result.andThen_ok, Sem.run_bind, Sem.run_pure]
     rfl
   ·cases he
  ·cases he
 ·cases he
theorem Zps (hE : EnvTy P E) (h : Inv w0 R0 p g s a w) {o : Oper} {t : TypeId} {m x y : Operand} (ho : o.op = .mapUpdate t m x y) {b : Nat} (hm : s.eval m = .mp b) {s' : St} (he : Zsf E s o.dst t b (s.eval x) (s.eval y) = .go true s') : Goes P o a w (Then w0 R0 p s') := by
 unfold Zsf at he
 split at he
 ·rename_i q es q' q'' n v hb ht hn hvb
  split at he
  ·rename_i e1 e2 _ _
   subst e1 e2
   injection he with _ he
   subst he
   obtain ⟨kt, et, i, hu, hkt, hi, hik⟩ := hE.map t q ht
   have hv := h.eval m
   rw [hm] at hv
   obtain ⟨ev, hN⟩ := hv
   obtain ⟨ex, _⟩ := (h.eval x).asInt hn
   have ey := (h.eval y).asBool hvb
   obtain ⟨mes, c, hh, hr⟩ := h.blk b _ hb
   have hr : LRep q es mes.toList := hr
   have hkey : MapKept.IsKey (.int q) (.int q n) := rfl
   have fin : ∀ mes' c', (Instr.mapUpdate t (.map (some (g.β b))) (.int q n) (.bool v)).run P w = .ok () { w with heap := w.heap.setIfInBounds (g.β b) (.map mes' c') } → MRep q (mset es n v) mes' → Goes P o a w (Then w0 R0 p (({ s with heap := setB s.heap b (.mp q (mset es n v)) } : St).put o.dst .undef)) := fun mes' c' hrun hrep => by
    have hset := MapKept.heap_set (o' := .map mes' c') hh
    have m2 := h.toMem.setO (w' := { w with heap := w.heap.setIfInBounds (g.β b) (.map mes' c') }) (b' := .mp q (mset es n v)) hb (fun j hj => hset.2 j hj) ⟨mes', c', hset.1, hrep⟩ (by simp) rfl rfl rfl
    refine Goes.skip ?_ ⟨g, (h.ext m2 (Gh.ext.refl g)).put (sv := .undef) trivial o.dst⟩
    unfold execOp
    simp only [ho]
    refine Zsy ?_
    rw [ev, ex, ey]
    exact hrun
   rcases ZfS (n := n) 0 hr with ⟨f1, _, f3⟩ | ⟨j, e, f1, f2, f3, f4⟩
   ·refine fin (mes.push { key := .int q n, val := .bool v, born := c }) (c + 1) ?_ ?_
    ·unfold Instr.mapUpdate
     simp only [Sem.run_bind, run_underlying hu, Result.andThen_ok, MapKept.run_getObj_map hh, MapKept.run_checkKey hkt hkey, MapKept.run_findKey hkt f1]
     exact MapKept.run_setObj_map _ hh
    ·show (mes.push _).toList.map _ = _
     rw [f3 v, Array.toList_push, List.map_append, List.map_append]
     rw [show mes.toList.map (fun e => (e.key, e.val)) = es.map fun x => (Value.int q x.1, Value.bool x.2) from hr]; rfl
   ·refine fin (mes.modify j fun e => { e with key := .int q n, val := .bool v }) c ?_ ?_
    ·have hj : mes[j]? = some e := by simpa using f2
     unfold Instr.mapUpdate
     simp only [Sem.run_bind, run_underlying hu, Result.andThen_ok, MapKept.run_getObj_map hh, MapKept.run_checkKey hkt hkey, MapKept.run_findKey hkt f1, Nat.zero_add, hj, Option.map_some, Option.getD_some, f3, MapKept.run_keyThatStays hkey]
     exact MapKept.run_setObj_map _ hh
    ·show (mes.modify j _).toList.map _ = _
     rw [f4 v, Array.toList_modify]
     exact LRep.set hr f2
  ·cases he
 ·cases he
end
end Go.Shal
set_option linter.unusedVariables false
namespace Go.Shal
open Go.RowKit
section
variable {P : Program} {E : Env} {w0 : World} {R0 : RO} {p : Pr}
variable {g : Gh} {s : St} {a : Act} {w : World}
theorem Rep.bare {R R' : RO} : ∀ {k : Kd} {x : k.T} {cs : List Value}, k.bare = true → Rep R k x cs → Rep R' k x cs
 | .int _, _, _, _, h => h
 | .bool, _, _, _, h => h
 | .flt, _, _, _, h => h
 | .str, _, _, _, h => h
 | .unit, _, _, _, h => h
 | .np, _, _, _, h => h
 | .nsl, _, _, _, h => h
 | .pair a b, _, _, hb, ⟨c, d, e, h1, h2⟩ => by
  have hb : (a.bare && b.bare) = true := hb
  rw [Bool.and_eq_true] at hb
  exact ⟨c, d, e, Rep.bare hb.1 h1, Rep.bare hb.2 h2⟩
 | .arr n k, xs, cs, hb, ⟨hn, f, h1, h2⟩ => ⟨hn, f, fun i x hx => Rep.bare (show k.bare = true from hb) (h1 i x hx), h2⟩
 | .slice _, _, _, hb, _ => by cases hb
 | .tre _, _, _, hb, _ => by cases hb
 | .rp _, _, _, hb, _ => by cases hb
theorem DRep.bare {R R' : RO} {k : Kd} {x : k.T} {v : Value} (hb : k.bare = true) (h : DRep R k x v) : DRep R' k x v :=
 let ⟨cs, h1, h2⟩ := h; ⟨cs, h1.bare hb, h2⟩
theorem TRep.bare {R R' : RO} : ∀ {ks : List Kd} {x : (Kd.struct ks).T} {vs : List Value}, allB Kd.bare ks = true → TRep R ks x vs → TRep R' ks x vs
 | [], _, _, _, h => h
 | k :: ks, _, _, hb, ⟨v, r, e, h1, h2⟩ => by
  have hb : cond k.bare (allB Kd.bare ks) false = true := hb
  cases hk : k.bare with
  | false => rw [hk] at hb; cases hb
  | true => rw [hk] at hb; exact ⟨v, r, e, h1.bare hk, TRep.bare hb h2⟩
theorem RRep.bare {R R' : RO} {rs : List Kd} {x : (Kd.struct rs).T} {v : Value} (hb : allB Kd.bare rs = true) (h : RRep R rs x v) : RRep R' rs x v := by
 match rs, x, hb, h with
 | [], x, hb, ⟨vs, e, h⟩ => exact ⟨vs, e, TRep.bare hb h⟩
 | [k], x, hb, h =>
  have hb : cond k.bare true false = true := hb
  cases hk : k.bare with
  | false => rw [hk] at hb; cases hb
  | true => exact DRep.bare hk (show DRep R k x.1 v from h)
 | k :: k' :: ks, x, hb, ⟨vs, e, h⟩ => exact ⟨vs, e, TRep.bare hb h⟩
open Classical in
noncomputable def ZfF (g : Gh) (w : World) : RO := fun b o => if ∃ i, i < g.N ∧ g.β i = b then w.cell? ⟨b, o, none⟩ else g.R b o
theorem Zeo (h : Mem w0 R0 p g s.heap w) : g.R.le (ZfF g w) := fun b o v e => by
 unfold ZfF
 split
 ·rename_i hi
  obtain ⟨i, hi, rfl⟩ := hi
  rw [h.sepB i hi o] at e; cases e
 ·exact e
theorem Zsb (h : Mem w0 R0 p g s.heap w) : ∀ b o v, ZfF g w b o = some v → w.cell? ⟨b, o, none⟩ = some v := fun b o v e => by
 unfold ZfF at e
 split at e
 ·exact e
 ·exact h.ro b o v e
theorem Zfi (h : Mem w0 R0 p g s.heap w) {i : Nat} (hi : i < g.N) {cur : Array Value} {ty : TypeId} (hh : w.heap[g.β i]? = some (.cells cur ty (0, 0))) {j : Nat} {v : Value} (hj : cur.toList[j]? = some v) : ZfF g w (g.β i) (0 + j) = some v := by
 unfold ZfF
 rw [if_pos ⟨i, hi, rfl⟩, Nat.zero_add]
 rw [Array.getElem?_toList] at hj
 simp [World.cell?, hh, hj]
theorem Zgm (hE : ZdW P E R0 p) (h : Inv w0 R0 p g s a w) {o : Oper} {n : Nat} {c : Call} (ho : o.op = .call c) {f : Operand} (hc : c.callee = .value f) {fid : FuncId} (hv : s.eval f = .func fid []) {C : Con} (hC : look E.cons fid = some C) (hbare : allB Kd.bare C.rs = true)
  {x : (Kd.struct C.ps).T} (hargs : TRep (ZfF g w) C.ps x (c.args.toList.map a.eval)) {r : (Kd.struct C.rs).T} (hr : C.f n x = some r) : Goes P o a w (Then w0 R0 p (Zfm o.dst s C.rs r)) := by
 have hval : a.eval f = .func (.func fid) #[] #[] := by
  have := h.eval f
  rw [hv] at this
  obtain ⟨vs, e, hn⟩ := this
  cases hn
  exact e
 have e : c.args.map a.eval = (c.args.toList.map a.eval).toArray := by
  apply Array.ext'
  simp
 rcases hE.con fid C hC with ⟨hs, fn, h1, h2, h3⟩ | ⟨fn, ex, h1, h2, h3, h4, h5, h6⟩
 rotate_left
 ·obtain ⟨v, hr1, hr2⟩ := h6 n x r hr (ZfF g w) _ w hargs
  refine Goes.value (v := v) (w' := w) ?_ ⟨g, ZhN h (hr2.bare hbare)⟩
  unfold execOp
  simp only [ho]
  rw [Sem.run_bind]
  unfold resolve
  simp only [hc, hval, Deferred.ofValue, Sem.run_pure, Result.andThen_ok, Array.empty_append]
  unfold invoke
  simp only [Array.append_empty]
  rw [run_callFunc_extern h1 h2 h3 h4 h5, e, hr1]; rfl
 have hcall := hs n x r hr w (ZfF g w) _ (hE.glob.mono (RO.le_trans h.leR (Zeo h.toMem))) (Zsb h.toMem) hargs
 have hrun : (execOp a.eval o).run P w = .ok (.enter fid (c.args.map a.eval)) w := by
  unfold execOp
  simp only [ho]
  rw [Sem.run_bind]
  unfold resolve
  simp only [hc, hval, Deferred.ofValue, Sem.run_pure, Result.andThen_ok, Array.empty_append]
  unfold invoke
  simp only [Array.append_empty]
  rw [Zfp h1 h2 h3]
 intro next Q hn
 unfold Oper.wp
 rw [hrun]
 show Calls P fid (c.args.map a.eval) w _
 rw [e]
 refine hcall.mono fun e w' ⟨R', v, he, k1, k2, k3, k4, k5⟩ => ?_
 subst he
 open Classical in
 obtain ⟨m, hext⟩ := h.toMem.called (R' := fun b o => if ∃ i, i < g.N ∧ g.β i = b then none else R' b o) (fun b o v e => by
  show (if _ then _ else _) = _
  rw [if_neg (fun ⟨i, hi, q⟩ => by rw [← q, h.sepB i hi o] at e; cases e)]
  exact k1 b o v (Zeo h.toMem b o v e)) (fun b o hb => by
  show (if _ then _ else _) = _
  split
  ·rename_i hi
   obtain ⟨i, hi, rfl⟩ := hi
   exact (h.sepB i hi o).symm
  ·rename_i hi
   rw [k2 b o hb]
   unfold ZfF
   rw [if_neg hi]) (fun b o v e => by
  replace e : (if _ then _ else _) = _ := e
  split at e
  ·cases e
  ·exact k3 b o v e) k5
 exact hn _ _ ⟨_, ZhN (h.ext m hext) (k4.bare hbare)⟩
theorem ZrZ (h : Mem w0 R0 p g s.heap w) : ∀ (k : Kd) {cs : List SV} {vs : List Value} {x : k.T} {r : List SV}, All2 (fun s v => s = .undef ∨ CRep g s v) cs vs → k.joinH s.heap cs = some (x, r) → ∃ c d, vs = c ++ d ∧ Rep (ZfF g w) k x c ∧ All2 (fun s v => s = .undef ∨ CRep g s v) r d := by
 have old : ∀ (k : Kd) {cs : List SV} {vs : List Value} {x : k.T} {r : List SV}, All2 (fun s v => s = .undef ∨ CRep g s v) cs vs → k.join cs = some (x, r) → ∃ c d, vs = c ++ d ∧ Rep (ZfF g w) k x c ∧ All2 (fun s v => s = .undef ∨ CRep g s v) r d := fun k {cs vs x r} ha he => by
  obtain ⟨c, d, h1, h2, h3⟩ := Rep.join ha he
  exact ⟨c, d, h1, h2.mono (Zeo h), h3⟩
 intro k
 induction k with
 | pair a b iha ihb =>
  intro cs vs x r ha he
  obtain ⟨⟨y, r1⟩, e1, he⟩ := Option.bind_eq_some_iff.1 (show ((a.joinH s.heap cs).bind fun x => (b.joinH s.heap x.2).bind fun y => some ((x.1, y.1), y.2)) = some (x, r) from he)
  obtain ⟨⟨z, r2⟩, e2, he⟩ := Option.bind_eq_some_iff.1 he
  cases he
  obtain ⟨c, d, rfl, q1, q2⟩ := iha ha e1
  obtain ⟨c', d', rfl, q3, q4⟩ := ihb q2 e2
  exact ⟨c ++ c', d', by rw [List.append_assoc], ⟨c, c', rfl, q1, q3⟩, q4⟩
 | rp k ih =>
  intro cs vs x r ha he
  unfold Kd.joinH at he
  split at he
  ·rename_i b r'
   split at he
   ·rename_i cs' hb
    split at he
    ·rename_i y hj
     cases he
     cases ha with
     | cons q1 q2 =>
      rename_i u m
      have hp : CRep g (.ptr b 0) u := q1.resolve_left (by simp)
      obtain ⟨rfl, hN⟩ := hp
      obtain ⟨cur, ty, hh, hr⟩ := h.blk b _ hb
      obtain ⟨c, d, e3, e4, e5⟩ := ih (show All2 (fun s v => s = .undef ∨ CRep g s v) cs' cur.toList from hr) hj
      cases e5
      rw [List.append_nil] at e3
      exact ⟨[.pointer (some ⟨g.β b, 0, none⟩)], m, rfl, ⟨g.β b, 0, c, rfl, e4, fun j u hu => Zfi h hN hh (by rw [e3]; exact hu)⟩, q2⟩
    ·cases he
   ·cases he
  ·exact old (.rp k) ha he
 | int k => intro cs vs x r ha he; exact old _ ha he
 | bool => intro cs vs x r ha he; exact old _ ha he
 | flt => intro cs vs x r ha he; exact old _ ha he
 | str => intro cs vs x r ha he; exact old _ ha he
 | slice k => intro cs vs x r ha he; exact old _ ha he
 | unit => intro cs vs x r ha he; exact old _ ha he
 | np => intro cs vs x r ha he; exact old _ ha he
 | nsl => intro cs vs x r ha he; exact old _ ha he
 | arr n k => intro cs vs x r ha he; exact old _ ha he
 | tre k => intro cs vs x r ha he; exact old _ ha he
theorem Zse (h : Mem w0 R0 p g s.heap w) {k : Kd} {x : k.T} {sv : SV} {v : Value} (hv : SRep g sv v) (he : ZkD s k sv = some x) : DRep (ZfF g w) k x v := by
 unfold ZkD at he
 split at he
 ·rename_i b k'
  split at he
  ·rename_i cs hb
   unfold only at he
   split at he
   ·rename_i y hj
    cases he
    have hp : CRep g (.ptr b 0) v := hv
    obtain ⟨rfl, hN⟩ := hp
    obtain ⟨cur, ty, hh, hr⟩ := h.blk b _ hb
    obtain ⟨c, d, e3, e4, e5⟩ := ZrZ h k' (show All2 (fun s v => s = .undef ∨ CRep g s v) cs cur.toList from hr) hj
    cases e5
    rw [List.append_nil] at e3
    exact DRep.of_one (k := .rp k') rfl ⟨g.β b, 0, c, rfl, e4, fun j u hu => Zfi h hN hh (by rw [e3]; exact hu)⟩
   ·cases he
  ·cases he
 ·exact (hv.as he).mono (Zeo h)
theorem ZiA (h : Inv w0 R0 p g s a w) : ∀ (ks : List Kd) (ops : List Operand) (x : (Kd.struct ks).T), ZdE s ks (ops.map s.eval) = some x → TRep (ZfF g w) ks x (ops.map a.eval)
 | [], [], x, _ => rfl
 | [], _ :: _, x, he => by cases he
 | _ :: _, [], x, he => by cases he
 | k :: ks, o :: ops, x, he => by
  obtain ⟨y, e1, he⟩ := Option.bind_eq_some_iff.1 (show ((ZkD s k (s.eval o)).bind fun x => (ZdE s ks (ops.map s.eval)).bind fun y => some (x, y)) = some x from he)
  obtain ⟨z, e2, he⟩ := Option.bind_eq_some_iff.1 he
  cases he
  exact ⟨a.eval o, ops.map a.eval, rfl, Zse h.toMem (h.eval o) e1, ZiA h ks ops z e2⟩
theorem Znc {n : Nat} {d : Option Nat} {C : Con} {args : List SV} {ok : Bool} {s' : St} (he : Zdm E n s d C args = .go ok s') : False := by
 unfold Zdm at he
 (repeat' split at he) <;> cases he
theorem ZkC {n : Nat} {d : Option Nat} {C : Con} {args : List SV} {rs : List Kd} {m : Option (Kd.struct rs).T} {k : (Kd.struct rs).T → St} (he : Zdm E n s d C args = .call rs m k) :
  allB Kd.bare C.rs = true ∧ ∃ x, ZdE s C.ps args = some x ∧ (OpRes.call C.rs (C.f n x) (Zfm d s C.rs)) = .call rs m k := by
 unfold Zdm at he
 split at he
 ·cases he
 ·split at he
  ·cases he
  ·rename_i hb
   split at he
   ·rename_i x hx
    exact ⟨hb, x, hx, he⟩
   ·cases he
def Zrj (h h' : List Blk) : Prop := ∀ b, b < h.length → getB h' b = getB h b
theorem Zpl {h h' : List Blk} (hs : Zrj h h') : ∀ (k : Kd) {cs : List SV} {y : k.T × List SV}, k.joinH h cs = some y → k.joinH h' cs = some y := by
 intro k
 induction k with
 | pair a b iha ihb =>
  intro cs y he
  obtain ⟨x, e1, he⟩ := Option.bind_eq_some_iff.1 (show ((a.joinH h cs).bind fun x => (b.joinH h x.2).bind fun y => some ((x.1, y.1), y.2)) = some y from he)
  obtain ⟨z, e2, he⟩ := Option.bind_eq_some_iff.1 he
  show ((a.joinH h' cs).bind fun x => (b.joinH h' x.2).bind fun y => some ((x.1, y.1), y.2)) = some y
  rw [iha e1, Option.bind_some, ihb e2]; exact he
 | rp k ih =>
  intro cs y he
  unfold Kd.joinH at he ⊢
  split at he
  ·rename_i b r'
   split at he
   ·rename_i cs' hb
    split at he
    ·rename_i z hj
     rw [hs b (ZbT hb), hb]
     simp only []
     rw [ih hj]; exact he
    ·cases he
   ·cases he
  ·exact he
 | _ => intro cs y he; exact he
theorem Zpr {s s' : St} (hs : Zrj s.heap s'.heap) {k : Kd} {v : SV} {x : k.T} (he : ZkD s k v = some x) : ZkD s' k v = some x := by
 unfold ZkD at he ⊢
 split at he
 ·rename_i b k'
  split at he
  ·rename_i cs hb
   unfold only at he
   split at he
   ·rename_i y hj
    rw [hs b (ZbT hb), hb]
    simp only []
    rw [Zpl hs k' hj]; exact he
   ·cases he
  ·cases he
 ·exact he
theorem Zgn {s s' : St} (hs : Zrj s.heap s'.heap) : ∀ {ks : List Kd} {vs : List SV} {x : (Kd.struct ks).T}, ZdE s ks vs = some x → ZdE s' ks vs = some x
 | [], [], x, h => h
 | [], _ :: _, x, h => by cases h
 | _ :: _, [], x, h => by cases h
 | k :: ks, v :: vs, x, h => by
  obtain ⟨y, e1, h⟩ := Option.bind_eq_some_iff.1 (show ((ZkD s k v).bind fun x => (ZdE s ks vs).bind fun y => some (x, y)) = some x from h)
  obtain ⟨z, e2, h⟩ := Option.bind_eq_some_iff.1 h
  show ((ZkD s' k v).bind fun x => (ZdE s' ks vs).bind fun y => some (x, y)) = some x
  rw [Zpr hs e1, Option.bind_some, Zgn hs e2]; exact h
end
end Go.Shal
set_option linter.unusedVariables false
namespace Go.Shal
open Go.RowKit
section
variable {P : Program} {E : Env} {w0 : World} {R0 : RO} {p : Pr}
variable {g : Gh} {s : St} {a : Act} {w : World}
theorem Zmz {s : St} {d : Option Nat} {m : Option SV} {ok : Bool} {s' : St} (h : val s d m = .go ok s') : ∃ v, m = some v ∧ ok = true ∧ s' = s.put d v := by
 unfold val at h
 split at h
 ·injection h with h1 h2; exact ⟨_, rfl, h1.symm, h2.symm⟩
 ·cases h
theorem ZfC {s : St} {d : Option Nat} {m : Option (Bool × SV)} {ok : Bool} {s' : St} (h : ZgY s d m = .go ok s') : ∃ v, m = some (ok, v) ∧ s' = s.put d v := by
 unfold ZgY at h
 split at h
 ·injection h with h1 h2; exact ⟨_, by rw [h1], h2.symm⟩
 ·cases h
theorem SRep.there {g : Gh} {sv : SV} {v : Value} (h : SRep g sv v) (ht : sv.isThere = true) : ∃ ad, v = .pointer (some ad) := by
 unfold SV.isThere at ht
 split at ht
 ·exact ⟨_, (show CRep g (.ptr _ _) v from h).1⟩
 ·obtain ⟨b, o, cs, e, _⟩ := h
  exact ⟨_, e⟩
 ·rename_i k x
  obtain ⟨b, o, c, e, _⟩ := DRep.one (k := .rp k) rfl h
  simp only [List.cons.injEq, and_true] at e
  exact ⟨_, e⟩
 ·cases ht
theorem ZjZ {s : St} {d : Option Nat} {m : Option SV} {rs x k} (h : val s d m = .call rs x k) : False := by unfold val at h; split at h <;> cases h
theorem Zhr {s : St} {d : Option Nat} {m : Option (Bool × SV)} {rs x k} (h : ZgY s d m = .call rs x k) : False := by unfold ZgY at h; split at h <;> cases h
theorem Zck {o : Oper} {c : Call} (ho : o.op = .call c) {b : Builtin} (hc : c.callee = .builtin b) {v : Value} {w' : World}
  (h : (builtin b c.argTypes o.type (c.args.map fun | .const _ => true | _ => false) (c.args.map a.eval)).run P w = .ok (.value v) w') : (execOp a.eval o).run P w = .ok (.value v) w' := by
 unfold execOp
 simp only [ho]
 rw [Sem.run_bind]
 unfold resolve
 simp only [hc, Sem.run_pure, Result.andThen_ok]
 unfold invoke
 exact h
theorem ZiB {α β : Type} {f : α → β} {l : List α} {x : β} (h : l.map f = [x]) : ∃ y, l = [y] ∧ f y = x := by
 cases l with
 | nil => cases h
 | cons y l => cases l with
  | nil => exact ⟨y, rfl, by simpa using h⟩
  | cons z l => simp at h
theorem ZeQ {α β : Type} {f : α → β} {l : List α} {x y : β} (h : l.map f = [x, y]) : ∃ u v, l = [u, v] ∧ f u = x ∧ f v = y := by
 cases l with
 | nil => cases h
 | cons u l => cases l with
  | nil => simp at h
  | cons v l => cases l with
   | nil => simp at h; exact ⟨u, v, rfl, h.1, h.2⟩
   | cons z l => simp at h
theorem ZqO {k : IntKind} {m n : Int} (b : Bool) (ts : Array TypeId) (ty : TypeId) (w : World) :
  (Builtin.min_ ts ty #[.int k m, .int k n]).run P w = .ok (.int k (min2 m n)) w ∧ (Builtin.max_ ts ty #[.int k m, .int k n]).run P w = .ok (.int k (max2 m n)) w := by
 constructor
 ·unfold Builtin.min_
  simp only [List.foldlM_cons, List.foldlM_nil]
  rw [Sem.run_bind]
  rfl
 ·unfold Builtin.max_
  simp only [List.foldlM_cons, List.foldlM_nil]
  rw [Sem.run_bind]
  rfl
theorem Zqy {k : IntKind} {m n : Int} (h : inR k m) (h' : inR k n) : inR k (min2 m n) ∧ inR k (max2 m n) := by
 unfold min2 max2
 constructor <;> split <;> assumption
theorem Zji (hE : EnvTy P E) (h : Inv w0 R0 p g s a w) {o : Oper} {c : Call} (ho : o.op = .call c) {b : Builtin} (hc : c.callee = .builtin b) {s' : St}
  (he : Zdj E s o.dst b c.argTypes.toList (c.args.toList.map s.eval) = .go true s') : Goes P o a w (Then w0 R0 p s') := by
 unfold Zdj at he
 split at he
 ·
  rename_i t ts x hts hargs
  obtain ⟨x, e1, rfl⟩ := ZiB hargs
  have hargs' : c.args = #[x] := Array.toList_inj.1 e1
  have hx := h.eval x
  split at he
  ·rename_i k xs hsl
   split at he
   ·rename_i ei hel
    obtain ⟨hu, _⟩ := Zbx hE hel
    injection he with _ he
    subst he
    obtain ⟨ad, cap, cells, ev, h1, h2, _⟩ := (hx.asSlice hsl).row
    refine h.val (Zck ho hc ?_) (SRep.int (Zfh (Nat.le_trans h1 h2)))
    simp only [hargs', List.map_toArray, List.map_cons, List.map_nil, builtin]
    rw [ev]
    refine ZbW ?_
    unfold Builtin.len_
    have e2 : c.argTypes[0]? = some t := by rw [← Array.getElem?_toList, hts]; rfl
    simp only [e2, List.getElem?_toArray, List.getElem?_cons_zero, Sem.run_bind, run_underlying hu, Result.andThen_ok]
    rfl
   ·cases he
  ·split at he
   ·rename_i l hl hst
    injection he with _ he
    subst he
    have hu := ZhH hE hst
    obtain ⟨b, ev, rfl, hm⟩ := hx.asStr hl
    rw [ZbI]
    refine h.val (Zck ho hc ?_) (SRep.int (Zfh hm))
    simp only [hargs', List.map_toArray, List.map_cons, List.map_nil, builtin]
    rw [ev]
    refine ZbW ?_
    unfold Builtin.len_
    have e2 : c.argTypes[0]? = some t := by rw [← Array.getElem?_toList, hts]; rfl
    simp only [e2, List.getElem?_toArray, List.getElem?_cons_zero, Sem.run_bind, run_underlying hu, Result.andThen_ok]
    rfl
   ·split at he
    ·rename_i n ei hmo hel
     obtain ⟨hu, _⟩ := Zbx hE hel
     injection he with _ he
     subst he
     obtain ⟨ad, cap, ev, hm⟩ : ∃ ad cap, a.eval x = .slice ad n cap ∧ n ≤ maxLen := by
      unfold Zsk at hmo
      split at hmo
      ·rename_i k xs hsx
       cases hmo
       rw [hsx] at hx
       rcases hx with ⟨rfl, e⟩ | ⟨q, hκ, e, _, hn, _⟩
       ·exact ⟨none, 0, e, Nat.zero_le _⟩
       ·exact ⟨_, q.c, by rw [e, hn], by rw [← hn]; exact Nat.le_trans (h.mo q hκ).le.1 (h.mo q hκ).le.2⟩
      ·cases hmo
     refine h.val (Zck ho hc ?_) (SRep.int (Zfh hm))
     simp only [hargs', List.map_toArray, List.map_cons, List.map_nil, builtin]
     rw [ev]
     refine ZbW ?_
     unfold Builtin.len_
     have e2 : c.argTypes[0]? = some t := by rw [← Array.getElem?_toList, hts]; rfl
     simp only [e2, List.getElem?_toArray, List.getElem?_cons_zero, Sem.run_bind, run_underlying hu, Result.andThen_ok]
     rfl
    ·cases he
 ·
  rename_i t u x y hts hargs
  obtain ⟨x, y, e1, rfl, rfl⟩ := ZeQ hargs
  split at he
  ·rename_i d hd
   exact ZmD hE h ho hc hts e1 hd he
  ·cases he
 ·
  rename_i x y hargs
  obtain ⟨x, y, e1, rfl, rfl⟩ := ZeQ hargs
  have hargs' : c.args = #[x, y] := Array.toList_inj.1 e1
  split at he
  ·rename_i k m k' n ex ey
   split at he
   ·rename_i hk _
    subst hk
    injection he with _ he
    subst he
    obtain ⟨ev, r1⟩ := (h.eval x).asInt ex
    obtain ⟨ev', r2⟩ := (h.eval y).asInt ey
    refine h.val (Zck ho hc ?_) (SRep.int (Zqy r1 r2).1)
    simp only [hargs', List.map_toArray, List.map_cons, List.map_nil, builtin]
    rw [ev, ev']
    exact ZbW (ZqO true _ _ _).1
   ·cases he
  ·cases he
 ·
  rename_i x y hargs
  obtain ⟨x, y, e1, rfl, rfl⟩ := ZeQ hargs
  have hargs' : c.args = #[x, y] := Array.toList_inj.1 e1
  split at he
  ·rename_i k m k' n ex ey
   split at he
   ·rename_i hk _
    subst hk
    injection he with _ he
    subst he
    obtain ⟨ev, r1⟩ := (h.eval x).asInt ex
    obtain ⟨ev', r2⟩ := (h.eval y).asInt ey
    refine h.val (Zck ho hc ?_) (SRep.int (Zqy r1 r2).2)
    simp only [hargs', List.map_toArray, List.map_cons, List.map_nil, builtin]
    rw [ev, ev']
    exact ZbW (ZqO true _ _ _).2
   ·cases he
  ·cases he
 ·cases he
theorem Zhu {s : St} {d : Option Nat} {b : Builtin} {ts : List Nat} {args : List SV} {rs x k} (he : Zdj E s d b ts args = .call rs x k) : False := by
 unfold Zdj ZdB at he
 repeat' split at he
 all_goals cases he
theorem SRep.typed {sv : SV} {v : Value} (h : SRep g sv v) (i : Option TyInfo) : SRep g (sv.typed i) v := by
 unfold SV.typed
 split
 ·rename_i c
  obtain rfl : v = c := h
  split
  ·rfl
  ·split
   ·rfl
   ·rfl
   ·split
    ·rename_i x hx
     exact DRep.ofVal g.R hx
    ·rfl
 ·exact h
theorem Zqn (hA : ZdW P E R0 p) (h : Inv w0 R0 p g s a w) {n : Nat} {o : Oper} {s' : St} (he : evOp E n o s = .go true s') : Goes P o a w (Then w0 R0 p s') := by
 have hE : EnvTy P E := hA.toEnvOk.toEnvTy
 unfold evOp at he
 simp only [] at he
 split at he
 ·rename_i x ho
  injection he with _ he
  subst he
  exact h.val (by unfold execOp; simp only [ho]; rfl) ((h.eval x).typed _)
 ·rename_i x ho
  injection he with _ he
  subst he
  exact h.val (by unfold execOp; simp only [ho]; rfl) ((h.eval x).typed _)
 ·
  rename_i t x ho
  split at he
  ·rename_i s'' hb
   injection he with _ he
   subst he
   obtain ⟨u, w', hr, hT⟩ := Zoa (P := P) h t ((h.eval x).typed _) hb
   refine Goes.value (v := .pointer (some u)) (w' := w') ?_ hT
   unfold execOp
   simp only [ho]
   refine ZbW ?_
   unfold Instr.box
   rw [Sem.run_bind, hr]; rfl
  ·cases he
 ·
  rename_i t ho
  split at he
  ·rename_i i hty
   obtain ⟨inf, z, ht⟩ := hE.ty t i hty
   split at he
   ·rename_i s'' hb
    injection he with _ he
    subst he
    obtain ⟨u, w', hr, hT⟩ := Zoa (P := P) h t (sv := SV.zeroOf i.kd) (v := z) (SRep.zeroOf ht.zeroIs) hb
    refine Goes.value (v := .pointer (some u)) (w' := w') ?_ hT
    unfold execOp
    simp only [ho]
    refine ZbW ?_
    unfold Instr.alloc
    rw [Sem.run_bind, Zcj ht.info ht.zero, Result.andThen_ok]
    simp only []
    rw [Sem.run_bind, hr]; rfl
   ·cases he
  ·cases he
 ·
  rename_i t parts ho
  split at he
  ·rename_i i hty
   split at he
   ·rename_i hpair
    split at he
    ·rename_i cs hf
     injection he with _ he
     subst he
     have hst : i.kd.isPair = true := hpair
     obtain ⟨v, hr, hv⟩ := ZrM hE h hty hst hf
     exact h.val (by unfold execOp; simp only [ho]; exact ZbW hr) hv
    ·cases he
   ·cases he
  ·cases he
 ·
  rename_i t len parts ho
  split at he
  ·rename_i e i d hel hd
   split at he
   ·cases he
   ·rename_i hlen
    split at he
    ·rename_i xs hf
     injection he with _ he
     subst he
     obtain ⟨v, w', hr, hT⟩ := Zkf hE h hel hlen hf (some d)
     refine Goes.value (v := v) (w' := w') (by unfold execOp; simp only [ho]; exact ZbW hr) ?_
     rw [hd]; exact hT
    ·cases he
  ·cases he
 ·
  rename_i t x y ho
  split at he
  ·rename_i d hd
   obtain ⟨v, w', hr, hT⟩ := ZlT hE h he
   refine Goes.value (v := v) (w' := w') (by unfold execOp; simp only [ho]; exact ZbW hr) ?_
   rw [hd]; exact hT
  ·cases he
 ·
  rename_i t x ho
  obtain ⟨sv, e, rfl⟩ := ZfC he
  obtain ⟨u, hr, hv⟩ := ZoY hE h.toMem ((h.eval x).asR hA.glob h.leR) e
  exact h.val (by unfold execOp; simp only [ho]; exact ZbW hr) hv
 ·
  rename_i t x y ho
  split at he
  ·rename_i s'' hs
   injection he with _ he
   subst he
   obtain ⟨w', g', hr, hI⟩ := Zpd hE h (h.eval x) ((h.eval y).typed _) hs
   exact Goes.skip (w' := w') (by unfold execOp; simp only [ho]; exact Zsy hr) ⟨_, hI.put (sv := .undef) trivial o.dst⟩
  ·cases he
 ·
  rename_i x ho
  split at he
  ·rename_i hx
   injection he with _ he
   subst he
   have hv := h.eval x
   obtain ⟨ad, ea⟩ := hv.there hx
   exact h.val (v := a.eval x) (by unfold execOp; simp only [ho, ea]; rfl) hv
  ·cases he
 ·
  rename_i op t x y u ho
  obtain ⟨sv, e, rfl⟩ := ZfC he
  obtain ⟨v, h1, h2, h3⟩ := Zqf hE (w := w) (h.eval x) (h.eval y) e x y
  refine h.val (by
   unfold execOp
   simp only [ho]
   refine ZbW (v := v) ?_
   rw [Sem.run_bind, h1]
   exact h2) h3
 ·
  rename_i op t x ho
  obtain ⟨sv, e, _, rfl⟩ := Zmz he
  obtain ⟨v, h1, h2⟩ := ZrU (P := P) (w := w) (h.eval x) e
  exact h.val (by unfold execOp; simp only [ho]; exact ZbW h1) h2
 ·
  rename_i t u x ho
  obtain ⟨sv, e, rfl⟩ := ZfC he
  exact Zqb hE h ho e
 ·
  cases he
 ·
  rename_i t x lo hi mx ho
  split at he
  ·obtain ⟨sv, e, rfl⟩ := ZfC he
   obtain ⟨u, hr, hv⟩ := Zpc hE h e
   exact h.val (by unfold execOp; simp only [ho]; exact ZbW hr) hv
  ·split at he
   ·obtain ⟨sv, e, rfl⟩ := ZfC he
    obtain ⟨u, hr, hv⟩ := ZmR hE h e
    exact h.val (by unfold execOp; simp only [ho]; exact ZbW hr) hv
   ·cases he
 ·
  rename_i t x j ho
  obtain ⟨sv, e, _, rfl⟩ := Zmz he
  obtain ⟨u, hr, hv⟩ := Zjj hE ((h.eval x).asR hA.glob h.leR) e w
  exact h.val (by unfold execOp; simp only [ho]; exact ZbW hr) hv
 ·
  rename_i t x j ho
  obtain ⟨sv, e, _, rfl⟩ := Zmz he
  obtain ⟨u, hr, hv⟩ := ZoW hE (h.eval x) e w
  exact h.val (by unfold execOp; simp only [ho]; exact ZbW hr) hv
 ·
  rename_i t x ix ho
  obtain ⟨sv, e, rfl⟩ := ZfC he
  obtain ⟨u, hr, hv⟩ := Zjk hE ((h.eval x).asR hA.glob h.leR) (h.eval ix) e w
  exact h.val (by unfold execOp; simp only [ho]; exact ZbW hr) hv
 ·
  rename_i t x ix ho
  split at he
  ·rename_i l k i hl hi hst
   injection he with hok he
   subst he
   simp only [Bool.and_eq_true, decide_eq_true_eq] at hok
   obtain ⟨b, ev, rfl, hm⟩ := (h.eval x).asStr hl
   obtain ⟨ev', _⟩ := (h.eval ix).asInt hi
   rw [ZbI] at hok
   refine h.val (by
    unfold execOp
    simp only [ho, ev, ev']
    exact ZbW (Zqz (ZhH hE hst) hok.1 hok.2 w)) (SRep.int (ZpY b _))
  ·cases he
 ·
  rename_i x j ho
  split at he
  ·rename_i ks y hx
   obtain ⟨sv, e, _, rfl⟩ := Zmz he
   have hv := h.eval x
   rw [hx] at hv
   obtain ⟨vs, ev, ht⟩ := hv
   obtain ⟨u, h1, h2⟩ := ZsL ht e
   refine h.val (v := u) (by
    unfold execOp
    simp only [ho, ev]
    refine ZbW ?_
    unfold Instr.extract
    simp [h1]) h2
  ·cases he
 ·
  rename_i c ho
  split at he
  ·rename_i b hc
   exact Zji hE h ho hc he
  ·rename_i f hc
   split at he
   ·split at he
    ·split at he
     ·cases he
     ·exact (Znc he).elim
    ·cases he
   ·cases he
  ·cases he
 ·
  rename_i t m k ok ho
  split at he
  ·obtain ⟨sv, e, _, rfl⟩ := Zmz he
   obtain ⟨u, hr, hv⟩ := ZqJ hE h e
   exact h.val (by unfold execOp; simp only [ho]; exact ZbW hr) hv
  ·cases he
 ·cases he
theorem Zqm (hE : ZdW P E R0 p) (h : Inv w0 R0 p g s a w) {n : Nat} {o : Oper} {rs : List Kd} {m : Option (Kd.struct rs).T} {k : (Kd.struct rs).T → St} (he : evOp E n o s = .call rs m k) {r : (Kd.struct rs).T} (hr : m = some r) :
  Goes P o a w (Then w0 R0 p (k r)) := by
 unfold evOp at he
 simp only [] at he
 split at he
 case h_21 c ho =>
  split at he
  ·exact (Zhu he).elim
  ·rename_i f hc
   split at he
   ·rename_i fid hv
    split at he
    ·rename_i C hC
     split at he
     ·rename_i x hx
      cases he
      exact Zqa hE h ho hc hv hC hx hr
     ·obtain ⟨hbare, x, hx, he⟩ := ZkC he
      cases he
      exact Zgm hE h ho hc hv hC hbare (ZiA h C.ps c.args.toList x hx) hr
    ·cases he
   ·cases he
  ·cases he
 all_goals first
  | exact (ZjZ he).elim
  | exact (Zhr he).elim
  | (cases he; done)
  | (unfold Zik at he; (repeat' split at he) <;> (cases he; done))
  | (repeat' split at he) <;> first | (cases he; done) | exact (ZjZ he).elim | exact (Zhr he).elim
end
end Go.Shal
set_option linter.unusedVariables false
namespace Go.Shal
open Go.RowKit
section
variable {P : Program} {E : Env} {w0 : World} {R0 : RO} {p : Pr}
variable {g : Gh} {s : St} {a : Act} {w : World}
theorem Inv.newRowC (h : Inv w0 R0 p g s a w) (cur : Array Value) (ty : TypeId) {k : Kd} {xs : List k.T} (hr : BRep g (.arr k xs) cur.toList) (d : Nat) (n c : Nat) (hn : n ≤ c) (hc : c ≤ maxLen) :
  Then w0 R0 p (({ s with heap := s.heap ++ [Blk.arr k xs] } : St).put (some d) (.sl s.heap.length k n)) (a.put (some d) (.slice (some ⟨w.heap.size, 0, none⟩) n c)) (w.alloc (.cells cur ty)) := by
 have m := h.toMem.alloc cur ty (.arr k xs) (BRep.ext (Gh.newB_ext g w.heap.size) hr)
 have i1 := h.ext m (Gh.newB_ext g w.heap.size)
 refine ⟨_, i1.put (sv := .sl s.heap.length k n) ⟨c, ?_, ?_, hn, hc⟩ (some d)⟩
 ·rw [← h.n]; simp [Gh.newB]
 ·rw [← h.n]; simp [Gh.newB]
theorem Inv.newRow (h : Inv w0 R0 p g s a w) (cur : Array Value) (ty : TypeId) {k : Kd} {xs : List k.T} (hr : Zbp g.R k xs cur.toList) (d : Nat) (n : Nat) (hn : n ≤ maxLen) :
  Then w0 R0 p (({ s with heap := s.heap ++ [Blk.arr k xs] } : St).put (some d) (.sl s.heap.length k n)) (a.put (some d) (.slice (some ⟨w.heap.size, 0, none⟩) n n)) (w.alloc (.cells cur ty)) := h.newRowC cur ty (ZfN hr) d n n (Nat.le_refl _) hn
theorem Zoj {n : Int} (hn : inR .i64 n) : IntKind.i64.wrap n = n := by
 have e1 : IntKind.i64.min = -9223372036854775808 := by decide
 have e2 : IntKind.i64.max = 9223372036854775807 := by decide
 obtain ⟨q1, q2⟩ := hn
 rw [e1] at q1
 rw [e2] at q2
 rw [IntKind.wrap_i64]
 omega
theorem ZgC {t : TypeId} {i : TyInfo} {inf : TypeInfo} {z : Value} (ht : TyOk P t i inf z) (R : RO) (l c : Nat) (hlc : l ≤ c) :
  ∃ zc : Array Value, ((c * inf.size = 0 ∧ zc = #[]) ∨ (¬ c * inf.size = 0 ∧ zc = z.cells)) ∧ Zbp R i.kd (List.replicate l i.kd.zero) ((List.range (l * i.kd.size)).map (zc[· % zc.size]!)) := by
 by_cases h0 : c * inf.size = 0
 ·refine ⟨#[], .inl ⟨h0, rfl⟩, ZfD ht R l (.inl ?_)⟩
  have : l * inf.size ≤ c * inf.size := Nat.mul_le_mul_right _ hlc
  omega
 ·exact ⟨z.cells, .inr ⟨h0, rfl⟩, ZfD ht R l (.inr rfl)⟩
theorem Zlb {t e : TypeId} {i : TyInfo} {inf : TypeInfo} {z : Value} (hu : P.underlying t = some (.slice e)) (ht : TyOk P e i inf z) {b : Nat} (hby : i.bytes = b + 1) {l c : Int} (r1 : inR .i64 l) (r2 : inR .i64 c) (h0 : 0 ≤ l) (h1 : l ≤ c) (h2 : c * ((b + 1 : Nat) : Int) ≤ 140737488355328) {zc : Array Value}
  (hzr : (c.toNat * inf.size = 0 ∧ zc = #[]) ∨ (¬ c.toNat * inf.size = 0 ∧ zc = z.cells)) (w : World) :
  (Instr.makeSlice t (.int .i64 l) (.int .i64 c)).run P w = .ok (.slice (some ⟨w.heap.size, 0, none⟩) l.toNat c.toNat) (w.alloc (.cells ((Array.range (c.toNat * inf.size)).map (zc[· % zc.size]!)) e)) := by
 have hbytes : inf.bytes = b + 1 := by rw [ht.bytes, hby]
 have hcond : (decide (c < 0) || decide ((inf.bytes : Int) * c > 2 ^ 48) || decide (l < 0) || decide (l > c)) = false := by
  rw [hbytes, Int.mul_comm]
  simp only [Bool.or_eq_false_iff, decide_eq_false_iff_not]
  refine ⟨⟨⟨by omega, by omega⟩, by omega⟩, by omega⟩
 unfold Instr.makeSlice
 simp only [Sem.run_bind, run_underlying hu, Result.andThen_ok]
 simp only [Go.asInt, Sem.run_bind, Zcg, Result.andThen_ok, Sem.run_pure, Zeq ht.info]
 rw [Zoj r1, Zoj r2]
 rw [if_neg (by rw [hcond]; simp)]
 simp only [Sem.run_bind, run_askRoom, Result.andThen_ok, ZaY ht.info]
 rcases hzr with ⟨q, rfl⟩ | ⟨q, rfl⟩
 ·rw [if_pos q]
  simp only [Sem.run_bind, Sem.run_pure, Result.andThen_ok]
  rfl
 ·rw [if_neg q]
  simp only [Sem.run_bind, Zcj ht.info ht.zero, Sem.run_pure, Result.andThen_ok]
  rfl
theorem Zpv (hE : EnvTy P E) (h : Inv w0 R0 p g s a w) {t : Nat} {x y : Operand} {d : Nat} {s' : St} (he : ZkI E s d t (s.eval x) (s.eval y) = .go true s') :
  ∃ v w', (Instr.makeSlice t (a.eval x) (a.eval y)).run P w = .ok v w' ∧ Then w0 R0 p s' (a.put (some d) v) w' := by
 unfold ZkI at he
 split at he
 ·cases he
 ·rename_i e i hel
  obtain ⟨hu, inf, z, ht⟩ := Zbx hE hel
  split at he
  ·rename_i l c b hl hc hby
   injection he with hok he
   subst he
   simp only [Bool.and_eq_true, decide_eq_true_eq, LIM] at hok
   obtain ⟨h0, rfl, h2⟩ := hok
   obtain ⟨ev, r1⟩ := (h.eval x).asInt hl
   obtain ⟨ev', r2⟩ := (h.eval y).asInt hc
   obtain ⟨zc, hzr, hrow⟩ := ZgC ht g.R c.toNat c.toNat (Nat.le_refl _)
   refine ⟨_, _, by rw [ev, ev']; exact Zlb hu ht hby r1 r2 h0 (Int.le_refl _) (of_decide_eq_true h2) hzr w, ?_⟩
   have h2' : c * ((b + 1 : Nat) : Int) ≤ 140737488355328 := of_decide_eq_true h2
   have hc64 : c.toNat ≤ 140737488355328 := by
    have : c * 1 ≤ c * ((b + 1 : Nat) : Int) := Int.mul_le_mul_of_nonneg_left (by omega) (by omega)
    omega
   refine h.newRow _ e ?_ d c.toNat (by simp only [maxLen]; omega)
   rw [Array.toList_map, Array.toList_range, ht.size]
   exact hrow
  ·cases he
theorem Znk (hE : EnvTy P E) (h : Inv w0 R0 p g s a w) {t len : Nat} {parts : Array (Nat × Operand)} {d : Nat} {s' : St} (he : ZhL E s d t len (parts.toList.map fun (j, x) => (j, s.eval x)) = .go true s') :
  ∃ v w', (Instr.buildSlice t len (parts.map fun (j, x) => (j, a.eval x))).run P w = .ok v w' ∧ Then w0 R0 p s' (a.put (some d) v) w' := by
 unfold ZhL at he
 split at he
 ·cases he
 ·rename_i e i hel
  obtain ⟨hu, inf, z, ht⟩ := Zbx hE hel
  split at he
  ·cases he
  ·rename_i hlen
   split at he
   ·rename_i xs hf
    injection he with _ he
    subst he
    have hlim : ¬ (len * inf.size > 2 ^ 24) := by rw [ht.size]; have := Nat.le_of_ble_eq_true hlen; rw [Nat.mul_add] at this; omega
    obtain ⟨zc, hzr, hrow⟩ := ZgC ht g.R len len (Nat.le_refl _)
    have hrow' : Zbp g.R i.kd (List.replicate len i.kd.zero) ((Array.range (len * i.kd.size)).map (zc[· % zc.size]!)).toList := by rw [Array.toList_map, Array.toList_range]; exact hrow
    obtain ⟨cells', f1, f2, f3⟩ := Zen h parts.toList _ xs _ hrow' hf
    refine ⟨.slice (some ⟨w.heap.size, 0, none⟩) len len, w.alloc (.cells cells' e), ?_, h.newRow cells' e f2 d len (by have := Nat.le_of_ble_eq_true hlen; rw [Nat.mul_add] at this; simp only [maxLen]; omega)⟩
    unfold Instr.buildSlice
    rw [Sem.run_bind, run_underlying hu, Result.andThen_ok]
    simp only []
    rw [Sem.run_bind, ZaY ht.info, Result.andThen_ok, if_neg hlim]
    have f1' : Instr.fill (fun i_1 => some (i_1 * inf.size, inf.size)) (Array.map (fun x => zc[x % zc.size]!) (Array.range (len * inf.size))) (parts.map fun (j, x) => (j, a.eval x)).toList = some cells' := by
     rw [ht.size, Array.toList_map]; exact f1
    rcases hzr with ⟨h0, rfl⟩ | ⟨h0, rfl⟩
    ·rw [if_pos h0]
     simp only [Sem.run_bind, Sem.run_pure, Result.andThen_ok]
     rw [f1']
     rfl
    ·rw [if_neg h0]
     simp only [Sem.run_bind, Zcj ht.info ht.zero, Sem.run_pure, Result.andThen_ok]
     rw [f1']
     rfl
   ·cases he
theorem ZiD (hE : EnvTy P E) {t b n : Nat} {k : Kd} {ix : SV} {v iv : Value} {d : Option Nat} {s' : St} (hx : SRep g (.sl b k n) v) (hi : SRep g ix iv) (he : Zfz E s d t b k n ix = .go true s') (w : World) :
  ∃ i u, s' = s.put d (.eptr b k n i) ∧ (Instr.indexAt t v iv).run P w = .ok u w ∧ SRep g (.eptr b k n i) u := by
 unfold Zfz at he
 split at he
 ·rename_i ik i q ie hint hel
  obtain ⟨rfl, _⟩ := hi.asInt hint
  obtain ⟨hu, inf, z, ht⟩ := Zbx hE hel
  split at he
  ·rename_i hk _
   subst hk
   injection he with hok he
   subst he
   simp only [Bool.and_eq_true, decide_eq_true_eq] at hok
   obtain ⟨h0, h1⟩ := hok
   obtain ⟨cp, rfl, hb, _⟩ := hx
   refine ⟨i, .pointer (some ⟨g.β b, i.toNat * ie.kd.size, none⟩), rfl, ?_, rfl, hb, h0, h1⟩
   unfold Instr.indexAt
   simp only [Sem.run_bind, Zcg, Result.andThen_ok, run_underlying hu, Sem.run_pure]
   rw [if_pos ⟨h0, h1⟩, Sem.run_bind, ZaY ht.info, Result.andThen_ok, ht.size]
   simp only [Sem.run_pure]
   rw [Addr.add_lit, Nat.zero_add]
  ·cases he
 ·cases he
theorem Zpu (hE : EnvTy P E) (h : Mem w0 R0 p g s.heap w) {t b n : Nat} {k : Kd} {i : Int} {v : Value} {d : Option Nat} {s' : St} (hx : SRep g (.eptr b k n i) v) (he : ZkH E s d t b k n i = .go true s') :
  ∃ sv u, s' = s.put d sv ∧ (Instr.loadAt t v).run P w = .ok u w ∧ SRep g sv u := by
 unfold ZkH at he
 split at he
 ·rename_i ok xs it hrow hty
  split at he
  ·rename_i hk _
   subst hk
   injection he with hok he
   subst he
   obtain ⟨hb, hn⟩ := Zdb hrow hok
   obtain ⟨rfl, hb', h0, h1⟩ := hx
   obtain ⟨inf, z, ht⟩ := hE.ty t it hty
   obtain ⟨cur, ty, hh, hl, hrep⟩ := h.blk b _ hb
   have hi : i.toNat < xs.length := by omega
   obtain ⟨c, e1, e2⟩ := hrep i.toNat xs[i.toNat] (by simp [hi])
   refine ⟨_, it.kd.val c, rfl, ?_, c, by simpa [List.getD, hi] using e1, rfl⟩
   show (do loadVar t (← Instr.sureAddr (.pointer (some ⟨g.β b, i.toNat * it.kd.size, none⟩)))).run P w = _
   rw [Sem.run_bind]
   show (loadVar t ⟨g.β b, i.toNat * it.kd.size, none⟩).run P w = _
   refine Zef ht.info ht.size ht.kd e1.length w fun j u hu => ?_
   have := e2 j u hu
   rw [Array.getElem?_toList] at this
   simp [World.cell?, hh, this]
  ·cases he
 ·cases he
theorem ZfO {g : Gh} {k : Kd} {xs : List k.T} {vs r : List Value} (h : Zbp g.R k xs vs) : BRep g (.arr k xs) (vs ++ r) :=
 ⟨by rw [List.length_append, h.1]; omega, fun i x hx => let ⟨c, h1, h2⟩ := h.2 i x hx; ⟨c, h1, fun j u hu => by
  have := h2 j u hu
  rw [List.getElem?_append_left (List.getElem?_eq_some_iff.1 this).1]; exact this⟩⟩
theorem ZrL {g : Gh} {k : Kd} {xs : List k.T} {vs c : List Value} {j : Nat} {x : k.T} (h : BRep g (.arr k xs) vs) (hj : j < xs.length) (hc : Rep g.R k x c) :
  BRep g (.arr k (xs.set j x)) (vs.take (j * k.size) ++ c ++ vs.drop (j * k.size + c.length)) := by
 have hm : (j + 1) * k.size ≤ xs.length * k.size := Nat.mul_le_mul_right _ hj
 rw [Nat.succ_mul] at hm
 have hl := h.1
 have hcl := hc.length
 have := ZfO (r := vs.drop (xs.length * k.size)) ((Zek h).set hj hc)
 rw [List.take_take, Nat.min_eq_left (by omega), List.append_assoc (vs.take _ ++ c), List.drop_take, ← List.append_assoc] at this
 have e : (vs.drop (j * k.size + c.length)).take (xs.length * k.size - (j * k.size + c.length)) ++ vs.drop (xs.length * k.size) = vs.drop (j * k.size + c.length) := by
  have := List.take_append_drop (xs.length * k.size - (j * k.size + c.length)) (vs.drop (j * k.size + c.length))
  rw [List.drop_drop, show j * k.size + c.length + (xs.length * k.size - (j * k.size + c.length)) = xs.length * k.size by omega] at this
  exact this
 rw [List.append_assoc (vs.take (j * k.size) ++ c), e] at this
 exact this
theorem Znl (hE : EnvTy P E) (h : Inv w0 R0 p g s a w) {t b n : Nat} {k : Kd} {i : Int} {v u : Value} {y : SV} {d : Option Nat} {s' : St} (hx : SRep g (.eptr b k n i) v) (hy : SRep g y u) (he : ZhM E s d t b k n i y = .go true s') :
  ∃ s1 w', s' = s1.put d .undef ∧ (Instr.storeAt t v u).run P w = .ok () w' ∧ Inv w0 R0 p g s1 a w' := by
 unfold ZhM at he
 split at he
 ·rename_i ok xs it x hrow hty has
  split at he
  ·rename_i hk _
   subst hk
   injection he with hok he
   subst he
   obtain ⟨hb, hn⟩ := Zdb hrow hok
   obtain ⟨rfl, hb', h0, h1⟩ := hx
   obtain ⟨inf, z, ht⟩ := hE.ty t it hty
   obtain ⟨cur, ty, hh, hr⟩ := h.blk b _ hb
   have hi : i.toNat < xs.length := by omega
   have hc := (hy.as has).cells
   have hlen := hc.length
   have hfit : i.toNat * it.kd.size + u.cells.toList.length ≤ cur.size := by
    have h3 := hr.1
    rw [Array.length_toList] at h3
    rw [hlen, ← Nat.succ_mul]
    exact Nat.le_trans (Nat.mul_le_mul_right _ hi) h3
   have hst := run_storeCells_at P (g.β b) (i.toNat * it.kd.size) ty u.cells.toList 0 cur w hh (by simpa using hfit) hc.oneCells
   simp only [Nat.add_zero] at hst
   have hnew : BRep g (.arr it.kd (xs.set i.toNat x)) (cur.toList.take (i.toNat * it.kd.size) ++ u.cells.toList ++ cur.toList.drop (i.toNat * it.kd.size + u.cells.toList.length)).toArray.toList := by
    rw [List.toList_toArray]
    exact ZrL hr hi hc
   refine ⟨_, _, rfl, ?_, ⟨h.toMem.store hb hh _ hnew, h.defers, h.slots, h.len⟩⟩
   show (do storeVar t (← Instr.sureAddr (.pointer (some ⟨g.β b, i.toNat * it.kd.size, none⟩))) u).run P w = _
   rw [Sem.run_bind]
   show (storeVar t ⟨g.β b, i.toNat * it.kd.size, none⟩ u).run P w = _
   unfold storeVar
   rw [Sem.run_bind, ZaY ht.info, Result.andThen_ok]
   have hsz : ¬ u.cells.size ≠ inf.size := by rw [ht.size, ← hlen]; simp
   rw [if_neg hsz]
   exact hst
  ·cases he
 ·cases he
theorem Zpy (hE : EnvTy P E) (h : Inv w0 R0 p g s a w) {t : Nat} {x y : Operand} {d : Nat} {s' : St} (he : ZkR E s d t (s.eval x) (s.eval y) = .go true s') :
  ∃ v w', (Instr.makeSlice t (a.eval x) (a.eval y)).run P w = .ok v w' ∧ Then w0 R0 p s' (a.put (some d) v) w' := by
 unfold ZkR at he
 split at he
 ·cases he
 ·rename_i e i hel
  obtain ⟨hu, inf, z, ht⟩ := Zbx hE hel
  split at he
  ·rename_i l c b hl hc hby
   injection he with hok he
   subst he
   simp only [Bool.and_eq_true, decide_eq_true_eq, LIM] at hok
   obtain ⟨h0, h1, hpos, h2⟩ := hok
   obtain ⟨ev, r1⟩ := (h.eval x).asInt hl
   obtain ⟨ev', r2⟩ := (h.eval y).asInt hc
   have h2' : c * ((b + 1 : Nat) : Int) ≤ 140737488355328 := of_decide_eq_true h2
   have hc64 : c.toNat ≤ 140737488355328 := by
    have : c * 1 ≤ c * ((b + 1 : Nat) : Int) := Int.mul_le_mul_of_nonneg_left (by omega) (by omega)
    omega
   obtain ⟨zc, hzr, hrow⟩ := ZgC ht g.R 0 c.toNat (Nat.zero_le _)
   obtain ⟨m, hle⟩ := h.toMem.freshRow ((Array.range (c.toNat * inf.size)).map (zc[· % zc.size]!)) e [] (fun j v hv => by simp at hv)
   have hnl : ∀ u b, live g u b → b ≠ w.heap.size := fun u b hl => by have := ZfV h.toMem hl; omega
   have hext : g.ext { g with R := RO.with g.R w.heap.size [] } := ⟨hle, fun _ _ => rfl, Nat.le_refl _, rfl, rfl, fun _ h => h, fun _ _ h => h, rfl⟩
   have i1 := h.ext m hext
   have m2 := i1.toMem.setTok d (.slice (some ⟨w.heap.size, 0, none⟩) 0 c.toNat) i.kd.size (by
    refine .inr ⟨w.heap.size, 0, c.toNat, _, e, 0, (Gh.setTok_same _ _ _ _).1, by omega, by simp only [maxLen]; omega, by show (w.heap.push _)[w.heap.size]? = _; simp; rfl, ?_, fun o ho => ?_, fun i' hi' => ?_, fun hp => ?_⟩
    ·rw [(Gh.setTok_same _ _ _ _).2]; simp [ht.size]
    ·show RO.with g.R w.heap.size [] w.heap.size o = none
     rw [RO.with_same]
     simp
    ·have := h.toMem.blkLt i' hi'
     show g.β i' ≠ w.heap.size
     omega
    ·have := h.toMem.pLt hp; omega) (by
    rintro u b' hu hl' ⟨n', c', z', e', hc'⟩
    rw [(Gh.setTok_same _ _ _ _).1] at e'
    injection e' with e1 _ _
    injection e1 with e1
    injection e1 with e1
    exact hnl u b' hl' e1.symm) (by
    rintro b' hf ⟨n', c', z', e', hc'⟩
    rw [(Gh.setTok_same _ _ _ _).1] at e'
    injection e' with e1 _ _
    injection e1 with e1
    injection e1 with e1
    have := (h.fr b' hf).1
    omega) (by
    rintro q hq ⟨n', c', z', e', hc'⟩
    rw [(Gh.setTok_same _ _ _ _).1] at e'
    injection e' with e1 _ _
    injection e1 with e1
    injection e1 with e1
    have := h.toMem.moLt hq
    omega)
   refine ⟨_, _, by rw [ev, ev']; exact Zlb hu ht hby r1 r2 h0 h1 h2' hzr w, _, (i1.turn m2 (Zcz _ d _ _)).put (sv := .raw d i.kd l.toNat) ⟨w.heap.size, c.toNat, (Gh.setTok_same _ _ _ _).1, by omega, rfl, by omega, (Gh.setTok_same _ _ _ _).2⟩ (some d)⟩
  ·cases he
theorem ZjR {tk m : Nat} : ∀ {l : List SV} {j : Nat} {k : Kd} {n : Nat}, Zhn tk m l = true → getN l j = .raw tk k n → m = n
 | [], _, _, _, _, h => by cases h
 | v :: r, 0, k, n, hr, h => by
  obtain rfl : v = .raw tk k n := h
  unfold Zhn at hr
  rw [Nat.beq_refl] at hr
  simp only [cond_true, Bool.and_eq_true] at hr
  exact Nat.eq_of_beq_eq_true hr.1
 | v :: r, j + 1, k, n, hr, h => by
  refine ZjR (l := r) (j := j) ?_ h
  cases v with
  | raw t' k' n' =>
   replace hr : cond (Nat.beq tk t') (Nat.beq m n' && Zhn tk m r) (Zhn tk m r) = true := hr
   cases e : Nat.beq tk t' with
   | true => rw [e] at hr; simp only [cond_true, Bool.and_eq_true] at hr; exact hr.2
   | false => rw [e] at hr; exact hr
  | _ => exact hr
theorem Zpx (hE : EnvTy P E) (h : Inv w0 R0 p g s a w) {st u tk n : Nat} {k : Kd} {y : SV} {v x : Value} {d : Option Nat} {s' : St} (ty : TypeId) (hx : SRep g (.raw tk k n) v) (hy : SRep g y x) (he : ZkQ E s d st u tk k n y = .go true s') :
  ∃ q w', (Builtin.copy_ #[st, u] ty #[v, x]).run P w = .ok q w' ∧ Then w0 R0 p s' (a.put d q) w' := by
 unfold ZkQ at he
 split at he
 ·cases he
 ·rename_i e i hel
  obtain ⟨hu, inf, z, ht⟩ := Zbx hE hel
  split at he
  ·rename_i hk ys _ hm
   subst hk
   injection he with hok he
   subst he
   rw [Bool.and_eq_true] at hok
   obtain ⟨hok, hall⟩ := hok
   have hlen : ys.length = n := Nat.eq_of_beq_eq_true hok
   obtain ⟨news, hs, hnr⟩ := (Zey hE h.toMem hy hm).src
   obtain ⟨b, c, e1, e2, rfl, e4, e5⟩ := hx
   rcases h.toMem.tok tk with ⟨a', n', e'⟩ | ⟨b', n', c', cur, ty', z, e', h1, h2, h3, h4, h5, h6, h7⟩
   ·rw [e1] at e'; injection e' with _ q1 q2; omega
   rw [e1] at e'
   injection e' with q1 q2 q3
   injection q1 with q1
   injection q1 with q1 qz
   subst q1 qz q2 q3
   rw [e5] at h4 h5
   simp only [Nat.zero_add] at h4 h5
   have hnl' : news.length = n * i.kd.size := by rw [hs.newsLen, hlen]
   have hfit : 0 + news.length ≤ cur.size := by rw [hnl', h4, Nat.zero_add]; exact Nat.mul_le_mul_right _ e4
   have hrun : (Builtin.copy_ #[st, u] ty #[.slice (some ⟨b, 0, none⟩) n c, x]).run P w = .ok (goInt n) (w.setCells b 0 news) := by
    have hst := run_storeCells_cells (P := P) b 0 news 0 w (fun j hj => by simp [World.cell?, h3]; omega) (fun j hj => by simp [World.frozen?, h3]) hs.one
    have hl := hs.len w
    have hc := hs.cells
    have hmin : Nat.min ys.length n = n := by rw [hlen]; exact Nat.min_self n
    unfold Builtin.copy_
    simp only [List.getElem?_toArray, List.getElem?_cons_zero, List.getElem?_cons_succ, Sem.run_bind, run_underlying hu, Result.andThen_ok, hl, hmin, ZaY ht.info, ht.size]
    rw [← hlen, hc]
    simp only [Result.andThen_ok]
    simp only [Nat.add_zero] at hst
    rw [hst]
    rfl
   refine ⟨goInt n, w.setCells b 0 news, hrun, ?_⟩
   have m1 := h.toMem.setTok tk (.slice none 0 0) 0 (.inl ⟨none, 0, (Gh.setTok_same g tk _ _).1⟩) (by
    rintro u b' hu h1 ⟨n', c', z', e', hc'⟩
    rw [(Gh.setTok_same g tk _ _).1] at e'; cases e') (by
    rintro b' hf ⟨n', c', z', e', hc'⟩
    rw [(Gh.setTok_same g tk _ _).1] at e'; cases e') (by
    rintro q hq ⟨n', c', z', e', hc'⟩
    rw [(Gh.setTok_same g tk _ _).1] at e'; cases e')
   have hnl : ∀ u, ¬ live (g.setTok tk (.slice none 0 0) 0) u b := by
    rintro u ⟨n', c', z', e', hc'⟩
    by_cases hu : u = tk
    ·subst hu; rw [(Gh.setTok_same g u _ _).1] at e'; cases e'
    ·rw [(Gh.setTok_other g tk _ _ hu).1] at e'
     exact hu (h.toMem.tokInj u tk b ⟨n', c', z', e', hc'⟩ ⟨_, _, _, e1, h1⟩)
   have h5' : ∀ o, 0 ≤ o → (g.setTok tk (.slice none 0 0) 0).R b o = none := fun o _ => h5 o (by simp)
   obtain ⟨m2, hle⟩ := m1.inplace h3 h6 h7 hnl h5' news hfit (fun b' n hf e => (h.toMem.fr b' (.inr ⟨n, hf⟩)).2.2.2 tk (by rw [e]; exact ⟨_, _, _, e1, h1⟩)) (fun q hq e => (h.mo q hq).nl tk (by rw [e]; exact ⟨_, _, _, e1, h1⟩))
   obtain ⟨cur', hc1, hc2⟩ := Zcp news 0 w cur h3
   have hbeh : ∀ o, n * i.kd.size ≤ o → RO.behind g.R b 0 news b o = none := fun o hge => by
    unfold RO.behind
    rw [if_pos ⟨rfl, Nat.zero_le _⟩]
    exact List.getElem?_eq_none (by omega)
   have m3 := m2.setTok tk (.slice (some ⟨b, 0, none⟩) n c) i.kd.size (by
    rcases Nat.lt_or_ge n c with hl | hl
    ·exact .inr ⟨b, _, c, cur', ty', 0, (Gh.setTok_same _ _ _ _).1, hl, h2, hc1, by rw [hc2, h4, (Gh.setTok_same _ _ _ _).2, Nat.zero_add], fun o ho' => by
      rw [(Gh.setTok_same _ _ _ _).2, Nat.zero_add] at ho'; exact hbeh o ho', h6, h7⟩
    ·exact .inl ⟨_, c, by rw [(Gh.setTok_same _ _ _ _).1, show n = c by omega]⟩) (by
    rintro u b' hu hl' ⟨n', c', z', e', hc'⟩
    rw [(Gh.setTok_same _ _ _ _).1] at e'
    injection e' with e1 _ _
    injection e1 with e1
    injection e1 with e1
    subst e1
    exact hnl u hl') (by
    rintro b' hf ⟨n', c', z', e', hc'⟩
    rw [(Gh.setTok_same _ _ _ _).1] at e'
    injection e' with q1 _ _
    injection q1 with q1
    injection q1 with q1
    subst q1
    exact (h.toMem.fr b hf).2.2.2 tk ⟨_, _, _, e1, h1⟩) (by
    rintro q hq ⟨n', c', z', e', hc'⟩
    rw [(Gh.setTok_same _ _ _ _).1] at e'
    injection e' with q1 _ _
    injection q1 with q1
    injection q1 with q1
    exact (h.mo q hq).nl tk (q1 ▸ ⟨_, _, _, e1, h1⟩))
   rw [Zfk] at m3
   have t1 := Zcz g tk (.slice none 0 0) 0
   have t2 : (g.setTok tk (.slice none 0 0) 0).turn tk { g.setTok tk (.slice none 0 0) 0 with R := RO.behind (g.setTok tk (.slice none 0 0) 0).R b 0 news } :=
    Zha _ _ hle tk
   have hturn := (t1.trans t2).trans (Zcz _ tk (.slice (some ⟨b, 0, none⟩) n c) i.kd.size)
   have hle' : RO.le g.R (RO.behind g.R b 0 news) := hle
   have key := ZcO (b := b) (o := 0) (cap := c) (hnr.mono hle') (fun j u hu => by
    rw [Nat.zero_add]
    show RO.behind g.R b 0 news b j = some u
    unfold RO.behind
    rw [if_pos ⟨rfl, Nat.zero_le _⟩]; exact hu) (by rw [hlen]; exact e4) h2
   rw [hlen] at key
   have i1 : ∃ g3, Inv w0 R0 p g3 ({ slots := s.slots.map (SV.fill tk i.kd ys), heap := s.heap.map (·.scrub tk) } : St) a (w.setCells b 0 news) := by
    refine ⟨_, m3, h.defers, fun j => ?_, by rw [List.length_map]; exact h.len⟩
    have hf : SV.fill tk i.kd ys .undef = .undef := rfl
    show SRep _ (getN (s.slots.map (SV.fill tk i.kd ys)) j) _
    rw [ZeM _ hf]
    have hj := h.slots j
    generalize hsj : getN s.slots j = sv at hj
    cases sv with
    | raw t' k' n' =>
     show SRep _ (cond (Nat.beq tk t') (.own tk i.kd ys) (.raw t' k' n')) _
     cases et : Nat.beq tk t' with
     | true =>
      obtain rfl := Nat.eq_of_beq_eq_true et
      have hn' := ZjR hall hsj
      rw [hlen] at hn'
      subst hn'
      obtain ⟨b2, c2, f1, f2, f3, f4, f5⟩ := hj
      rw [e1] at f1
      injection f1 with q1 _ q3
      injection q1 with q1
      injection q1 with q1
      subst q1 q3
      rw [f3]
      exact ⟨key, (Gh.setTok_same _ _ _ _).1.symm, (Gh.setTok_same _ _ _ _).2⟩
     | false =>
      have := SRep.scrub hturn (s := .raw t' k' n') hj
      rw [show SV.scrub tk (.raw t' k' n') = cond (Nat.beq tk t') .undef (.raw t' k' n') from rfl, et] at this
      exact this
    | _ => exact SRep.scrub hturn hj
   have hnm : n ≤ maxLen := Nat.le_trans e4 h2
   obtain ⟨g3, i1⟩ := i1
   exact ⟨g3, i1.put (sv := .dat (.int .i64) (n : Int)) (SRep.int (g := g3) (Zfh hnm)) d⟩
  ·cases he
theorem More.ofRow (h : Mem w0 R0 p g s.heap w) {b n u e : Nat} {k : Kd} {xs : List k.T} {v : Value} (hb : getB s.heap b = some (.arr k xs)) (hn : xs.length = n) (hx : SRep g (.sl b k n) v) (hu : P.underlying u = some (.slice e)) : More P g w k u v xs := by
 obtain ⟨cp, rfl, hN, _⟩ := hx
 obtain ⟨cur, ty, hh, hr⟩ := h.blk b _ hb
 have hr := Zek hr
 refine ⟨cur.toList.take (xs.length * k.size), ?_, hr⟩
 have := Src.ofSlice (P := P) (size := k.size) w hu ⟨g.β b, 0, none⟩ xs.length cp (cur.toList.take (xs.length * k.size)) hr.1 (fun j v hv => by
  have hv := Zfs hv
  rw [Addr.add_lit, Nat.zero_add]; rw [Array.getElem?_toList] at hv; simp [World.cell?, hh, hv]) hr.oneCells
 rw [← hn]
 exact this
theorem Zjg (hE : EnvTy P E) (h : Inv w0 R0 p g s a w) {o : Oper} {c : Call} (ho : o.op = .call c) (hc : c.callee = .builtin .append) {t u : Nat} (hts : c.argTypes.toList = [t, u]) {x y : Operand} (hargs : c.args.toList = [x, y]) {d : Nat} (hd : o.dst = some d)
  {b n : Nat} {k : Kd} {xs : List k.T} (hy : s.eval y = .sl b k n) (hb : getB s.heap b = some (.arr k xs)) (hn : xs.length = n) {s' : St} (he : ZdB E s d t u (s.eval x) (.dat (.slice k) xs) = .go true s') : Goes P o a w (Then w0 R0 p s') := by
 unfold ZdB at he
 split at he
 ·cases he
 ·rename_i e i hel
  obtain ⟨hu, inf, z, ht⟩ := Zbx hE hel
  split at he
  ·rename_i ys tk xs' bb hm ho' hby
   injection he with hok hs'
   have hok := of_decide_eq_true hok
   simp only [LIM] at hok
   have hyr := h.eval y
   rw [hy] at hyr
   have hmore : More P g w i.kd u (a.eval y) ys := by
    unfold Zge at hm
    simp only [asSlice] at hm
    split at hm
    ·rename_i ei hel'
     obtain ⟨hu', _⟩ := Zbx hE hel'
     obtain ⟨e1, rfl⟩ := Zbr hm
     injection e1 with e1
     subst e1
     exact More.ofRow h.toMem hb hn hyr hu'
    ·cases hm
   have hz := (DRep.ofVal g.R ht.zeroIs).cells.length
   obtain ⟨v', w', hr, hT⟩ := ZjB (ty := o.type) hu ht.info ht.zero ht.size (by simpa using hz) (by rw [ht.bytes, hby]; omega) h hmore (by rw [ht.bytes, hby]; exact hok) (h.eval x) ho'
   subst hs'
   refine Goes.value (v := v') (w' := w') ?_ ?_
   ·unfold execOp
    simp only [ho]
    rw [Sem.run_bind]
    unfold resolve
    have e1 : c.args = #[x, y] := Array.toList_inj.1 hargs
    have e2 : c.argTypes = #[t, u] := Array.toList_inj.1 hts
    simp only [hc, Sem.run_pure, Result.andThen_ok, e1, e2, List.map_toArray, List.map_cons, List.map_nil]
    unfold invoke
    simp only [builtin]
    exact ZbW hr
   ·rw [hd]
    exact hT
  ·cases he
theorem Zjq (hE : EnvTy P E) (h : Inv w0 R0 p g s a w) {o : Oper} {c : Call} (ho : o.op = .call c) (hc : c.callee = .builtin .append) {t u : Nat} (hts : c.argTypes.toList = [t, u]) {x y : Operand} (hargs : c.args.toList = [x, y]) {d : Nat} (hd : o.dst = some d)
  {k0 : Kd} (hx : s.eval x = .fresh k0 []) {s' : St} (he : Zgo E s d t u (s.eval y) = .go true s') : Goes P o a w (Then w0 R0 p s') := by
 unfold Zgo at he
 split at he
 ·cases he
 ·rename_i e i hel
  obtain ⟨hu, inf, z, ht⟩ := Zbx hE hel
  split at he
  ·rename_i ys b hm hby
   injection he with hok hs'
   rw [Bool.and_eq_true] at hok
   have h1 := Nat.le_of_ble_eq_true hok.1
   have hlim := of_decide_eq_true hok.2
   simp only [LIM] at hlim
   have hmore := Zey hE h.toMem (h.eval y) hm
   obtain ⟨news, hs, hnr⟩ := hmore.src
   have hv := h.eval x
   rw [hx] at hv
   obtain ⟨hrep, bb, n, ev, hφ⟩ : CRep g (.fresh k0 []) (a.eval x) := hv
   obtain ⟨ad, cap, e1, _⟩ := hrep
   rw [ev] at e1
   simp only [List.cons.injEq, and_true, Value.slice.injEq, List.length_nil] at e1
   obtain ⟨-, rfl, -⟩ := e1
   have hbb : inf.bytes = b + 1 := by rw [ht.bytes, hby]
   have hold : (Builtin.firstCells inf.size 0 (.slice (some ⟨bb, 0, none⟩) 0 0)).run P w.drew = .ok ([] : List Value).toArray w.drew := run_firstCells_some w.drew inf.size 0 ⟨bb, 0, none⟩ 0 0 [] (by simp) (fun j v hv => by simp at hv)
   have hrun := run_append_grow_src (P := P) w t u o.type e inf z hu ht.info ht.zero (some ⟨bb, 0, none⟩) 0 0 [] hold (a.eval y) ys.length news (ht.size ▸ hs) (by omega) (by have : ys.length ≤ ys.length * (b + 1) := Nat.le_mul_of_pos_right _ (by omega); omega) (growslice_fits (by omega) (by rw [hbb, Nat.zero_add]; exact hlim))
   have hge := grownCap_ge w (0 + ys.length) 0 e
   have hle' := grownCap_le_maxLen w (0 + ys.length) 0 e (by have : ys.length ≤ ys.length * (b + 1) := Nat.le_mul_of_pos_right _ (by omega); simp only [maxLen]; omega)
   have hbr : BRep g (.arr i.kd ys) (((([] : List Value) ++ news).toArray ++ Builtin.zeroCells z.cells (grownCap w (0 + ys.length) 0 e - (0 + ys.length))).toList) := by
    rw [Array.toList_append, List.toList_toArray, List.nil_append]
    exact ZfO hnr
   have hrow := (h.drew).newRowC _ e hbr d ys.length (grownCap w (0 + ys.length) 0 e) (by omega) hle'
   subst hs'
   refine Goes.value (v := _) (w' := _) ?_ (by rw [hd]; exact hrow)
   unfold execOp
   simp only [ho]
   rw [Sem.run_bind]
   unfold resolve
   have e1 : c.args = #[x, y] := Array.toList_inj.1 hargs
   have e2 : c.argTypes = #[t, u] := Array.toList_inj.1 hts
   simp only [hc, Sem.run_pure, Result.andThen_ok, e1, e2, List.map_toArray, List.map_cons, List.map_nil]
   unfold invoke
   simp only [builtin]
   rw [ev]
   rw [Nat.zero_add] at hrun ⊢
   exact ZbW hrun
  ·cases he
theorem ZlV (hE : EnvTy P E) (h : Inv w0 R0 p g s a w) {o : Oper} {c : Call} (ho : o.op = .call c) {b : Builtin} (hc : c.callee = .builtin b) {s' : St}
  (he : ZkG E s o.dst b c.argTypes.toList (c.args.toList.map s.eval) = some (.go true s')) : Goes P o a w (Then w0 R0 p s') := by
 unfold ZkG at he
 split at he
 ·
  rename_i t bb k n hts hargs
  obtain ⟨x, e1, ex⟩ := ZiB hargs
  have hargs' : c.args = #[x] := Array.toList_inj.1 e1
  have hx := h.eval x
  rw [ex] at hx
  injection he with he
  split at he
  ·rename_i ei hel
   obtain ⟨hu, _⟩ := Zbx hE hel
   injection he with _ he
   subst he
   obtain ⟨cp, ev, hN, hm0, hm1⟩ := hx
   have hm := Nat.le_trans hm0 hm1
   refine h.val (Zck ho hc ?_) (SRep.int (Zfh hm))
   simp only [hargs', List.map_toArray, List.map_cons, List.map_nil, builtin]
   rw [ev]
   refine ZbW ?_
   have e2 : c.argTypes = #[t] := Array.toList_inj.1 hts
   rw [e2]
   exact ZkB hu _ w
  ·cases he
 ·
  rename_i t u sx bb k n hts hargs
  obtain ⟨x, y, e1, ex, ey⟩ := ZeQ hargs
  split at he
  ·rename_i d hd
   split at he
   ·rename_i ok xs hrow
    split at he
    ·rename_i ok' s1 hap
     injection he with he
     injection he with hok he
     rw [Bool.and_eq_true] at hok
     obtain ⟨q1, q2⟩ := hok
     subst he
     obtain ⟨r1, r2⟩ := Zdb hrow q1
     rw [← ex, q2] at hap
     exact Zjg hE h ho hc hts e1 hd ey r1 r2 hap
    ·cases he
   ·cases he
  ·cases he
 ·
  rename_i t u tk k n sy hts hargs
  obtain ⟨x, y, e1, ex, ey⟩ := ZeQ hargs
  have hargs' : c.args = #[x, y] := Array.toList_inj.1 e1
  have e2 : c.argTypes = #[t, u] := Array.toList_inj.1 hts
  have hx := h.eval x
  rw [ex] at hx
  rw [← ey] at he
  injection he with he
  obtain ⟨q, w', hr, hT⟩ := Zpx hE h o.type hx (h.eval y) he
  refine Goes.value (v := q) (w' := w') (Zck ho hc ?_) hT
  simp only [hargs', e2, List.map_toArray, List.map_cons, List.map_nil, builtin]
  exact ZbW hr
 ·
  rename_i t u k0 sy hts hargs
  obtain ⟨x, y, e1, ex, ey⟩ := ZeQ hargs
  split at he
  ·rename_i d hd
   split at he
   ·injection he with he
    rw [← ey] at he
    exact Zjq hE h ho hc hts e1 hd ex he
   ·cases he
  ·cases he
 ·cases he
theorem ZcT (sz : Nat) : ∀ (n : Nat) (cs : List Value), cs.length = n * sz → cs = (List.range n).flatMap fun i => (cs.drop (i * sz)).take sz
 | 0, cs, h => by
  have : cs = [] := List.eq_nil_of_length_eq_zero (by simpa using h)
  subst this; rfl
 | n + 1, cs, h => by
  have ih := ZcT sz n (cs.take (n * sz)) (by rw [List.length_take, h, Nat.add_mul]; omega)
  rw [List.range_succ, List.flatMap_append]
  have e1 : ((List.range n).flatMap fun i => (cs.drop (i * sz)).take sz) = cs.take (n * sz) := by
   refine Eq.trans ?_ ih.symm
   simp only [List.flatMap]
   congr 1
   refine List.map_congr_left fun i hi => ?_
   have hi : i < n := by simpa using hi
   have : i * sz + sz ≤ n * sz := by rw [← Nat.succ_mul]; exact Nat.mul_le_mul_right _ hi
   rw [List.drop_take, List.take_take]
   congr 1
   omega
  rw [e1]
  simp only [List.flatMap_cons, List.flatMap_nil, List.append_nil]
  have h3 : (cs.drop (n * sz)).length = sz := by rw [List.length_drop, h, Nat.add_mul, Nat.one_mul]; omega
  have e3 : (cs.drop (n * sz)).take sz = cs.drop (n * sz) := List.take_of_length_le (by omega)
  rw [e3]
  exact (List.take_append_drop _ _).symm
theorem Zpz {R : RO} {k : Kd} {xs : List k.T} {cells : List Value} (h : Zbp R k xs cells) : Rep R (.arr xs.length k) xs cells := by
 refine ⟨rfl, fun i => (cells.drop (i * k.size)).take k.size, fun i x hx => ?_, ZcT k.size xs.length cells h.1⟩
 obtain ⟨c, h1, h2⟩ := h.2 i x hx
 have hl := h1.length
 have hi := (List.getElem?_eq_some_iff.1 hx).1
 have hfit : i * k.size + k.size ≤ cells.length := by rw [h.1, ← Nat.succ_mul]; exact Nat.mul_le_mul_right _ hi
 have e : c = (cells.drop (i * k.size)).take k.size := by
  refine List.ext_getElem? fun j => ?_
  rcases Nat.lt_or_ge j k.size with hj | hj
  ·rw [List.getElem?_take_of_lt hj, List.getElem?_drop]
   have hjc : j < c.length := by omega
   rw [h2 j c[j] (List.getElem?_eq_getElem hjc), List.getElem?_eq_getElem hjc]
  ·rw [List.getElem?_eq_none (by omega), List.getElem?_eq_none (by rw [List.length_take]; omega)]
 show Rep R k x ((cells.drop (i * k.size)).take k.size)
 rw [← e]; exact h1
theorem ZmH (hE : EnvTy P E) (h : Inv w0 R0 p g s a w) {t : TypeId} {i : TyInfo} (hty : E.ty t = some i) {parts : Array (Nat × Operand)} {d : Option Nat} {s' : St}
  (he : ZhC s d i.kd (parts.toList.map fun (j, x) => (j, s.eval x)) = some (.go true s')) : ∃ sv v, s' = s.put d sv ∧ (Instr.build t (parts.map fun (j, x) => (j, a.eval x))).run P w = .ok v w ∧ SRep g sv v := by
 obtain ⟨inf, z, ht⟩ := hE.ty t i hty
 have hzr := (DRep.ofVal g.R ht.zeroIs).cells
 have hkd := ht.kd
 generalize i.kd = kd at he hzr hkd
 unfold ZhC at he
 split at he
 ·rename_i ps n k
  injection he with he
  split at he
  ·rename_i xs hf
   injection he with _ he
   subst he
   obtain ⟨e, inf', hu, hi', hs', _⟩ := hkd
   have hz : Zbp g.R k (List.replicate n k.zero) z.cells.toList := ZjX (n := n) hzr
   obtain ⟨cells', f1, f2, f3⟩ := Zen h parts.toList _ xs _ hz hf
   rw [List.length_replicate] at f3
   have hrep := Zpz f2
   rw [f3] at hrep
   refine ⟨.dat (.arr n k) xs, .agg cells', rfl, ?_, cells'.toList, hrep, by unfold Kd.val; simp [Kd.agg]⟩
   unfold Instr.build
   rw [Sem.run_bind, Zcj ht.info ht.zero, Result.andThen_ok, Sem.run_bind, run_underlying hu, Result.andThen_ok]
   simp only []
   rw [Sem.run_bind, ZaY hi', Result.andThen_ok, hs']
   rw [Array.toList_map, f1]
   rfl
  ·cases he
 ·cases he
theorem two_eq {k : Kd} {n : Nat} {q : IntKind} (h : k.two = some (n, q)) : k = .arr n (.int q) ∧ (n = 2 ∨ n = 4) := by
 unfold Kd.two at h
 split at h
 ·split at h
  ·rename_i hb
   cases h
   rw [Bool.or_eq_true] at hb
   exact ⟨rfl, hb.imp Nat.eq_of_beq_eq_true Nat.eq_of_beq_eq_true⟩
  ·cases h
 ·cases h
theorem ZjK {R : RO} {q : IntKind} {xs : List Int} {cs : List Value} (h : Rep R (.arr 4 (.int q)) xs cs) : ∃ x0 x1 x2 x3, xs = [x0, x1, x2, x3] ∧ cs = [.int q x0, .int q x1, .int q x2, .int q x3] := by
 obtain ⟨hn, f, h1, h2⟩ := h
 match xs, hn with
 | [x0, x1, x2, x3], _ =>
  have e0 := (h1 0 x0 rfl).1
  have e1 := (h1 1 x1 rfl).1
  have e2 := (h1 2 x2 rfl).1
  have e3 := (h1 3 x3 rfl).1
  refine ⟨x0, x1, x2, x3, rfl, ?_⟩
  rw [h2]
  show f 0 ++ (f 1 ++ (f 2 ++ (f 3 ++ []))) = _
  rw [e0, e1, e2, e3]; rfl
theorem Zsx {t e : TypeId} {q q' : IntKind} {inf : TypeInfo} (hu : P.underlying t = some (.array 4 e)) (he : P.underlying e = some (.int q')) (hi : P.info? e = some inf) (hs : inf.size = 1) (x0 x1 x2 x3 y0 y1 y2 y3 : Int) (w : World) :
  (Op.equalIn 10000 t (.agg #[.int q x0, .int q x1, .int q x2, .int q x3]) (.agg #[.int q y0, .int q y1, .int q y2, .int q y3])).run P w = .ok ([x0, x1, x2, x3] == [y0, y1, y2, y3]) w := by
 have hagg : Zev P e = false := by unfold Zev; rw [he]
 have hsome : (P.underlying e).isSome = true := by rw [he]; rfl
 have part' : ∀ (xs : Array Value) (o : Nat) (v : Value), xs[o]? = some v → (part e xs o).run P w = .ok v w := fun xs o v h => by
  unfold part
  rw [Sem.run_bind, ZeB hsome, Result.andThen_ok, hagg]
  simp [h]
 have eq1 : ∀ a b : Int, (Op.equalIn 9999 e (.int q a) (.int q b)).run P w = .ok (a == b) w := fun a b => run_equalIn_int w 9998 e q q' a b he
 rw [show (10000 : Nat) = 9999 + 1 from rfl]
 unfold Op.equalIn
 rw [Sem.run_bind, run_underlying hu, Result.andThen_ok]
 simp only []
 rw [Sem.run_bind, ZaY hi, Result.andThen_ok, hs]
 have p0 := part' #[.int q x0, .int q x1, .int q x2, .int q x3] 0 (.int q x0) rfl
 have p1 := part' #[.int q x0, .int q x1, .int q x2, .int q x3] 1 (.int q x1) rfl
 have p2 := part' #[.int q x0, .int q x1, .int q x2, .int q x3] 2 (.int q x2) rfl
 have p3 := part' #[.int q x0, .int q x1, .int q x2, .int q x3] 3 (.int q x3) rfl
 have q0 := part' #[.int q y0, .int q y1, .int q y2, .int q y3] 0 (.int q y0) rfl
 have q1 := part' #[.int q y0, .int q y1, .int q y2, .int q y3] 1 (.int q y1) rfl
 have q2 := part' #[.int q y0, .int q y1, .int q y2, .int q y3] 2 (.int q y2) rfl
 have q3 := part' #[.int q y0, .int q y1, .int q y2, .int q y3] 3 (.int q y3) rfl
 simp [Std.Legacy.Range.forIn_eq_forIn_range', Std.Legacy.Range.size, List.range', p0, q0, p1, q1, p2, q2, p3, q3, eq1]
 cases h0 : (x0 == y0) <;> cases h1 : (x1 == y1) <;> cases h2 : (x2 == y2) <;> cases h3 : (x3 == y3) <;> simp_all
theorem Zmy {R : RO} {q : IntKind} {xs : List Int} {cs : List Value} (h : Rep R (.arr 2 (.int q)) xs cs) : ∃ x0 x1, xs = [x0, x1] ∧ cs = [.int q x0, .int q x1] := by
 obtain ⟨hn, f, h1, h2⟩ := h
 match xs, hn with
 | [x0, x1], _ =>
  have e0 := (h1 0 x0 rfl).1
  have e1 := (h1 1 x1 rfl).1
  refine ⟨x0, x1, rfl, ?_⟩
  rw [h2]
  show f 0 ++ (f 1 ++ []) = _
  rw [e0, e1]; rfl
theorem Zsw {t e : TypeId} {q q' : IntKind} {inf : TypeInfo} (hu : P.underlying t = some (.array 2 e)) (he : P.underlying e = some (.int q')) (hi : P.info? e = some inf) (hs : inf.size = 1) (x0 x1 y0 y1 : Int) (w : World) :
  (Op.equalIn 10000 t (.agg #[.int q x0, .int q x1]) (.agg #[.int q y0, .int q y1])).run P w = .ok ([x0, x1] == [y0, y1]) w := by
 have hagg : Zev P e = false := by unfold Zev; rw [he]
 have hsome : (P.underlying e).isSome = true := by rw [he]; rfl
 have part' : ∀ (xs : Array Value) (o : Nat) (v : Value), xs[o]? = some v → (part e xs o).run P w = .ok v w := fun xs o v h => by
  unfold part
  rw [Sem.run_bind, ZeB hsome, Result.andThen_ok, hagg]
  simp [h]
 have eq1 : ∀ a b : Int, (Op.equalIn 9999 e (.int q a) (.int q b)).run P w = .ok (a == b) w := fun a b => run_equalIn_int w 9998 e q q' a b he
 rw [show (10000 : Nat) = 9999 + 1 from rfl]
 unfold Op.equalIn
 rw [Sem.run_bind, run_underlying hu, Result.andThen_ok]
 simp only []
 rw [Sem.run_bind, ZaY hi, Result.andThen_ok, hs]
 have p0 := part' #[.int q x0, .int q x1] 0 (.int q x0) rfl
 have p1 := part' #[.int q x0, .int q x1] 1 (.int q x1) rfl
 have q0 := part' #[.int q y0, .int q y1] 0 (.int q y0) rfl
 have q1 := part' #[.int q y0, .int q y1] 1 (.int q y1) rfl
 simp [Std.Legacy.Range.forIn_eq_forIn_range', Std.Legacy.Range.size, List.range', p0, q0, p1, q1, eq1]
 cases h0 : (x0 == y0) <;> cases h1 : (x1 == y1) <;> simp_all
theorem ZrI (hE : EnvTy P E) {op : BinOp} {t : TypeId} {x y : SV} {vx vy : Value} {d : Option Nat} {s' : St} {w : World} (hx : SRep g x vx) (hy : SRep g y vy) (he : ZrH E s d op t x y = some (.go true s')) (ox oy : Operand) :
  ∃ sv v, s' = s.put d sv ∧ ((eqGuard op t ox oy vx vy).run P w = .ok () w) ∧ (binOp op t vx vy).run P w = .ok v w ∧ SRep g sv v := by
 unfold ZrH at he
 split at he
 ·rename_i i hi
  split at he
  ·rename_i q k a k' b hk
   injection he with he
   obtain ⟨inf, z, ht⟩ := hE.ty t i hi
   have hA := ht.eqA (by rw [hk]; rfl)
   have hkd := ht.kd
   obtain ⟨hkk, hn⟩ := two_eq hk
   rw [hkk] at hkd
   obtain ⟨e, inf', hu, hi', hs', _⟩ := hkd
   have hs1 : inf'.size = 1 := hs'
   unfold eqAB at hA
   rw [hu] at hA
   simp only [Bool.and_eq_true, Bool.not_eq_true'] at hA
   obtain ⟨hA1, hA2⟩ := hA
   split at hA1
   ·rename_i q' hue
    split at he
    ·rename_i xs ys h1 h2
     obtain ⟨rfl, rfl⟩ := Zbr h1
     obtain ⟨rfl, rfl⟩ := Zbr h2
     obtain ⟨cx, rx, rfl⟩ := hx
     obtain ⟨cy, ry, rfl⟩ := hy
     obtain ⟨n, q⟩ := q
     have fin : ∀ (va vb : Value) (xs ys : List Int), Kd.val (.arr n (.int q)) cx = va → Kd.val (.arr n (.int q)) cy = vb → a = xs → b = ys → (∃ ca cb, va = .agg ca ∧ vb = .agg cb) → (Op.equalIn 10000 t va vb).run P w = .ok (xs == ys) w →
       ∃ sv v, s' = s.put d sv ∧ ((eqGuard op t ox oy (Kd.val (.arr n (.int q)) cx) (Kd.val (.arr n (.int q)) cy)).run P w = .ok () w) ∧ (binOp op t (Kd.val (.arr n (.int q)) cx) (Kd.val (.arr n (.int q)) cy)).run P w = .ok v w ∧ SRep g sv v := fun va vb xs ys ea eb e1 e2 ⟨ca, cb, q1, q2⟩ hrun => by
      have e1 : a = xs := e1
      subst e1 e2
      rw [ea, eb, q1, q2]
      rw [q1, q2] at hrun
      split at he
      ·injection he with _ he
       exact ⟨_, .bool (a == b), he.symm, run_eqGuard_agg w _ t ox oy _ _ hA2, by rw [run_eql_struct, hrun]; rfl, SRep.bool⟩
      ·injection he with _ he
       exact ⟨_, .bool (!(a == b)), he.symm, run_eqGuard_agg w _ t ox oy _ _ hA2, by rw [run_neq_struct, hrun]; rfl, SRep.bool⟩
      ·cases he
     rcases hn with hn | hn
     ·have hn : n = 2 := hn
      subst hn
      obtain ⟨x0, x1, e1, rfl⟩ := Zmy rx
      obtain ⟨y0, y1, e2, rfl⟩ := Zmy ry
      exact fin _ _ _ _ rfl rfl e1 e2 ⟨_, _, rfl, rfl⟩ (Zsw (P := P) (q := q) hu hue hi' hs1 x0 x1 y0 y1 w)
     ·have hn : n = 4 := hn
      subst hn
      obtain ⟨x0, x1, x2, x3, e1, rfl⟩ := ZjK rx
      obtain ⟨y0, y1, y2, y3, e2, rfl⟩ := ZjK ry
      exact fin _ _ _ _ rfl rfl e1 e2 ⟨_, _, rfl, rfl⟩ (Zsx (P := P) (q := q) hu hue hi' hs1 x0 x1 x2 x3 y0 y1 y2 y3 w)
    ·cases he
   ·cases hA1
  ·cases he
 ·cases he
theorem ZnQ (hE : EnvTy P E) (h : Inv w0 R0 p g s a w) {t u : Nat} {x : Operand} {d : Option Nat} {s' : St} (he : ZhT E s d t u (s.eval x) = some (.go true s')) :
  ∃ sv v w', s' = s.put d sv ∧ (convert t u (a.eval x)).run P w = .ok v w' ∧ Then w0 R0 p (s.put d sv) (a.put d v) w' := by
 unfold ZhT at he
 split at he
 ·rename_i it e ie ht hel
  obtain ⟨inf, z, htt⟩ := hE.ty t it ht
  obtain ⟨hsl, inf2, z2, het⟩ := Zbx hE hel
  split at he
  ·rename_i hk hke
   have hs := htt.kd
   rw [hk] at hs
   have hs : P.underlying t = some .string := hs
   have hek := het.kd
   rw [hke] at hek
   have hek : P.underlying e = some (.int .u8) := hek
   split at he
   ·rename_i l hl
    injection he with he
    injection he with _ he
    subst he
    obtain ⟨b, ev, rfl, hm⟩ := (h.eval x).asStr hl
    have hrun := run_bytes_of_string (P := P) w t u e b hs hsl hek
    have hge := grownCap_ge w b.size 0 e
    have hle' := grownCap_le_maxLen w b.size 0 e hm
    obtain ⟨m, hle⟩ := h.toMem.drew.freshRowF (bytesRow b (grownCap w b.size 0 e)) e ((bytesRow b (grownCap w b.size 0 e)).size, (bytesRow b (grownCap w b.size 0 e)).size + 1) (bytesRow b (grownCap w b.size 0 e)).toList (fun j v hv => by simpa using hv)
    have hext : g.ext { g with R := RO.with g.R w.heap.size (bytesRow b (grownCap w b.size 0 e)).toList } := ⟨hle, fun _ _ => rfl, Nat.le_refl _, rfl, rfl, fun _ h => h, fun _ _ h => h, rfl⟩
    refine ⟨_, _, _, rfl, by rw [ev]; exact hrun, _, (h.drew.ext m hext).put (sv := .dat (.slice (.int .u8)) (bytesOf b)) ?_ d⟩
    have hrow : Zbp (RO.with g.R w.heap.size (bytesRow b (grownCap w b.size 0 e)).toList) (.int .u8) (bytesOf b) (b.data.toList.map fun c => Value.int .u8 c.toNat) := by
     refine ⟨by simp [bytesOf, Kd.size], fun i y hy => ?_⟩
     unfold bytesOf at hy
     rw [List.getElem?_map] at hy
     obtain ⟨c, hc, rfl⟩ := Option.map_eq_some_iff.1 hy
     have hlt := c.toNat_lt
     refine ⟨[.int .u8 c.toNat], ⟨rfl, by simp [inR, IntKind.min, IntKind.max, IntKind.signed, IntKind.bits]; omega⟩, fun j v hv => ?_⟩
     cases j with
     | zero =>
      cases hv
      show (b.data.toList.map fun c => Value.int .u8 c.toNat)[i * 1 + 0]? = _
      rw [Nat.mul_one, Nat.add_zero, List.getElem?_map, hc]
      rfl
     | succ j => simp at hv
    have key := ZcO (b := w.heap.size) (o := 0) (cap := grownCap w b.size 0 e) hrow (fun j v hv => by
     rw [Nat.zero_add]
     refine (RO.with_same g.R w.heap.size _ j).trans ?_
     unfold bytesRow
     rw [Array.toList_append, Array.toList_map, List.getElem?_append_left (List.getElem?_eq_some_iff.1 hv).1]
     exact hv) (by rw [ZbI]; exact hge) hle'
    rw [ZbI] at key
    exact DRep.of_one (k := .slice (.int .u8)) rfl key
   ·cases he
  ·cases he
 ·cases he
theorem Zqo (hE : EnvTy P E) (h : Inv w0 R0 p g s a w) {t : TypeId} {x : Operand} {lo : Option Operand} {d : Nat} {s' : St} (he : Zod E s d t (s.eval x) (lo.map s.eval) = some (.go true s')) :
  ∃ v, (Instr.sliceAt t (a.eval x) (lo.map a.eval) none none).run P w = .ok v w ∧ Then w0 R0 p s' (a.put (some d) v) w := by
 unfold Zod at he
 split at he
 ·rename_i tk k xs hxv
  split at he
  ·rename_i l e ie hl hel
   obtain ⟨hu, inf, zz, ht⟩ := Zbx hE hel
   split at he
   ·rename_i hk _
    subst hk
    injection he with he
    injection he with hok he
    subst he
    rw [Bool.and_eq_true, decide_eq_true_eq, decide_eq_true_eq] at hok
    obtain ⟨h0, h1⟩ := hok
    have hx := h.eval x
    rw [hxv] at hx
    obtain ⟨hrep, hν, hσ⟩ : CRep g (.own tk ie.kd xs) _ := hx
    obtain ⟨ad, cap, cells, e1, e2, e3, e4, e5⟩ := hrep.row
    have hb := Zeg (P := P) (g := g) (lo := lo) (hi := none) (sl := true) (len := xs.length) (cap := cap) (fun x => h.eval x) hl rfl h0 h1 (Int.le_refl _) e2 w
    have hlt : l.toNat ≤ xs.length := by omega
    have hrun : (Instr.sliceAt t (a.eval x) (lo.map a.eval) none none).run P w = .ok (.slice (if cap = l.toNat then ad else ad.map (·.add (l.toNat * ie.kd.size))) (xs.length - l.toNat) (cap - l.toNat)) w := by
     unfold Instr.sliceAt
     rw [Sem.run_bind, run_underlying hu, Result.andThen_ok]
     simp only []
     unfold Instr.slice
     rw [Sem.run_bind, run_underlying hu, Result.andThen_ok, e1]
     simp only []
     rw [Sem.run_bind]
     refine (congrArg (fun r => Result.andThen r _) hb).trans ?_
     rw [Result.andThen_ok]
     simp only []
     rw [Sem.run_bind, ZaY ht.info, Result.andThen_ok, ht.size]
     rfl
    refine ⟨_, hrun, ?_⟩
    generalize hv : Value.slice (if cap = l.toNat then ad else ad.map (·.add (l.toNat * ie.kd.size))) (xs.length - l.toNat) (cap - l.toNat) = v
    have hlen : (xs.drop l.toNat).length = xs.length - l.toNat := List.length_drop
    have hrv : Rep g.R (.slice ie.kd) (xs.drop l.toNat) [v] := by
     rw [← hv]
     rcases e5 with ⟨rfl, rfl⟩ | ⟨b, o, rfl, e5⟩
     ·exact ⟨_, cap - l.toNat, by rw [hlen], by simp, by omega, .inl (by simp)⟩
     ·by_cases hc : cap = l.toNat
      ·have hz : xs.drop l.toNat = [] := List.eq_nil_of_length_eq_zero (by rw [hlen]; omega)
       exact ⟨_, cap - l.toNat, by rw [hlen], by rw [hlen]; omega, by omega, .inl hz⟩
      ·rw [if_neg hc]
       refine ⟨_, cap - l.toNat, by rw [hlen], by rw [hlen]; omega, by omega, .inr ⟨b, o + l.toNat * ie.kd.size, by simp [Addr.add_lit], fun i y hy => ?_⟩⟩
       rw [List.getElem?_drop] at hy
       obtain ⟨c, f1, f2⟩ := e4.2 _ y hy
       refine ⟨c, f1, fun j u hu => ?_⟩
       have := e5 _ u (f2 j u hu)
       rw [show o + l.toNat * ie.kd.size + (i * ie.kd.size + j) = o + ((l.toNat + i) * ie.kd.size + j) by rw [Nat.add_mul]; omega]; exact this
    have i1 := h.fullTok d (v := .slice none 0 0) 0 ⟨none, 0, rfl⟩
    have i2 := i1.fullTok tk (v := .slice none 0 0) 0 ⟨none, 0, rfl⟩
    have back : ∀ u b, live ((g.setTok d (.slice none 0 0) 0).setTok tk (.slice none 0 0) 0) u b → u ≠ tk ∧ live g u b := by
     rintro u b ⟨n', c', z', e, hlt⟩
     by_cases hu : u = tk
     ·subst hu; rw [(Gh.setTok_same _ u _ _).1] at e; cases e
     ·rw [(Gh.setTok_other _ tk _ _ hu).1] at e
      by_cases hu' : u = d
      ·subst hu'; rw [(Gh.setTok_same g u _ _).1] at e; cases e
      ·rw [(Gh.setTok_other g d _ _ hu').1] at e
       exact ⟨hu, n', c', z', e, hlt⟩
    have fwd : ∀ b, live (((g.setTok d (.slice none 0 0) 0).setTok tk (.slice none 0 0) 0).setTok d v ie.kd.size) d b → live g tk b := by
     rintro b ⟨n', c', z', e, hlt'⟩
     rw [(Gh.setTok_same _ d _ _).1, ← hv] at e
     injection e with q1 q2 q3
     rw [if_neg (by omega)] at q1
     cases ad with
     | none => cases q1
     | some ad =>
      obtain ⟨b0, z0, f0⟩ := ad
      rcases h.tok tk with ⟨a', n'', e'⟩ | ⟨b1, n1, c1, cur, ty, z, e', _⟩
      ·rw [← hν, e1] at e'; injection e' with _ r1 r2; omega
      ·have e'' := e'
       rw [← hν, e1] at e''
       injection e'' with r1 r2 r3
       injection r1 with r1
       injection r1 with r1 r4 r5
       subst r1 r4 r5
       simp only [Option.map_some, Addr.add_lit, Option.some.injEq, Addr.mk.injEq] at q1
       exact ⟨n1, c1, z0, by rw [← q1.1]; exact e', by omega⟩
    have i3 := i2.setTok d v ie.kd.size (by
     rcases h.tok tk with ⟨a', n', e'⟩ | ⟨b1, n1, c1, cur, ty, z, e', q1, q2, q3, q4, q5, q6, q7⟩
     ·rw [← hν, e1] at e'
      injection e' with _ r1 r2
      exact .inl ⟨_, cap - l.toNat, by rw [(Gh.setTok_same _ d _ _).1, ← hv, show xs.length = cap by omega]⟩
     ·have e'' := e'
      rw [← hν, e1] at e''
      injection e'' with r1 r2 r3
      subst r1 r2 r3
      rw [hσ] at q4 q5
      have hc : ¬ cap = l.toNat := by omega
      have hm : cap * ie.kd.size = l.toNat * ie.kd.size + (cap - l.toNat) * ie.kd.size := by rw [← Nat.add_mul]; congr 1; omega
      have hm2 : xs.length * ie.kd.size = l.toNat * ie.kd.size + (xs.length - l.toNat) * ie.kd.size := by rw [← Nat.add_mul]; congr 1; omega
      refine .inr ⟨b1, xs.length - l.toNat, cap - l.toNat, cur, ty, z + l.toNat * ie.kd.size, ?_, by omega, by omega, q3, ?_, fun o ho => ?_, q6, q7⟩
      ·rw [(Gh.setTok_same _ d _ _).1, ← hv, if_neg hc]
       simp [Addr.add_lit]
      ·rw [(Gh.setTok_same _ d _ _).2]; omega
      ·rw [(Gh.setTok_same _ d _ _).2] at ho
       exact q5 o (by omega)) (fun u b hu hl hl' => by
     obtain ⟨hut, hg⟩ := back u b hl
     exact hut (h.tokInj u tk b hg (fwd b hl'))) (fun b hf hl => (h.fr b hf).2.2.2 tk (fwd b hl)) (fun q hq hl => (h.mo q hq).nl tk (fwd q.b hl))
    exact ⟨_, i3.put (sv := .own d ie.kd (xs.drop l.toNat)) ⟨hrv, (Gh.setTok_same _ d _ _).1.symm, (Gh.setTok_same _ d _ _).2⟩ (some d)⟩
   ·cases he
  ·cases he
 ·cases he
theorem ZmI (hE : EnvTy P E) {t : TypeId} {x ix : SV} {v iv : Value} {d : Option Nat} {s' : St} (hx : SRep g x v) (hi : SRep g ix iv) (he : ZhD E s d t x ix = some (.go true s')) (w : World) :
  ∃ sv u, s' = s.put d sv ∧ (Instr.index t v iv).run P w = .ok u w ∧ SRep g sv u := by
 unfold ZhD at he
 split at he
 ·rename_i n k xs
  split at he
  ·rename_i ik i it hint hty
   obtain ⟨rfl, _⟩ := hi.asInt hint
   obtain ⟨inf, z, ht⟩ := hE.ty t it hty
   split at he
   ·rename_i hk hag _
    injection he with he
    injection he with hok he
    subst he
    simp only [Bool.and_eq_true, decide_eq_true_eq] at hok
    have hkd := ht.kd
    rw [hk] at hkd
    obtain ⟨e, inf', hu, hi', hs', hsome, hagg⟩ := hkd
    obtain ⟨cs, hr, rfl⟩ := hx
    have hlt : i.toNat < n := by omega
    obtain ⟨c, e1, e2⟩ := Zke hr hlt
    have hag : k.agg = false := by assumption
    have hl := e1.length
    rw [ZeT hag] at hl e2
    obtain ⟨u, rfl⟩ := List.length_eq_one_iff.1 hl
    have hu2 := e2 0 u rfl
    refine ⟨_, u, rfl, ?_, DRep.of_one hag e1⟩
    rw [ZbN rfl]
    unfold Instr.index
    simp only [Sem.run_bind, Zcg, Result.andThen_ok, run_underlying hu]
    rw [if_pos ⟨hok.1, hok.2⟩, Sem.run_bind, ZaY hi', Result.andThen_ok, hs', ZeT hag]
    unfold part
    rw [Sem.run_bind, ZeB hsome, Result.andThen_ok, hagg, hag]
    have : cs.toArray[i.toNat * 1]? = some u := by simpa using hu2
    simp only [Bool.false_eq_true, if_false, this]
    rfl
   ·cases he
  ·cases he
 ·cases he
theorem Znj (hE : EnvTy P E) (h : Inv w0 R0 p g s a w) {d : Nat} {t : TypeId} {s' : St} (he : ZhK E s d t = .go true s') :
  ∃ inf z u w', P.info? t = some inf ∧ inf.zero = some z ∧ (newVar t z).run P w = .ok u w' ∧ Then w0 R0 p s' (a.put (some d) (.pointer (some u))) w' := by
 unfold ZhK at he
 split at he
 ·rename_i i hty
  obtain ⟨inf, z, ht⟩ := hE.ty t i hty
  split at he
  ·rename_i n k hk
   injection he with _ he
   subst he
   have hz := ht.zeroIs
   rw [hk] at hz
   have hr : Rep g.R (.arr n k) (List.replicate n k.zero) z.cells.toList := (DRep.ofVal g.R hz).cells
   have hb : BRep (g.newB w.heap.size) (.arr k (List.replicate n k.zero)) z.cells.toList := ZfN (Zbp.mono (Gh.newB_ext _ _).R (ZjX hr))
   have m := h.toMem.alloc z.cells t (.arr k (List.replicate n k.zero)) hb
   refine ⟨inf, z, ⟨w.heap.size, 0, none⟩, _, ht.info, ht.zero, rfl, g.newB w.heap.size, (h.ext m (Gh.newB_ext _ _)).put (sv := .ptr s.heap.length 0) ⟨?_, ?_⟩ (some d)⟩
   ·simp [Gh.newB, h.n]
   ·simp [Gh.newB, h.n]
  ·cases he
 ·cases he
theorem Zpa (hE : EnvTy P E) (h : Inv w0 R0 p g s a w) {o : Oper} {s' : St} (he : Zqj E o s = some (.go true s')) : Goes P o a w (Then w0 R0 p s') := by
 unfold Zqj at he
 split at he
 ·
  rename_i t x lo hi mx ho
  split at he
  ·rename_i d hd
   split at he
   ·obtain ⟨v, hr, hT⟩ := Zqo hE h he
    refine Goes.value (v := v) (w' := w) (by unfold execOp; simp only [ho]; exact ZbW hr) ?_
    rw [hd]; exact hT
   ·cases he
  ·cases he
 ·
  rename_i t ho
  split at he
  ·cases he
  ·rename_i d hd
   split at he
   ·injection he with he
    obtain ⟨inf, z, u, w', h1, h2, hr, hT⟩ := Znj hE h he
    refine Goes.value (v := .pointer (some u)) (w' := w') ?_ (by rw [hd]; exact hT)
    unfold execOp
    simp only [ho]
    refine ZbW ?_
    unfold Instr.alloc
    rw [Sem.run_bind, Zcj h1 h2, Result.andThen_ok]
    simp only []
    rw [Sem.run_bind, hr]; rfl
   ·cases he
 ·
  rename_i t x y ho
  split at he
  ·cases he
  ·rename_i d hd
   split at he
   ·injection he with he
    obtain ⟨v, w', hr, hT⟩ := Zpv hE h he
    refine Goes.value (v := v) (w' := w') (by unfold execOp; simp only [ho]; exact ZbW hr) ?_
    rw [hd]; exact hT
   ·split at he
    ·injection he with he
     obtain ⟨v, w', hr, hT⟩ := Zpy hE h he
     refine Goes.value (v := v) (w' := w') (by unfold execOp; simp only [ho]; exact ZbW hr) ?_
     rw [hd]; exact hT
    ·cases he
 ·
  rename_i t len parts ho
  split at he
  ·cases he
  ·rename_i d hd
   split at he
   ·injection he with he
    obtain ⟨v, w', hr, hT⟩ := Znk hE h he
    refine Goes.value (v := v) (w' := w') (by unfold execOp; simp only [ho]; exact ZbW hr) ?_
    rw [hd]; exact hT
   ·cases he
 ·
  rename_i t x ix ho
  split at he
  ·rename_i b k n hx
   injection he with he
   have hv := h.eval x
   rw [hx] at hv
   obtain ⟨i, u, rfl, hr, hu⟩ := ZiD hE hv (h.eval ix) he w
   exact h.val (by unfold execOp; simp only [ho]; exact ZbW hr) hu
  ·cases he
 ·
  rename_i t x ho
  split at he
  ·rename_i b k n i hx
   injection he with he
   have hv := h.eval x
   rw [hx] at hv
   obtain ⟨sv, u, rfl, hr, hu⟩ := Zpu hE h.toMem hv he
   exact h.val (by unfold execOp; simp only [ho]; exact ZbW hr) hu
  ·cases he
 ·
  rename_i t x y ho
  split at he
  ·rename_i b k n i hx
   injection he with he
   have hv := h.eval x
   rw [hx] at hv
   obtain ⟨s1, w', rfl, hr, hI⟩ := Znl hE h hv ((h.eval y).typed _) he
   exact Goes.skip (by unfold execOp; simp only [ho]; exact Zsy hr) ⟨g, hI.put (sv := .undef) trivial o.dst⟩
  ·cases he
 ·
  rename_i c ho
  split at he
  ·rename_i b hc
   exact ZlV hE h ho hc he
  ·cases he
 ·
  rename_i t parts ho
  split at he
  ·rename_i i hty
   obtain ⟨sv, v, rfl, hr, hv⟩ := ZmH hE h hty he
   exact h.val (by unfold execOp; simp only [ho]; exact ZbW hr) hv
  ·cases he
 ·
  rename_i op t x y u ho
  obtain ⟨sv, v, rfl, h1, h2, h3⟩ := ZrI (w := w) hE (h.eval x) (h.eval y) he x y
  exact h.val (by
   unfold execOp
   simp only [ho]
   refine ZbW (v := v) ?_
   rw [Sem.run_bind, h1]
   exact h2) h3
 ·
  rename_i t u x ho
  obtain ⟨sv, v, w', rfl, hr, hT⟩ := ZnQ hE h he
  refine Goes.value (v := v) (w' := w') (by unfold execOp; simp only [ho]; exact ZbW hr) hT
 ·
  rename_i t x ix ho
  obtain ⟨sv, u, rfl, hr, hu⟩ := ZmI hE (h.eval x) (h.eval ix) he w
  exact h.val (by unfold execOp; simp only [ho]; exact ZbW hr) hu
 ·rename_i t r ho
  split at he
  ·exact Znd h ho he
  ·cases he
 ·rename_i t m k x ho
  split at he
  ·rename_i b hm
   injection he with he
   exact Zps hE h ho hm he
  ·cases he
 ·cases he
theorem ZlE {o : Oper} {rs m k} (he : Zqj E o s = some (.call rs m k)) : False := by
 unfold Zqj ZkG ZhC ZrH ZhT Zod ZhD Zom at he
 repeat' split at he
 all_goals first
  | (cases he; done)
  | (injection he with he; unfold ZkI at he; (repeat' split at he) <;> cases he; done)
  | (injection he with he; unfold ZkR at he; (repeat' split at he) <;> cases he; done)
  | (injection he with he; unfold ZhK at he; (repeat' split at he) <;> cases he; done)
  | (injection he with he; unfold Zgo at he; (repeat' split at he) <;> cases he; done)
  | (injection he with he; unfold ZhL at he; (repeat' split at he) <;> cases he; done)
  | (injection he with he; unfold Zsf at he; (repeat' split at he) <;> cases he; done)
  | (injection he with he; unfold Zfz at he; (repeat' split at he) <;> cases he; done)
  | (injection he with he; unfold ZkH at he; (repeat' split at he) <;> cases he; done)
  | (injection he with he; unfold ZhM at he; (repeat' split at he) <;> cases he; done)
  | (injection he with he; unfold ZkQ at he; (repeat' split at he) <;> cases he; done)
  | (injection he with he; (repeat' split at he) <;> cases he; done)
theorem Zsd (h : Mem w0 R0 p g s.heap w) {k : Kd} {x : k.T} {sv : SV} {v : Value} (hv : SRep g sv v) (he : Zsc s k sv = some (true, x)) : DRep (ZfF g w) k x v := by
 unfold Zsc at he
 split at he
 ·rename_i b n k'
  have hp : CRep g (.ptr b 0) v := hv
  obtain ⟨rfl, hb⟩ := hp
  have key : ∃ cur ty l, w.heap[g.β b]? = some (.cells cur ty (0, 0)) ∧ Rep g.R (.arr n k') x l ∧ ∀ (j : Nat) u, l[j]? = some u → cur.toList[j]? = some u := by
   unfold rowC at he
   split at he
   ·rename_i cs hblk
    split at he
    ·rename_i y hj
     simp only [Option.some.injEq, Prod.mk.injEq, true_and] at he
     subst he
     obtain ⟨cur, ty, hh, hr⟩ := h.blk b _ hblk
     obtain ⟨c, d, h1, h2, h3⟩ := Rep.join (show All2 (fun s v => s = .undef ∨ CRep g s v) cs cur.toList from hr) hj
     cases h3
     rw [List.append_nil] at h1
     exact ⟨cur, ty, _, hh, h1 ▸ h2, fun _ _ q => q⟩
    ·cases he
   ·obtain ⟨hb', hn⟩ := Zdb he rfl
    obtain ⟨cur, ty, hh, hr⟩ := h.blk b _ hb'
    exact ⟨cur, ty, _, hh, hn ▸ ZjW (Zek hr), fun _ _ q => Zfs q⟩
  obtain ⟨cur, ty, l, hh, hr, hlk⟩ := key
  refine DRep.of_one (k := .rp (.arr n k')) rfl ⟨g.β b, 0, l, rfl, hr.mono (Zeo h), fun j u hu => Zfi h hb hh (hlk j u hu)⟩
 ·rename_i b k0 n k'
  obtain ⟨hb', hn⟩ := Zdb he rfl
  obtain ⟨cur, ty, hh, hr⟩ := h.blk b _ hb'
  obtain ⟨cp, rfl, hb, hm0, hm⟩ := hv
  refine DRep.of_one (k := .slice k') rfl ⟨some ⟨g.β b, 0, none⟩, cp, by rw [hn], by omega, hm, .inr ⟨g.β b, 0, rfl, fun i y hy => ?_⟩⟩
  obtain ⟨c, h1, h2⟩ := hr.2 i y hy
  exact ⟨c, h1.mono (Zeo h), fun j u hu => Zfi h hb hh (h2 j u hu)⟩
 ·rename_i b k0 n c k'
  obtain ⟨⟨ok, ys⟩, e1, e2⟩ := Option.map_eq_some_iff.1 he
  simp only [Prod.mk.injEq] at e2
  obtain ⟨rfl, rfl⟩ := e2
  obtain ⟨hb', hn⟩ := Zdb e1 rfl
  obtain ⟨cur, ty, hh, hr⟩ := h.blk b _ hb'
  obtain ⟨rfl, hb, hm0, hm⟩ := hv
  have hl : (ys.take n).length = n := by rw [List.length_take]; omega
  refine DRep.of_one (k := .slice k') rfl ⟨some ⟨g.β b, 0, none⟩, c, by rw [hl], by rw [hl]; omega, hm, .inr ⟨g.β b, 0, rfl, fun i y hy => ?_⟩⟩
  have hi : i < n := by have := (List.getElem?_eq_some_iff.1 hy).1; omega
  rw [List.getElem?_take_of_lt hi] at hy
  obtain ⟨cl, h1, h2⟩ := hr.2 i y hy
  exact ⟨cl, h1.mono (Zeo h), fun j u hu => Zfi h hb hh (h2 j u hu)⟩
 ·obtain ⟨y, e1, e2⟩ := Option.map_eq_some_iff.1 he
  simp only [Prod.mk.injEq, true_and] at e2
  subst e2
  exact (hv.as e1).mono (Zeo h)
theorem Ziz (h : Inv w0 R0 p g s a w) : ∀ (ks : List Kd) (ops : List Operand) (x : (Kd.struct ks).T), ZhI s ks (ops.map s.eval) = some (true, x) → TRep (ZfF g w) ks x (ops.map a.eval)
 | [], [], x, _ => rfl
 | [], _ :: _, x, he => by cases he
 | _ :: _, [], x, he => by cases he
 | k :: ks, o :: ops, x, he => by
  obtain ⟨⟨b1, y⟩, e1, he⟩ := Option.bind_eq_some_iff.1 (show ((Zsc s k (s.eval o)).bind fun x => (ZhI s ks (ops.map s.eval)).bind fun y => some (x.1 && y.1, x.2, y.2)) = some (true, x) from he)
  obtain ⟨⟨b2, z⟩, e2, he⟩ := Option.bind_eq_some_iff.1 he
  simp only [Option.some.injEq, Prod.mk.injEq, Bool.and_eq_true] at he
  obtain ⟨⟨rfl, rfl⟩, rfl⟩ := he
  exact ⟨a.eval o, ops.map a.eval, rfl, Zsd h.toMem (h.eval o) e1, Ziz h ks ops z e2⟩
theorem ZmO (hE : ZdW P E R0 p) (h : Inv w0 R0 p g s a w) {o : Oper} {n : Nat} {rs : List Kd} {m : Option (Kd.struct rs).T} {k : (Kd.struct rs).T → St} (he : ZlC E n o s = some (true, .call rs m k)) {r : (Kd.struct rs).T} (hr : m = some r) :
  Goes P o a w (Then w0 R0 p (k r)) := by
 unfold ZlC at he
 split at he
 ·rename_i c ho
  split at he
  ·rename_i f hc
   split at he
   ·rename_i fid hv
    split at he
    ·cases he
    ·split at he
     ·cases he
     ·rename_i C hC
      split at he
      ·cases he
      ·rename_i hbare
       split at he
       ·cases he
       ·rename_i ok x hx
        simp only [Option.some.injEq, Prod.mk.injEq] at he
        obtain ⟨rfl, he⟩ := he
        cases he
        exact Zgm hE h ho hc hv hC hbare (Ziz h C.ps c.args.toList x hx) hr
   ·cases he
  ·cases he
 ·cases he
theorem Zqi {o : Oper} {n : Nat} {b ok : Bool} {s' : St} (he : ZlC E n o s = some (b, .go ok s')) : False := by
 unfold ZlC at he
 (repeat' split at he) <;> cases he
end
end Go.Shal
set_option linter.unusedVariables false
namespace Go.Shal
open Go.RowKit
section
variable {P : Program} {E : Env} {w0 : World} {R0 : RO} {p : Pr}
variable {g : Gh} {s : St} {a : Act} {w : World}
def Gh.keepN (g : Gh) (m : Nat) : Gh := { g with N := m }
theorem CRep.cut {m : Nat} {sv : SV} {v : Value} (h : CRep g sv v) : sv.cut m = .undef ∨ CRep (g.keepN (min m g.N)) (sv.cut m) v := by
 cases sv with
 | ptr b o =>
  show (match Nat.ble m b with | true => SV.undef | false => .ptr b o) = _ ∨ CRep _ (match Nat.ble m b with | true => SV.undef | false => .ptr b o) v
  cases e : Nat.ble m b with
  | true => exact .inl rfl
  | false =>
   refine .inr ⟨h.1, ?_⟩
   have : ¬ m ≤ b := fun hh => by rw [Nat.ble_eq_true_of_le hh] at e; cases e
   have hb : b < g.N := h.2
   show b < min m g.N
   omega
 | cst c => exact .inr h
 | dat _ _ => exact .inr h
 | own _ _ _ => exact .inr h
 | fresh _ _ => exact .inr h
 | undef => exact .inl rfl
 | rptr _ _ => exact h.elim
 | tup _ => exact h.elim
 | agg _ => exact h.elim
 | func _ _ => exact h.elim
 | sl _ _ _ => exact h.elim
 | eptr _ _ _ _ => exact h.elim
 | mq _ _ _ => exact h.elim
 | mo _ _ => exact .inr h
 | jk _ _ => exact .inr h
 | jp _ => exact h.elim
 | mp _ => exact h.elim
 | rm _ _ _ _ => exact h.elim
 | raw _ _ _ => exact h.elim
theorem SRep.cut {m : Nat} {sv : SV} {v : Value} (h : SRep g sv v) : SRep (g.keepN (min m g.N)) (sv.cut m) v := by
 cases sv with
 | ptr b o =>
  have := CRep.cut (m := m) (sv := .ptr b o) (v := v) h
  rcases this with e | e
  ·rw [e]; trivial
  ·exact e.srep
 | agg _ => trivial
 | tup _ => trivial
 | func f l => cases l with
  | nil =>
   obtain ⟨vs, e, ha⟩ := h
   cases ha
   exact ⟨[], e, .nil⟩
  | cons _ _ => trivial
 | sl b k n =>
  show SRep _ (match Nat.ble m b with | true => SV.undef | false => .sl b k n) v
  cases e : Nat.ble m b with
  | true => trivial
  | false =>
   obtain ⟨c, h⟩ := h
   refine ⟨c, h.1, ?_, h.2.2⟩
   have : ¬ m ≤ b := fun hh => by rw [Nat.ble_eq_true_of_le hh] at e; cases e
   have hb : b < g.N := h.2.1
   show b < min m g.N
   omega
 | eptr _ _ _ _ => trivial
 | mp b =>
  show SRep _ (match Nat.ble m b with | true => SV.undef | false => .mp b) v
  cases e : Nat.ble m b with
  | true => trivial
  | false =>
   refine ⟨h.1, ?_⟩
   have : ¬ m ≤ b := fun hh => by rw [Nat.ble_eq_true_of_le hh] at e; cases e
   have hb : b < g.N := h.2
   show b < min m g.N
   omega
 | rm b k n c =>
  show SRep _ (match Nat.ble m b with | true => SV.undef | false => .rm b k n c) v
  cases e : Nat.ble m b with
  | true => trivial
  | false =>
   refine ⟨h.1, ?_, h.2.2⟩
   have : ¬ m ≤ b := fun hh => by rw [Nat.ble_eq_true_of_le hh] at e; cases e
   have hb : b < g.N := h.2.1
   show b < min m g.N
   omega
 | _ => exact h
theorem ZdI : ∀ (m : Nat) (l : List Blk), (ZeD m l).length = min m l.length
 | 0, l => by simp [ZeD]
 | m + 1, [] => by simp [ZeD]
 | m + 1, b :: l => by simp only [ZeD, List.length_cons]; rw [ZdI m l]; omega
theorem ZjN : ∀ {m : Nat} {l : List Blk} {i : Nat} {b : Blk}, getB (ZeD m l) i = some b → getB l i = some b
 | 0, l, i, b, h => by cases h
 | m + 1, [], i, b, h => by cases h
 | m + 1, x :: l, 0, b, h => h
 | m + 1, x :: l, i + 1, b, h => ZjN (m := m) (l := l) h
theorem Zoh (f : Blk → Blk) : ∀ (l : List Blk) (i : Nat), getB (l.map f) i = (getB l i).map f
 | [], i => rfl
 | x :: l, 0 => rfl
 | x :: l, i + 1 => Zoh f l i
theorem ZnK (hE : EnvTy P E) (h : Inv w0 R0 p g s a w) {t : Nat} {x y : Operand} {d : Nat} {s' : St} (he : ZhQ E s d t (s.eval x) (s.eval y) = .go true s') :
  ∃ v w', (Instr.makeSlice t (a.eval x) (a.eval y)).run P w = .ok v w' ∧ Then w0 R0 p s' (a.put (some d) v) w' := by
 unfold ZhQ at he
 split at he
 ·cases he
 ·rename_i e i hel
  obtain ⟨hu, inf, z, ht⟩ := Zbx hE hel
  split at he
  ·rename_i l c b hl hc hby
   injection he with hok he
   subst he
   simp only [Bool.and_eq_true, decide_eq_true_eq, LIM] at hok
   obtain ⟨h0, h1, h2⟩ := hok
   obtain ⟨ev, r1⟩ := (h.eval x).asInt hl
   obtain ⟨ev', r2⟩ := (h.eval y).asInt hc
   obtain ⟨zc, hzr, hrow⟩ := ZgC ht g.R c.toNat c.toNat (Nat.le_refl _)
   have h2' : c * ((b + 1 : Nat) : Int) ≤ 140737488355328 := of_decide_eq_true h2
   have hc64 : c.toNat ≤ 140737488355328 := by
    have : c * 1 ≤ c * ((b + 1 : Nat) : Int) := Int.mul_le_mul_of_nonneg_left (by omega) (by omega)
    omega
   have hbr : BRep g (.arr i.kd (List.replicate c.toNat i.kd.zero)) ((Array.range (c.toNat * inf.size)).map (zc[· % zc.size]!)).toList := by
    rw [Array.toList_map, Array.toList_range, ht.size]
    exact ZfN hrow
   have m := h.toMem.alloc ((Array.range (c.toNat * inf.size)).map (zc[· % zc.size]!)) e (.arr i.kd (List.replicate c.toNat i.kd.zero)) (BRep.ext (Gh.newB_ext g w.heap.size) hbr)
   have i1 := h.ext m (Gh.newB_ext g w.heap.size)
   refine ⟨_, _, by rw [ev, ev']; exact Zlb hu ht hby r1 r2 h0 h1 h2' hzr w, _, i1.put (sv := .rm s.heap.length i.kd l.toNat c.toNat) ⟨?_, ?_, by omega, by simp only [maxLen]; omega⟩ (some d)⟩
   ·rw [← h.n]; simp [Gh.newB]
   ·rw [← h.n]; simp [Gh.newB]
  ·cases he
theorem ZpV {g : Gh} {k : Kd} {xs ys : List k.T} {vs news : List Value} {n : Nat} (h : BRep g (.arr k xs) vs) (hn : Zbp g.R k ys news) (hfit : n + ys.length ≤ xs.length) :
  BRep g (.arr k (xs.take n ++ ys ++ xs.drop (n + ys.length))) (vs.take (n * k.size) ++ news ++ vs.drop ((n + ys.length) * k.size)) := by
 have hr := Zek h
 have hlen : n * k.size ≤ vs.length := Nat.le_trans (Nat.mul_le_mul_right _ (by omega)) h.1
 have e0 : vs = vs.take (xs.length * k.size) ++ vs.drop (xs.length * k.size) := (List.take_append_drop _ _).symm
 have r1 : Zbp g.R k (xs.take n) (vs.take (n * k.size)) := by
  refine ⟨by rw [List.length_take, List.length_take, Nat.min_eq_left hlen, Nat.min_eq_left (by omega)], fun i x hi => ?_⟩
  have hin : i < n := by have := (List.getElem?_eq_some_iff.1 hi).1; rw [List.length_take] at this; omega
  rw [List.getElem?_take_of_lt hin] at hi
  obtain ⟨c, h1, h2⟩ := h.2 i x hi
  refine ⟨c, h1, fun j u hu => ?_⟩
  have hj : j < k.size := by rw [← h1.length]; exact (List.getElem?_eq_some_iff.1 hu).1
  have : (i + 1) * k.size ≤ n * k.size := Nat.mul_le_mul_right _ hin
  rw [Nat.succ_mul] at this
  rw [List.getElem?_take_of_lt (by omega)]; exact h2 j u hu
 have r3 : BRep g (.arr k (xs.drop (n + ys.length))) (vs.drop ((n + ys.length) * k.size)) := by
  refine ⟨by rw [List.length_drop, List.length_drop, Nat.sub_mul]; have := h.1; omega, fun i x hi => ?_⟩
  rw [List.getElem?_drop] at hi
  obtain ⟨c, h1, h2⟩ := h.2 _ x hi
  refine ⟨c, h1, fun j u hu => ?_⟩
  rw [List.getElem?_drop, ← Nat.add_assoc, ← Nat.add_mul]; exact h2 j u hu
 have r12 := r1.append hn
 have r3' := Zek r3
 have := ZfO (g := g) (r := (vs.drop ((n + ys.length) * k.size)).drop ((xs.drop (n + ys.length)).length * k.size)) (r12.append r3')
 rw [List.append_assoc (vs.take (n * k.size) ++ news), List.take_append_drop] at this
 exact this
theorem ZkY (hE : EnvTy P E) (h : Inv w0 R0 p g s a w) {t u b n c : Nat} {k : Kd} (ty : TypeId) {x y : Operand} (hx : s.eval x = .rm b k n c) {d : Option Nat} {s' : St} (he : ZfB E s d t u b k n c (s.eval y) = .go true s') :
  ∃ v w', (Builtin.append_ #[t, u] ty #[a.eval x, a.eval y]).run P w = .ok v w' ∧ Then w0 R0 p s' (a.put d v) w' := by
 unfold ZfB at he
 split at he
 ·rename_i e i ok xs ys hel hrow hm
  obtain ⟨hu, inf, z, ht⟩ := Zbx hE hel
  split at he
  ·rename_i hk _
   subst hk
   injection he with hok he
   subst he
   rw [Bool.and_eq_true] at hok
   obtain ⟨hok1, hok2⟩ := hok
   have hroom := Nat.le_of_ble_eq_true hok2
   obtain ⟨hb, hn⟩ := Zdb hrow hok1
   have hv := h.eval x
   rw [hx] at hv
   obtain ⟨ev, hN, hnc, hcm⟩ := hv
   have hmore := Zey hE h.toMem (h.eval y) hm
   obtain ⟨news, hs, hnr⟩ := hmore.src
   obtain ⟨cur, cty, hh, hr⟩ := h.blk b _ hb
   have hcur : c * i.kd.size ≤ cur.size := by
    have h3 : xs.length * i.kd.size ≤ cur.toList.length := hr.1
    have h4 : cur.toList.length = cur.size := Array.length_toList
    rw [← hn, ← h4]; exact h3
   have hnl : news.length = ys.length * i.kd.size := hnr.1
   have hfit : (n + ys.length) * i.kd.size ≤ cur.size := Nat.le_trans (Nat.mul_le_mul_right _ hroom) hcur
   rw [Nat.add_mul] at hfit
   have hrun := run_append_room_src (P := P) w t u ty e inf hu ht.info (g.β b) 0 n c (a.eval y) ys.length news (ht.size ▸ hs) hroom
    (fun j hj => by rw [ht.size]; simp [World.cell?, hh]; omega) (fun j hj => by simp [World.frozen?, hh])
   rw [ht.size, Nat.zero_add] at hrun
   obtain ⟨cur', hc1, hc2⟩ := Zcp news (n * i.kd.size) w cur hh
   have hcl : cur'.toList = cur.toList.take (n * i.kd.size) ++ news ++ cur.toList.drop ((n + ys.length) * i.kd.size) := by
    apply List.ext_getElem?
    intro j
    have hq : (w.setCells (g.β b) (n * i.kd.size) news).cell? ⟨g.β b, j, none⟩ = cur'[j]? := by simp [World.cell?, hc1]
    have hq0 : w.cell? ⟨g.β b, j, none⟩ = cur[j]? := by simp [World.cell?, hh]
    rw [Array.getElem?_toList, ← hq]
    have htl : (cur.toList.take (n * i.kd.size)).length = n * i.kd.size := by rw [List.length_take, Array.length_toList]; omega
    by_cases h1 : j < n * i.kd.size
    ·rw [World.cell?_setCells_out (g.β b) news (n * i.kd.size) w ⟨g.β b, j, none⟩ (fun _ _ => .inl h1), hq0, List.append_assoc, List.getElem?_append_left (by omega), List.getElem?_take_of_lt h1, Array.getElem?_toList]
    ·by_cases h2 : j < n * i.kd.size + news.length
     ·have := World.cell?_setCells_in (g.β b) news (n * i.kd.size) w (fun q hq => by simp [World.cell?, hh]; omega) (j - n * i.kd.size) (by omega)
      rw [show n * i.kd.size + (j - n * i.kd.size) = j by omega] at this
      rw [this, List.append_assoc, List.getElem?_append_right (by omega), List.getElem?_append_left (by omega), htl]
      exact (List.getElem?_eq_getElem _).symm
     ·rw [World.cell?_setCells_out (g.β b) news (n * i.kd.size) w ⟨g.β b, j, none⟩ (fun _ _ => .inr (by show n * i.kd.size + news.length ≤ j; omega)), hq0, List.getElem?_append_right (by rw [List.length_append]; omega), List.getElem?_drop, Array.getElem?_toList]
      congr 1
      rw [List.length_append, htl, Nat.add_mul]
      omega
   have hnew : BRep g (.arr i.kd (xs.take n ++ ys ++ xs.drop (n + ys.length))) cur'.toList := by
    rw [hcl]; exact ZpV hr hnr (by omega)
   obtain ⟨hs1, hs2, hs3, hs4⟩ := ZdP (g.β b) news (n * i.kd.size) w
   have m2 := h.toMem.setO (w' := w.setCells (g.β b) (n * i.kd.size) news) (b' := .arr i.kd (xs.take n ++ ys ++ xs.drop (n + ys.length))) hb (fun j hj => Zby _ _ _ _ (fun e => hj e)) (ARep.of ⟨cur', cty, hc1, hnew⟩) hs1 hs2 hs3 hs4
   refine ⟨_, _, by rw [ev]; exact hrun, g, (h.ext m2 (Gh.ext.refl g)).put (sv := .rm b i.kd (n + ys.length) c) ⟨rfl, hN, hroom, hcm⟩ d⟩
  ·cases he
 ·cases he
theorem ZiQ {b m : Nat} : ∀ {l : List SV} {i n' c' : Nat} {k' : Kd}, Zjw b m l = true → getN l i = .rm b k' n' c' → n' ≤ m
 | [], i, _, _, _, _, h => by cases i <;> cases h
 | v :: l, 0, n', c', k', hl, h => by
  obtain rfl : v = .rm b k' n' c' := h
  have hl : cond (Nat.beq b b) (Nat.ble n' m && Zjw b m l) (Zjw b m l) = true := hl
  rw [Nat.beq_refl, cond_true, Bool.and_eq_true] at hl
  exact Nat.le_of_ble_eq_true hl.1
 | v :: l, i + 1, n', c', k', hl, h => by
  refine ZiQ (b := b) (m := m) (l := l) (i := i) (c' := c') (k' := k') ?_ h
  cases v with
  | rm b2 k2 n2 c2 =>
   have hl : cond (Nat.beq b b2) (Nat.ble n2 m && Zjw b m l) (Zjw b m l) = true := hl
   cases e : Nat.beq b b2 with
   | true => rw [e, cond_true, Bool.and_eq_true] at hl; exact hl.2
   | false => rw [e] at hl; exact hl
  | _ => exact hl
theorem Inv.cutBlocks (h : Inv w0 R0 p g s a w) (m : Nat) : ∀ i b, getB ((ZeD m s.heap).map (Blk.cut m)) i = some b → ARep (g.keepN (min m g.N)) b w.heap[g.β i]? := by
 intro i b hi
 rw [Zoh] at hi
 cases e : getB (ZeD m s.heap) i with
 | none => rw [e] at hi; cases hi
 | some b' =>
  rw [e] at hi
  obtain rfl := Option.some.inj hi
  refine (h.blk i b' (ZjN e)).imp (fun vs h2 => ?_) fun _ _ e => by subst e; rfl
  cases b' with
  | arr _ _ => exact h2
  | mp _ _ => exact h2
  | cells cs =>
   show All2 _ (cs.map (·.cut m)) _
   replace h2 : All2 (fun s v => s = .undef ∨ CRep g s v) cs vs := h2
   clear e hi
   induction h2 with
   | nil => exact .nil
   | cons q _ ih =>
    refine .cons ?_ ih
    rcases q with rfl | q
    ·exact .inl rfl
    ·exact q.cut
theorem ZnL (hA : ZdW P E R0 p) (h : Inv w0 R0 p g s a w) {t b n c : Nat} {k : Kd} {x y : Operand} (hx : s.eval x = .rm b k n c) {d : Option Nat} {s' : St} (he : ZhR E s d t b k c (s.eval y) = .go true s') :
  ∃ v, (Instr.sliceAt t (a.eval x) none (some (a.eval y)) none).run P w = .ok v w ∧ Then w0 R0 p s' (a.put d v) w := by
 have hE : EnvTy P E := hA.toEnvOk.toEnvTy
 unfold ZhR at he
 split at he
 ·rename_i e i ok xs ik q hel hrow hq
  obtain ⟨hu, inf, z, ht⟩ := Zbx hE hel
  split at he
  ·rename_i hk _
   subst hk
   injection he with hok he
   subst he
   simp only [Bool.and_eq_true, decide_eq_true_eq] at hok
   obtain ⟨hok1, rfl, ⟨hok2, hok3⟩, hok4⟩ := hok
   have hlast := Nat.eq_of_beq_eq_true hok2
   have hbase := Nat.le_of_ble_eq_true hok3
   obtain ⟨hb, hn⟩ := Zdb hrow hok1
   have hv := h.eval x
   rw [hx] at hv
   obtain ⟨ev, hN, hnc, hcm⟩ := hv
   obtain ⟨cur, cty, hh, hr⟩ := h.blk b _ hb
   obtain ⟨ey, _⟩ := (h.eval y).asInt hq
   have hgN : g.N = b + 1 := by rw [h.n, ← hlast]
   have hrw := Zek hr
   let R' := RO.with g.R (g.β b) (cur.toList.take (xs.length * i.kd.size))
   let g' : Gh := { g with R := R', N := b }
   have hle : g.R.le R' := fun b' o v e => by
    show RO.with g.R (g.β b) _ b' o = some v
    rw [RO.with_other _ _ _ (fun x => by rw [x, h.sepB b hN o] at e; cases e)]; exact e
   have hkeep : g.keepN (min b g.N) = { g with N := b } := by unfold Gh.keepN; rw [hgN, Nat.min_eq_left (by omega)]
   have hext : (g.keepN (min b g.N)).ext g' := by
    rw [hkeep]
    exact ⟨hle, fun _ _ => rfl, Nat.le_refl _, rfl, rfl, fun _ h => h, fun _ _ h => h, rfl⟩
   have hrow' : ∀ m c, m ≤ xs.length → m ≤ c → c ≤ maxLen → Rep R' (.slice i.kd) (xs.take m) [.slice (some ⟨g.β b, 0, none⟩) m c] := fun m c hm hmc hcx => by
    have hl : (xs.take m).length = m := by rw [List.length_take]; omega
    refine ⟨some ⟨g.β b, 0, none⟩, c, by rw [hl], by rw [hl]; exact hmc, hcx, .inr ⟨g.β b, 0, rfl, fun j y hy => ?_⟩⟩
    have hj : j < m := by have := (List.getElem?_eq_some_iff.1 hy).1; omega
    rw [List.getElem?_take_of_lt hj] at hy
    obtain ⟨cl, h1, h2⟩ := hrw.2 j y hy
    refine ⟨cl, h1.mono hle, fun q u hu => ?_⟩
    show RO.with g.R (g.β b) _ (g.β b) _ = some u
    rw [RO.with_same, Nat.zero_add]; exact h2 q u hu
   have hother : ∀ b', b' ≠ g.β b → ∀ o, R' b' o = g.R b' o := fun b' hne o => RO.with_other _ _ _ hne o
   have m' : Mem w0 R0 p g' ((ZeD b s.heap).map (Blk.cut b)) w := by
    have hcut := h.cutBlocks b
    constructor
    ·show b = _
     rw [List.length_map, ZdI, ← hlast]; omega
    ·intro b' o v e
     by_cases hbb : b' = g.β b
     ·subst hbb
      replace e : RO.with g.R (g.β b) _ (g.β b) o = some v := e
      rw [RO.with_same] at e
      have := Zfs e
      rw [Array.getElem?_toList] at this
      simp [World.cell?, hh, this]
     ·replace e : R' b' o = some v := e
      rw [hother b' hbb] at e; exact h.ro _ _ _ e
    ·intro j bl hj
     exact (hcut j bl hj).ext hext
    ·intro j hj o
     have hj : j < b := hj
     show R' (g.β j) o = none
     rw [hother _ (fun e => by have := h.inj j b (by omega) hN e; omega)]; exact h.sepB j (by omega) o
    ·intro j j' hj hj' e
     have hj : j < b := hj
     have hj' : j' < b := hj'
     exact h.inj j j' (by omega) (by omega) e
    ·intro tk
     rcases h.tok tk with ⟨a', n', e⟩ | ⟨b', n', c', cu, ty', z', e, h1, h2, h3, h4, h5, h6, h7⟩
     ·exact .inl ⟨a', n', e⟩
     ·exact .inr ⟨b', n', c', cu, ty', z', e, h1, h2, h3, h4, fun o ho => by show R' b' o = none; rw [hother b' (fun e => h6 b hN e.symm)]; exact h5 o ho, fun j hj => h6 j (by have hj : j < b := hj; omega), h7⟩
    ·exact h.tokInj
    ·intro j hj
     have hj : j < b := hj
     exact h.np j (by omega)
    ·intro b' hf
     obtain ⟨k1, k2, k3, k4⟩ := h.fr b' hf
     exact ⟨k1, k2, fun j hj => k3 j (by have hj : j < b := hj; omega), k4⟩
    ·exact h.old
    ·intro b' o hp
     show R' b' o = _
     rw [hother b' (fun e => h.np b hN (e ▸ hp))]; exact h.oldR b' o hp
    ·exact RO.le_trans h.leR hle
    ·exact h.size
    ·exact h.os
    ·exact h.tape
    ·exact h.output
    ·intro j hj
     have hj2 : j < b := Nat.lt_of_lt_of_le hj (Nat.le_trans hA.base hbase)
     exact ⟨hj2, (h.keep j hj).2⟩
    ·intro b' n' hf
     obtain ⟨q1, q3, q4⟩ := h.jk b' n' hf
     exact ⟨q1, fun o => by show R' b' o = none; rw [hother b' (fun e => (h.fr b' (.inr ⟨n', hf⟩)).2.2.1 b hN e.symm)]; exact q3 o, q4⟩
    ·intro q hq
     have kq := h.mo q hq
     exact kq.mono rfl (fun o => by show R' q.b o = none; rw [hother q.b (fun e => kq.β b hN e.symm)]; exact kq.R o) (fun j hj => kq.β j (by have hj : j < b := hj; omega)) kq.np kq.nl kq.nφ kq.nψ
   have i1 : Inv w0 R0 p g' { slots := s.slots.map (SV.frz b i.kd xs), heap := (ZeD b s.heap).map (Blk.cut b) } a w := by
    refine ⟨m', h.defers, fun j => ?_, by rw [List.length_map]; exact h.len⟩
    have hf : SV.frz b i.kd xs .undef = .undef := rfl
    show SRep g' (getN (s.slots.map (SV.frz b i.kd xs)) j) _
    rw [ZeM _ hf]
    have hj := h.slots j
    generalize hsj : getN s.slots j = sv at hj
    have gen : SRep g' (sv.cut b) (a.tmps.getD j undef) := hj.cut.ext hext
    cases sv with
    | rm b' k' n' c' =>
     show SRep g' (cond (Nat.beq b b') (.dat (.slice i.kd) (xs.take n')) ((SV.rm b' k' n' c').cut b)) _
     cases eb : Nat.beq b b' with
     | false => exact gen
     | true =>
      obtain rfl := Nat.eq_of_beq_eq_true eb
      obtain ⟨q1, _, q2, q3⟩ := hj
      rw [q1]; exact DRep.of_one rfl (hrow' n' c' (ZiQ hok4 hsj) q2 q3)
    | _ => exact gen
   refine ⟨.slice (some ⟨g.β b, 0, none⟩) c c, ?_, g', i1.put (sv := .dat (.slice i.kd) xs) ?_ d⟩
   ·rw [ev, ey]
    have hb1 : (Instr.sliceBounds true n c none (some (.int ik (c : Int))) none).run P w = .ok (0, c, c) w := by
     unfold Instr.sliceBounds
     simp only [Sem.run_bind, Sem.run_pure, Result.andThen_ok]
     rw [ZcC (P := P) rfl (by omega) (Int.le_refl _) w]
     rfl
    unfold Instr.sliceAt
    rw [Sem.run_bind, run_underlying hu, Result.andThen_ok]
    simp only []
    unfold Instr.slice
    rw [Sem.run_bind, run_underlying hu, Result.andThen_ok]
    simp only []
    rw [Sem.run_bind]
    refine (congrArg (fun r => Result.andThen r _) hb1).trans ?_
    rw [Result.andThen_ok]
    simp only []
    rw [Sem.run_bind, ZaY ht.info, Result.andThen_ok, ht.size]
    simp [Addr.add_lit]
   ·have := hrow' xs.length c (Nat.le_refl _) (by omega) hcm
    rw [List.take_length, hn] at this
    exact DRep.of_one rfl this
  ·cases he
 ·cases he
theorem ZpD (hA : ZdW P E R0 p) (h : Inv w0 R0 p g s a w) {b n c : Nat} {k : Kd} {x : Operand} (hx : s.eval x = .rm b k n c) {d : Option Nat} {s' : St} (he : Zla E s d b k n c = .go true s') :
  Then w0 R0 p s' (a.put d (a.eval x)) w := by
 have hE : EnvTy P E := hA.toEnvOk.toEnvTy
 unfold Zla at he
 split at he
 ·rename_i ok xs hrow
  ·injection he with hok he
   subst he
   simp only [Bool.and_eq_true] at hok
   obtain ⟨hok1, ⟨hok2, hok3⟩, hok4⟩ := hok
   have hlast := Nat.eq_of_beq_eq_true hok2
   have hbase := Nat.le_of_ble_eq_true hok3
   obtain ⟨hb, hn⟩ := Zdb hrow hok1
   have hv := h.eval x
   rw [hx] at hv
   obtain ⟨ev, hN, hnc, hcm⟩ := hv
   obtain ⟨cur, cty, hh, hr⟩ := h.blk b _ hb
   have hgN : g.N = b + 1 := by rw [h.n, ← hlast]
   have hrw := Zek hr
   let R' := RO.with g.R (g.β b) (cur.toList.take (xs.length * k.size))
   let g' : Gh := { g with R := R', N := b }
   have hle : g.R.le R' := fun b' o v e => by
    show RO.with g.R (g.β b) _ b' o = some v
    rw [RO.with_other _ _ _ (fun x => by rw [x, h.sepB b hN o] at e; cases e)]; exact e
   have hkeep : g.keepN (min b g.N) = { g with N := b } := by unfold Gh.keepN; rw [hgN, Nat.min_eq_left (by omega)]
   have hext : (g.keepN (min b g.N)).ext g' := by
    rw [hkeep]
    exact ⟨hle, fun _ _ => rfl, Nat.le_refl _, rfl, rfl, fun _ h => h, fun _ _ h => h, rfl⟩
   have hrow' : ∀ m c, m ≤ xs.length → m ≤ c → c ≤ maxLen → Rep R' (.slice k) (xs.take m) [.slice (some ⟨g.β b, 0, none⟩) m c] := fun m c hm hmc hcx => by
    have hl : (xs.take m).length = m := by rw [List.length_take]; omega
    refine ⟨some ⟨g.β b, 0, none⟩, c, by rw [hl], by rw [hl]; exact hmc, hcx, .inr ⟨g.β b, 0, rfl, fun j y hy => ?_⟩⟩
    have hj : j < m := by have := (List.getElem?_eq_some_iff.1 hy).1; omega
    rw [List.getElem?_take_of_lt hj] at hy
    obtain ⟨cl, h1, h2⟩ := hrw.2 j y hy
    refine ⟨cl, h1.mono hle, fun q u hu => ?_⟩
    show RO.with g.R (g.β b) _ (g.β b) _ = some u
    rw [RO.with_same, Nat.zero_add]; exact h2 q u hu
   have hother : ∀ b', b' ≠ g.β b → ∀ o, R' b' o = g.R b' o := fun b' hne o => RO.with_other _ _ _ hne o
   have m' : Mem w0 R0 p g' ((ZeD b s.heap).map (Blk.cut b)) w := by
    have hcut := h.cutBlocks b
    constructor
    ·show b = _
     rw [List.length_map, ZdI, ← hlast]; omega
    ·intro b' o v e
     by_cases hbb : b' = g.β b
     ·subst hbb
      replace e : RO.with g.R (g.β b) _ (g.β b) o = some v := e
      rw [RO.with_same] at e
      have := Zfs e
      rw [Array.getElem?_toList] at this
      simp [World.cell?, hh, this]
     ·replace e : R' b' o = some v := e
      rw [hother b' hbb] at e; exact h.ro _ _ _ e
    ·intro j bl hj
     exact (hcut j bl hj).ext hext
    ·intro j hj o
     have hj : j < b := hj
     show R' (g.β j) o = none
     rw [hother _ (fun e => by have := h.inj j b (by omega) hN e; omega)]; exact h.sepB j (by omega) o
    ·intro j j' hj hj' e
     have hj : j < b := hj
     have hj' : j' < b := hj'
     exact h.inj j j' (by omega) (by omega) e
    ·intro tk
     rcases h.tok tk with ⟨a', n', e⟩ | ⟨b', n', c', cu, ty', z', e, h1, h2, h3, h4, h5, h6, h7⟩
     ·exact .inl ⟨a', n', e⟩
     ·exact .inr ⟨b', n', c', cu, ty', z', e, h1, h2, h3, h4, fun o ho => by show R' b' o = none; rw [hother b' (fun e => h6 b hN e.symm)]; exact h5 o ho, fun j hj => h6 j (by have hj : j < b := hj; omega), h7⟩
    ·exact h.tokInj
    ·intro j hj
     have hj : j < b := hj
     exact h.np j (by omega)
    ·intro b' hf
     obtain ⟨k1, k2, k3, k4⟩ := h.fr b' hf
     exact ⟨k1, k2, fun j hj => k3 j (by have hj : j < b := hj; omega), k4⟩
    ·exact h.old
    ·intro b' o hp
     show R' b' o = _
     rw [hother b' (fun e => h.np b hN (e ▸ hp))]; exact h.oldR b' o hp
    ·exact RO.le_trans h.leR hle
    ·exact h.size
    ·exact h.os
    ·exact h.tape
    ·exact h.output
    ·intro j hj
     have hj2 : j < b := Nat.lt_of_lt_of_le hj (Nat.le_trans hA.base hbase)
     exact ⟨hj2, (h.keep j hj).2⟩
    ·intro b' n' hf
     obtain ⟨q1, q3, q4⟩ := h.jk b' n' hf
     exact ⟨q1, fun o => by show R' b' o = none; rw [hother b' (fun e => (h.fr b' (.inr ⟨n', hf⟩)).2.2.1 b hN e.symm)]; exact q3 o, q4⟩
    ·intro q hq
     have kq := h.mo q hq
     exact kq.mono rfl (fun o => by show R' q.b o = none; rw [hother q.b (fun e => kq.β b hN e.symm)]; exact kq.R o) (fun j hj => kq.β j (by have hj : j < b := hj; omega)) kq.np kq.nl kq.nφ kq.nψ
   have i1 : Inv w0 R0 p g' { slots := s.slots.map (SV.frz b k xs), heap := (ZeD b s.heap).map (Blk.cut b) } a w := by
    refine ⟨m', h.defers, fun j => ?_, by rw [List.length_map]; exact h.len⟩
    have hf : SV.frz b k xs .undef = .undef := rfl
    show SRep g' (getN (s.slots.map (SV.frz b k xs)) j) _
    rw [ZeM _ hf]
    have hj := h.slots j
    generalize hsj : getN s.slots j = sv at hj
    have gen : SRep g' (sv.cut b) (a.tmps.getD j undef) := hj.cut.ext hext
    cases sv with
    | rm b' k' n' c' =>
     show SRep g' (cond (Nat.beq b b') (.dat (.slice k) (xs.take n')) ((SV.rm b' k' n' c').cut b)) _
     cases eb : Nat.beq b b' with
     | false => exact gen
     | true =>
      obtain rfl := Nat.eq_of_beq_eq_true eb
      obtain ⟨q1, _, q2, q3⟩ := hj
      rw [q1]; exact DRep.of_one rfl (hrow' n' c' (ZiQ hok4 hsj) q2 q3)
    | _ => exact gen
   refine ⟨g', i1.put (sv := .dat (.slice k) (xs.take n)) ?_ d⟩
   rw [ev]
   exact DRep.of_one rfl (hrow' n c (by omega) hnc hcm)
 ·cases he
theorem ZnI (hE : EnvTy P E) (h : Inv w0 R0 p g s a w) {t u b n c : Nat} {k : Kd} {x y : Operand} (ty : TypeId) (hx : s.eval x = .rm b k n c) {d : Option Nat} {s' : St} (he : ZhO E s d t k u (s.eval y) = .go true s') :
  (Builtin.copy_ #[t, u] ty #[a.eval x, a.eval y]).run P w = .ok (goInt 0) w ∧ s' = s.put d (.dat (.int .i64) 0) := by
 unfold ZhO at he
 split at he
 ·cases he
 ·rename_i e i hel
  obtain ⟨hu, inf, z, ht⟩ := Zbx hE hel
  split at he
  ·rename_i hk ys _ hm
   subst hk
   injection he with hok he
   have h0 : ys.length = 0 := Nat.eq_of_beq_eq_true hok
   refine ⟨?_, he.symm⟩
   obtain ⟨news, hs, hnr⟩ := (Zey hE h.toMem (h.eval y) hm).src
   have hnil : news = [] := List.eq_nil_of_length_eq_zero (by have := hs.newsLen; rw [this, h0]; simp)
   have hv := h.eval x
   rw [hx] at hv
   obtain ⟨ev, _⟩ := hv
   have hl := hs.len w
   have hc := hs.cells
   rw [h0] at hl hc
   subst hnil
   rw [ev]
   unfold Builtin.copy_
   have hmin : Nat.min 0 n = 0 := Nat.min_eq_left (Nat.zero_le _)
   simp only [List.getElem?_toArray, List.getElem?_cons_zero, List.getElem?_cons_succ, Sem.run_bind, run_underlying hu, Result.andThen_ok, hl, hmin, ZaY ht.info, ht.size]
   rw [hc]
   rfl
  ·cases he
theorem ZpC (hE : EnvTy P E) (h : Inv w0 R0 p g s a w) {t b n c : Nat} {k : Kd} {x y : Operand} (hx : s.eval x = .rm b k n c) {d : Option Nat} {s' : St} (he : ZkX E s d t b k n c (s.eval y) = .go true s') :
  (Instr.sliceAt t (a.eval x) (some (a.eval y)) none none).run P w = .ok (a.eval x) w ∧ s' = s.put d (.rm b k n c) := by
 unfold ZkX at he
 split at he
 ·rename_i ei ik l hel hq
  obtain ⟨hu, inf, z, ht⟩ := Zbx hE hel
  injection he with hok he
  have h0 : l = 0 := of_decide_eq_true hok
  subst h0
  refine ⟨?_, he.symm⟩
  have hv := h.eval x
  rw [hx] at hv
  obtain ⟨ev, hN, hnc, hcm⟩ := hv
  obtain ⟨ey, _⟩ := (h.eval y).asInt hq
  rw [ev, ey]
  have hb1 : (Instr.sliceBounds true n c (some (.int ik 0)) none none).run P w = .ok (0, n, c) w := by
   unfold Instr.sliceBounds
   simp only [Sem.run_bind, Sem.run_pure, Result.andThen_ok]
   rw [ZcC (P := P) rfl (Int.le_refl _) (Int.natCast_nonneg _) w]
   rfl
  unfold Instr.sliceAt
  rw [Sem.run_bind, run_underlying hu, Result.andThen_ok]
  simp only []
  unfold Instr.slice
  rw [Sem.run_bind, run_underlying hu, Result.andThen_ok]
  simp only []
  rw [Sem.run_bind]
  refine (congrArg (fun r => Result.andThen r _) hb1).trans ?_
  rw [Result.andThen_ok]
  simp only []
  rw [Sem.run_bind, ZaY ht.info, Result.andThen_ok, ht.size]
  simp [Addr.add_lit]
 ·cases he
theorem ZnJ (hA : ZdW P E R0 p) (h : Inv w0 R0 p g s a w) {b n : Nat} {k : Kd} {x : Operand} (hx : s.eval x = .sl b k n) {d : Option Nat} {s' : St} (he : ZhP E s d b k n = .go true s') :
  Then w0 R0 p s' (a.put d (a.eval x)) w := by
 unfold ZhP at he
 split at he
 ·rename_i ok xs hrow
  injection he with hok he
  subst he
  simp only [Bool.and_eq_true] at hok
  obtain ⟨hok1, hok2, hok3⟩ := hok
  have hlast := Nat.eq_of_beq_eq_true hok2
  have hbase := Nat.le_of_ble_eq_true hok3
  obtain ⟨hb, hn⟩ := Zdb hrow hok1
  have hv := h.eval x
  rw [hx] at hv
  obtain ⟨c, ev, hN, hnc, hcm⟩ := hv
  obtain ⟨cur, cty, hh, hr⟩ := h.blk b _ hb
  have hgN : g.N = b + 1 := by rw [h.n, ← hlast]
  have hsz : n * k.size ≤ cur.size := by
   have h3 : xs.length * k.size ≤ cur.toList.length := hr.1
   have h4 : cur.toList.length = cur.size := Array.length_toList
   rw [← hn, ← h4]; exact h3
  let g' : Gh := { g with N := b, ψ := fun b' m => g.ψ b' m ∨ (b' = g.β b ∧ m ≤ cur.size) }
  have hkeep : g.keepN (min b g.N) = { g with N := b } := by unfold Gh.keepN; rw [hgN, Nat.min_eq_left (by omega)]
  have hext : (g.keepN (min b g.N)).ext g' := by
   rw [hkeep]
   exact ⟨RO.le_refl _, fun _ _ => rfl, Nat.le_refl _, rfl, rfl, fun _ h => h, fun _ _ h => .inl h, rfl⟩
  have hnl : ∀ t, ¬ live g t (g.β b) := fun t ⟨n', c', z', e, hlt⟩ => by
   rcases h.tok t with ⟨a', n'', e'⟩ | ⟨b', n'', c'', cu, ty', z'', e', h1, h2, h3, h4, h5, h6, h7⟩
   ·rw [e] at e'; injection e' with _ x y; omega
   ·rw [e] at e'; injection e' with x _ _; injection x with x; injection x with x; exact h6 b hN x
  have m' : Mem w0 R0 p g' ((ZeD b s.heap).map (Blk.cut b)) w := by
   have hcut := h.cutBlocks b
   constructor
   ·show b = _
    rw [List.length_map, ZdI, ← hlast]; omega
   ·exact h.ro
   ·intro j bl hj
    exact (hcut j bl hj).ext hext
   ·intro j hj o
    have hj : j < b := hj
    exact h.sepB j (by omega) o
   ·intro j j' hj hj' e
    have hj : j < b := hj
    have hj' : j' < b := hj'
    exact h.inj j j' (by omega) (by omega) e
   ·intro tk
    rcases h.tok tk with ⟨a', n', e⟩ | ⟨b', n', c', cu, ty', z', e, h1, h2, h3, h4, h5, h6, h7⟩
    ·exact .inl ⟨a', n', e⟩
    ·exact .inr ⟨b', n', c', cu, ty', z', e, h1, h2, h3, h4, h5, fun j hj => h6 j (by have hj : j < b := hj; omega), h7⟩
   ·exact h.tokInj
   ·intro j hj
    have hj : j < b := hj
    exact h.np j (by omega)
   ·intro b' hf
    have hf : (g.φ b' ∨ ∃ m, g.ψ b' m) ∨ b' = g.β b := by
     rcases hf with hf | ⟨m, hf | ⟨hf, _⟩⟩
     ·exact .inl (.inl hf)
     ·exact .inl (.inr ⟨m, hf⟩)
     ·exact .inr hf
    rcases hf with hf | rfl
    ·obtain ⟨k1, k2, k3, k4⟩ := h.fr b' hf
     exact ⟨k1, k2, fun j hj => k3 j (by have hj : j < b := hj; omega), k4⟩
    ·exact ⟨ZaV hh, h.np b hN, fun j hj e => by have hj : j < b := hj; have := h.inj j b (by omega) hN e; omega, hnl⟩
   ·exact h.old
   ·exact h.oldR
   ·exact h.leR
   ·exact h.size
   ·exact h.os
   ·exact h.tape
   ·exact h.output
   ·intro j hj
    have hj2 : j < b := Nat.lt_of_lt_of_le hj (Nat.le_trans hA.base hbase)
    exact ⟨hj2, (h.keep j hj).2⟩
   ·rintro b' m (hf | ⟨rfl, hm⟩)
    ·exact h.jk b' m hf
    ·exact ⟨⟨cur, cty, hh, hm⟩, fun o => h.sepB b hN o, fun hφ => (h.fr _ (.inl hφ)).2.2.1 b hN rfl⟩
   ·intro q hq
    have kq := h.mo q hq
    exact kq.mono rfl kq.R (fun j hj => kq.β j (by have hj : j < b := hj; omega)) kq.np kq.nl kq.nφ (fun n hf => hf.elim (kq.nψ n) fun e => kq.β b hN e.1.symm)
  have i1 : Inv w0 R0 p g' { slots := s.slots.map (SV.cut b), heap := (ZeD b s.heap).map (Blk.cut b) } a w := by
   refine ⟨m', h.defers, fun j => ?_, by rw [List.length_map]; exact h.len⟩
   show SRep g' (getN (s.slots.map (SV.cut b)) j) _
   rw [ZeM _ (show SV.cut b .undef = .undef from rfl)]
   exact (h.slots j).cut.ext hext
  refine ⟨g', i1.put (sv := .jk k n) ?_ d⟩
  rw [ev]
  exact .inl ⟨g.β b, c, rfl, hnc, hcm, .inr ⟨rfl, hsz⟩⟩
 ·cases he
theorem ZlO (hE : EnvTy P E) {t n : Nat} {k : Kd} {ix : SV} {v iv : Value} {d : Option Nat} {s' : St} (hx : JRep g k n v) (hi : SRep g ix iv) (he : Zgk E s d t k n ix = .go true s') (w : World) :
  ∃ u, s' = s.put d (.jp k) ∧ (Instr.indexAt t v iv).run P w = .ok u w ∧ SRep g (.jp k) u := by
 unfold Zgk at he
 split at he
 ·rename_i ik i q ie hint hel
  obtain ⟨rfl, _⟩ := hi.asInt hint
  obtain ⟨hu, inf, z, ht⟩ := Zbx hE hel
  split at he
  ·rename_i hk _
   subst hk
   injection he with hok he
   subst he
   simp only [Bool.and_eq_true, decide_eq_true_eq] at hok
   obtain ⟨h0, h1⟩ := hok
   rcases hx with ⟨b, c, rfl, hnc, hcm, hψ⟩ | ⟨rfl, _⟩
   ·refine ⟨.pointer (some ⟨b, i.toNat * ie.kd.size, none⟩), rfl, ?_, b, i.toNat * ie.kd.size, n * ie.kd.size, rfl, hψ, ?_⟩
    ·unfold Instr.indexAt
     simp only [Sem.run_bind, Zcg, Result.andThen_ok, run_underlying hu, Sem.run_pure]
     rw [if_pos ⟨h0, h1⟩, Sem.run_bind, ZaY ht.info, Result.andThen_ok, ht.size]
     simp only [Sem.run_pure]
     rw [Addr.add_lit, Nat.zero_add]
    ·rw [← Nat.succ_mul]
     exact Nat.mul_le_mul_right _ (by omega)
   ·omega
  ·cases he
 ·cases he
theorem ZlP (hE : EnvTy P E) (h : Inv w0 R0 p g s a w) {t : Nat} {k : Kd} {v u : Value} {y : SV} {d : Option Nat} {s' : St} (hx : SRep g (.jp k) v) (hy : SRep g y u) (he : Zgl E s d t k y = .go true s') :
  ∃ w', s' = s.put d .undef ∧ (Instr.storeAt t v u).run P w = .ok () w' ∧ Inv w0 R0 p g s a w' := by
 unfold Zgl at he
 split at he
 ·rename_i it x hty has
  split at he
  ·rename_i hk _
   subst hk
   injection he with _ he
   subst he
   obtain ⟨b, o, m, rfl, hψ, hm⟩ := hx
   obtain ⟨inf, z, ht⟩ := hE.ty t it hty
   obtain ⟨⟨cur, ty, hh, hcs⟩, _⟩ := h.jk b m hψ
   have hc := (hy.as has).cells
   have hlen := hc.length
   have hfit : o + u.cells.toList.length ≤ cur.size := by rw [hlen]; exact Nat.le_trans hm hcs
   have hst := run_storeCells_at P b o ty u.cells.toList 0 cur w hh (by simpa using hfit) hc.oneCells
   simp only [Nat.add_zero] at hst
   refine ⟨_, rfl, ?_, ⟨h.toMem.setJ hψ hh (cur.toList.take o ++ u.cells.toList ++ cur.toList.drop (o + u.cells.toList.length)).toArray (by have hl : u.cells.toList.length = u.cells.size := Array.length_toList; simp; omega), h.defers, h.slots, h.len⟩⟩
   show (do storeVar t (← Instr.sureAddr (.pointer (some ⟨b, o, none⟩))) u).run P w = _
   rw [Sem.run_bind]
   show (storeVar t ⟨b, o, none⟩ u).run P w = _
   unfold storeVar
   rw [Sem.run_bind, ZaY ht.info, Result.andThen_ok]
   have hsz : ¬ u.cells.size ≠ inf.size := by rw [ht.size, ← hlen]; simp
   rw [if_neg hsz]
   exact hst
  ·cases he
 ·cases he
theorem Ziy (hE : EnvTy P E) (h : Inv w0 R0 p g s a w) {o : Oper} {c : Call} (ho : o.op = .call c) (hc : c.callee = .builtin .append) {t u : Nat} (hts : c.argTypes.toList = [t, u]) {x y : Operand} (hargs : c.args.toList = [x, y]) {d : Nat} (hd : o.dst = some d)
  {k0 : Kd} (hx : s.eval x = .fresh k0 []) {s' : St} (he : Zfx E s d t u (s.eval y) = .go true s') : Goes P o a w (Then w0 R0 p s') := by
 unfold Zfx at he
 split at he
 ·cases he
 ·rename_i e i hel
  obtain ⟨hu, inf, z, ht⟩ := Zbx hE hel
  split at he
  ·rename_i ys b hm hby
   injection he with hok hs'
   have hlim := of_decide_eq_true hok
   simp only [LIM] at hlim
   have hmore := Zey hE h.toMem (h.eval y) hm
   obtain ⟨news, hs, hnr⟩ := hmore.src
   have hv := h.eval x
   rw [hx] at hv
   obtain ⟨hrep, bb, n, ev, hφ⟩ : CRep g (.fresh k0 []) (a.eval x) := hv
   obtain ⟨ad, cap, e1, _⟩ := hrep
   rw [ev] at e1
   simp only [List.cons.injEq, and_true, Value.slice.injEq, List.length_nil] at e1
   obtain ⟨-, rfl, -⟩ := e1
   have hbb : inf.bytes = b + 1 := by rw [ht.bytes, hby]
   have a1 : c.args = #[x, y] := Array.toList_inj.1 hargs
   have a2 : c.argTypes = #[t, u] := Array.toList_inj.1 hts
   subst hs'
   have goes : ∀ {v : Value} {w' : World}, (Builtin.append_ #[t, u] o.type #[a.eval x, a.eval y]).run P w = .ok v w' → Then w0 R0 p (s.put (some d) (.jk i.kd ys.length)) (a.put (some d) v) w' → Goes P o a w (Then w0 R0 p (s.put (some d) (.jk i.kd ys.length))) := fun hrun hT => by
    refine Goes.value (v := _) (w' := _) ?_ (by rw [hd]; exact hT)
    unfold execOp
    simp only [ho]
    rw [Sem.run_bind]
    unfold resolve
    simp only [hc, Sem.run_pure, Result.andThen_ok, a1, a2, List.map_toArray, List.map_cons, List.map_nil]
    unfold invoke
    simp only [builtin]
    exact ZbW hrun
   by_cases h0 : ys.length = 0
   ·refine goes (v := .slice (some ⟨bb, 0, none⟩) 0 0) (w' := w) ?_ ⟨g, h.put (sv := .jk i.kd ys.length) (.inr ⟨h0, _, _, rfl⟩) (some d)⟩
    rw [ev]
    have hs0 := hs
    rw [h0] at hs0
    exact Zdp t u o.type e inf hu ht.info w (some ⟨bb, 0, none⟩) 0 0 (a.eval y) news (ht.size ▸ hs0) (Nat.le_refl _)
   ·have hold : (Builtin.firstCells inf.size 0 (.slice (some ⟨bb, 0, none⟩) 0 0)).run P w.drew = .ok ([] : List Value).toArray w.drew := run_firstCells_some w.drew inf.size 0 ⟨bb, 0, none⟩ 0 0 [] (by simp) (fun j v hv => by simp at hv)
    have hrun := run_append_grow_src (P := P) w t u o.type e inf z hu ht.info ht.zero (some ⟨bb, 0, none⟩) 0 0 [] hold (a.eval y) ys.length news (ht.size ▸ hs) (by omega) (by have : ys.length ≤ ys.length * (b + 1) := Nat.le_mul_of_pos_right _ (by omega); omega) (growslice_fits (by omega) (by rw [hbb, Nat.zero_add]; exact hlim))
    have hge := grownCap_ge w (0 + ys.length) 0 e
    have hle' := grownCap_le_maxLen w (0 + ys.length) 0 e (by have : ys.length ≤ ys.length * (b + 1) := Nat.le_mul_of_pos_right _ (by omega); simp only [maxLen]; omega)
    rw [Nat.zero_add] at hrun hge hle'
    obtain ⟨m', hx'⟩ := h.toMem.drew.allocJ ((([] : List Value) ++ news).toArray ++ Builtin.zeroCells z.cells (grownCap w ys.length 0 e - ys.length)) e
    have i1 : Inv w0 R0 p _ s a _ := (h.drew).ext m' hx'
    have hnl : ys.length * i.kd.size ≤ ((([] : List Value) ++ news).toArray ++ Builtin.zeroCells z.cells (grownCap w ys.length 0 e - ys.length)).size := by
     have := hnr.1
     simp only [List.nil_append, Array.size_append, List.size_toArray]
     omega
    refine goes (by rw [ev]; exact hrun) ⟨_, i1.put (sv := .jk i.kd ys.length) (.inl ⟨_, _, rfl, hge, hle', .inr ⟨rfl, hnl⟩⟩) (some d)⟩
  ·cases he
theorem Zkr {o : Oper} {rs m k} (he : ZlG E o s = some (.call rs m k)) : False := by
 unfold ZlG ZkZ at he
 repeat' split at he
 all_goals first
  | (cases he; done)
  | (injection he with he; unfold ZhQ at he; (repeat' split at he) <;> cases he; done)
  | (injection he with he; unfold ZfB at he; (repeat' split at he) <;> cases he; done)
  | (injection he with he; unfold ZhR at he; (repeat' split at he) <;> cases he; done)
  | (injection he with he; unfold Zla at he; (repeat' split at he) <;> cases he; done)
  | (injection he with he; unfold ZhO at he; (repeat' split at he) <;> cases he; done)
  | (injection he with he; unfold ZkX at he; (repeat' split at he) <;> cases he; done)
  | (injection he with he; unfold Zfz at he; (repeat' split at he) <;> cases he; done)
  | (injection he with he; unfold ZhP at he; (repeat' split at he) <;> cases he; done)
  | (injection he with he; unfold Zgk at he; (repeat' split at he) <;> cases he; done)
  | (injection he with he; unfold Zgl at he; (repeat' split at he) <;> cases he; done)
  | (injection he with he; unfold Zfx at he; (repeat' split at he) <;> cases he; done)
  | (injection he with he; (repeat' split at he) <;> cases he; done)
theorem Mem.moFrz {g : Gh} {h : List Blk} {w : World} (m : Mem w0 R0 p g h w) {q : MB} (hq : g.κ = some q) :
  Mem w0 R0 p { g with R := RO.with g.R q.b q.cs, κ := none } (h.map (·.scrub 1100000000000)) w ∧ g.turn 1100000000000 { g with R := RO.with g.R q.b q.cs, κ := none } := by
 have k := m.mo q hq
 have hle : RO.le g.R (RO.with g.R q.b q.cs) := fun b o v e => by
  by_cases hb : b = q.b
  ·subst hb; rw [k.R o] at e; cases e
  ·rw [RO.with_other _ _ _ hb]; exact e
 have hother : ∀ b, b ≠ q.b → ∀ o, RO.with g.R q.b q.cs b o = g.R b o := fun b hb o => RO.with_other _ _ _ hb o
 have hturn : g.turn 1100000000000 { g with R := RO.with g.R q.b q.cs, κ := none } := ⟨hle, fun _ _ => rfl, Nat.le_refl _, fun _ _ => ⟨rfl, rfl⟩, fun _ h => h, fun _ _ h => h, fun h => absurd rfl h⟩
 refine ⟨?_, hturn⟩
 constructor
 ·rw [List.length_map]; exact m.n
 ·intro b o v e
  replace e : RO.with g.R q.b q.cs b o = some v := e
  by_cases hb : b = q.b
  ·subst hb
   rw [RO.with_same] at e
   obtain ⟨cur, ty, hh, _, hcon⟩ := k.heap
   simpa [World.cell?, hh] using hcon o v e
  ·rw [hother b hb] at e; exact m.ro b o v e
 ·intro i b hb
  rw [Zip] at hb
  obtain ⟨b0, e1, rfl⟩ := Option.map_eq_some_iff.1 hb
  exact (m.blk i b0 e1).scrub hturn
 ·intro i hi o
  show RO.with g.R q.b q.cs (g.β i) o = none
  rw [hother _ (k.β i hi)]; exact m.sepB i hi o
 ·exact m.inj
 ·intro t
  rcases m.tok t with ⟨a, n, e⟩ | ⟨b', n, c, cur, ty, z, e, h1, h2, h3, h4, h5, h6, h7⟩
  ·exact .inl ⟨a, n, e⟩
  ·have hb : b' ≠ q.b := fun x => k.nl t ⟨n, c, z, by rw [← x]; exact e, h1⟩
   exact .inr ⟨b', n, c, cur, ty, z, e, h1, h2, h3, h4, fun o ho => by show RO.with g.R q.b q.cs b' o = none; rw [hother _ hb]; exact h5 o ho, h6, h7⟩
 ·exact m.tokInj
 ·exact m.np
 ·exact m.fr
 ·exact m.old
 ·intro b o hp
  show RO.with g.R q.b q.cs b o = _
  rw [hother _ (fun e => k.np (e ▸ hp))]; exact m.oldR b o hp
 ·exact RO.le_trans m.leR hle
 ·exact m.size
 ·exact m.os
 ·exact m.tape
 ·exact m.output
 ·exact m.keep
 ·intro b n hf
  obtain ⟨h1, h2, h3⟩ := m.jk b n hf
  exact ⟨h1, fun o => by show RO.with g.R q.b q.cs b o = none; rw [hother _ (fun e => k.nψ n (e ▸ hf))]; exact h2 o, h3⟩
 ·intro q' hq'; cases hq'
theorem Zsj (h : Inv w0 R0 p g s a w) {k : Kd} {xs : List k.T} {v : Value} (hv : ZdG g k xs v) (d : Nat) :
  Then w0 R0 p ((s.scrub 1100000000000).put (some d) (.dat (.slice k) xs)) (a.put (some d) v) w := by
 rcases hv with ⟨rfl, rfl⟩ | ⟨q, hκ, rfl, q2, q3, q4⟩
 ·exact ⟨_, (h.turn h.toMem.chg0 (Znh g g.κ)).put (sv := .dat (.slice k) []) (DRep.of_one (k := .slice k) rfl ⟨none, 0, rfl, Nat.le_refl _, Nat.zero_le _, .inl rfl⟩) (some d)⟩
 ·obtain ⟨m', ht⟩ := h.toMem.moFrz hκ
  have hm := h.mo q hκ
  refine ⟨_, (h.turn m' ht).put (sv := .dat (.slice k) xs) (DRep.of_one (k := .slice k) rfl ?_) (some d)⟩
  have hr : Zbp (RO.with g.R q.b q.cs) k xs q.cs := Zbp.mono ht.R q4
  have key := ZcO (b := q.b) (o := 0) (cap := q.c) hr (fun j u hu => by rw [Nat.zero_add, RO.with_same]; exact hu) (by rw [← q3]; exact hm.le.1) hm.le.2
  rw [q3]
  exact key
theorem ZmQ (hA : ZdW P E R0 p) (h : Inv w0 R0 p g s a w) {o : Oper} {s' : St} (he : ZlG E o s = some (.go true s')) : Goes P o a w (Then w0 R0 p s') := by
 have hE : EnvTy P E := hA.toEnvOk.toEnvTy
 unfold ZlG at he
 split at he
 ·cases he
 ·split at he
  ·rename_i t x ho
   split at he
   ·rename_i d hd
    split at he
    ·split at he
     ·rename_i k xs hl
      injection he with he
      injection he with _ he
      subst he
      obtain ⟨u, hr, hu⟩ := Zii hE h.toMem ((h.eval x).asR hA.glob h.leR) hl
      refine Goes.value (v := u) (w' := w) (by unfold execOp; simp only [ho]; exact ZbW hr) ?_
      rw [hd]; exact Zsj h hu d
     ·cases he
    ·cases he
   ·cases he
  ·rename_i t len cap ho
   split at he
   ·rename_i d hd
    split at he
    ·injection he with he
     obtain ⟨v, w', hr, hT⟩ := ZnK hE h he
     refine Goes.value (v := v) (w' := w') (by unfold execOp; simp only [ho]; exact ZbW hr) ?_
     rw [hd]; exact hT
    ·cases he
   ·cases he
  ·rename_i c ho
   split at he
   ·rename_i b hc
    unfold ZkZ at he
    split at he
    ·rename_i t u k0 sy hts hargs
     obtain ⟨x, y, e1, ex, ey⟩ := ZeQ hargs
     split at he
     ·rename_i d hd
      split at he
      ·injection he with he
       rw [← ey] at he
       exact Ziy hE h ho hc hts e1 hd ex he
      ·cases he
     ·cases he
    ·rename_i t u bb k n cc sy hts hargs
     obtain ⟨x, y, e1, ex, ey⟩ := ZeQ hargs
     injection he with he
     rw [← ey] at he
     obtain ⟨v, w', hr, hT⟩ := ZkY hE h o.type ex he
     refine Goes.value (v := v) (w' := w') ?_ hT
     unfold execOp
     simp only [ho]
     rw [Sem.run_bind]
     unfold resolve
     have e1 : c.args = #[x, y] := Array.toList_inj.1 e1
     have e2 : c.argTypes = #[t, u] := Array.toList_inj.1 hts
     simp only [hc, Sem.run_pure, Result.andThen_ok, e1, e2, List.map_toArray, List.map_cons, List.map_nil]
     unfold invoke
     simp only [builtin]
     exact ZbW hr
    ·rename_i t bb k n cc hts hargs
     obtain ⟨x, e1, ex⟩ := ZiB hargs
     injection he with he
     split at he
     ·rename_i ei hel
      obtain ⟨hu, _⟩ := Zbx hE hel
      injection he with _ he
      subst he
      have hx := h.eval x
      rw [ex] at hx
      obtain ⟨ev, hN, hm0, hm1⟩ := hx
      refine h.val (Zck ho hc ?_) (SRep.int (Zfh (Nat.le_trans hm0 hm1)))
      have hargs' : c.args = #[x] := Array.toList_inj.1 e1
      have e2 : c.argTypes = #[t] := Array.toList_inj.1 hts
      simp only [hargs', e2, List.map_toArray, List.map_cons, List.map_nil, builtin]
      rw [ev]
      refine ZbW ?_
      simp [Builtin.len_, run_underlying hu]
      rfl
     ·cases he
    ·rename_i t kk n hts hargs
     obtain ⟨x, e1, ex⟩ := ZiB hargs
     injection he with he
     split at he
     ·rename_i ei hel
      obtain ⟨hu, _⟩ := Zbx hE hel
      injection he with _ he
      subst he
      have hx := h.eval x
      rw [ex] at hx
      have hlen : ∃ a' c', a.eval x = .slice a' n c' ∧ n ≤ maxLen := by
       rcases hx with ⟨b', c', e, h1, h2, _⟩ | ⟨rfl, a', c', e⟩
       ·exact ⟨_, _, e, Nat.le_trans h1 h2⟩
       ·exact ⟨_, _, e, Nat.zero_le _⟩
      obtain ⟨a', c', ev, hm⟩ := hlen
      refine h.val (Zck ho hc ?_) (SRep.int (Zfh hm))
      have hargs' : c.args = #[x] := Array.toList_inj.1 e1
      have e2 : c.argTypes = #[t] := Array.toList_inj.1 hts
      simp only [hargs', e2, List.map_toArray, List.map_cons, List.map_nil, builtin]
      rw [ev]
      refine ZbW ?_
      simp [Builtin.len_, run_underlying hu]
      rfl
     ·cases he
    ·rename_i t u bb k n cc sy hts hargs
     obtain ⟨x, y, e1, ex, ey⟩ := ZeQ hargs
     injection he with he
     rw [← ey] at he
     obtain ⟨hr, rfl⟩ := ZnI hE h o.type ex he
     refine h.val (Zck ho hc ?_) (SRep.int (by simp [inR, IntKind.min, IntKind.max, IntKind.signed, IntKind.bits]))
     have e1 : c.args = #[x, y] := Array.toList_inj.1 e1
     have e2 : c.argTypes = #[t, u] := Array.toList_inj.1 hts
     simp only [e1, e2, List.map_toArray, List.map_cons, List.map_nil, builtin]
     exact ZbW hr
    ·rename_i t bb k n cc hts hargs
     obtain ⟨x, e1, ex⟩ := ZiB hargs
     injection he with he
     split at he
     ·rename_i ei hel
      obtain ⟨hu, _⟩ := Zbx hE hel
      injection he with _ he
      subst he
      have hx := h.eval x
      rw [ex] at hx
      obtain ⟨ev, hN, hm0, hm1⟩ := hx
      refine h.val (Zck ho hc ?_) (SRep.int (Zfh hm1))
      have hargs' : c.args = #[x] := Array.toList_inj.1 e1
      have e2 : c.argTypes = #[t] := Array.toList_inj.1 hts
      simp only [hargs', e2, List.map_toArray, List.map_cons, List.map_nil, builtin]
      rw [ev]
      refine ZbW ?_
      simp [Builtin.cap_, run_underlying hu]
      rfl
     ·cases he
    ·cases he
   ·cases he
  ·rename_i t x lo hi mx ho
   split at he
   ·rename_i bb k n cc hh hx
    injection he with he
    obtain ⟨v, hr, hT⟩ := ZnL hA h hx he
    exact Goes.value (v := v) (w' := w) (by unfold execOp; simp only [ho]; exact ZbW hr) hT
   ·rename_i bb k n cc ll hx
    injection he with he
    obtain ⟨hr, rfl⟩ := ZpC hE h hx he
    refine h.val (v := a.eval x) (by unfold execOp; simp only [ho]; exact ZbW hr) ?_
    have hv := h.eval x
    rw [hx] at hv
    exact hv
   ·cases he
  ·rename_i t x ix ho
   split at he
   ·rename_i bb k n cc hx
    injection he with he
    have hv := h.eval x
    rw [hx] at hv
    obtain ⟨i, u, rfl, hr, hu⟩ := ZiD hE (v := a.eval x) (show SRep g (.sl bb k n) (a.eval x) from ⟨cc, hv.1, hv.2⟩) (h.eval ix) he w
    exact h.val (by unfold execOp; simp only [ho]; exact ZbW hr) hu
   ·rename_i k n hx
    injection he with he
    have hv := h.eval x
    rw [hx] at hv
    obtain ⟨u, rfl, hr, hu⟩ := ZlO (s := s) hE (v := a.eval x) hv (h.eval ix) he w
    exact h.val (by unfold execOp; simp only [ho]; exact ZbW hr) hu
   ·cases he
  ·rename_i t x y ho
   split at he
   ·rename_i k hx
    injection he with he
    have hv := h.eval x
    rw [hx] at hv
    obtain ⟨w', rfl, hr, hI⟩ := ZlP hE h hv ((h.eval y).typed _) he
    exact Goes.skip (by unfold execOp; simp only [ho]; exact Zsy hr) ⟨g, hI.put (sv := .undef) trivial o.dst⟩
   ·cases he
  ·rename_i x ho
   split at he
   ·rename_i d hd
    split at he
    ·split at he
     ·rename_i bb k n cc hx
      injection he with he
      have hT := ZpD hA h hx he
      refine Goes.value (v := a.eval x) (w' := w) (by unfold execOp; simp only [ho]; rfl) ?_
      rw [hd]; exact hT
     ·rename_i bb k n hx
      injection he with he
      have hT := ZnJ hA h hx he
      refine Goes.value (v := a.eval x) (w' := w) (by unfold execOp; simp only [ho]; rfl) ?_
      rw [hd]; exact hT
     ·cases he
    ·cases he
   ·cases he
  ·cases he
end
end Go.Shal
set_option linter.unusedVariables false
namespace Go.Shal
open Go.RowKit
section
variable {P : Program} {E : Env} {w0 : World} {R0 : RO} {p : Pr}
variable {g : Gh} {s : St} {a : Act} {w : World} {β : Type} {r : β}
def On (w0 : World) (R0 : RO) (p : Pr) (K : St → Option β) (r : β) (a : Act) (w : World) : Prop := ∃ s g, K s = some r ∧ Inv w0 R0 p g s a w
theorem Zlz (hE : ZdW P E R0 p) (h : Inv w0 R0 p g s a w) {n : Nat} {o : Oper} {K : St → Option β} (he : evDo E n o s K = some r) : Goes P o a w (On w0 R0 p K r) := by
 have key : after (evOp E n o s) K = some r → Goes P o a w (On w0 R0 p K r) := by
  intro he
  unfold after at he
  split at he
  ·cases he
  ·rename_i ok s' ho
   split at he
   ·rw [Zbn] at he
    exact fun next Q hn => Zqn hE h ho next Q fun a' w' ⟨g', hI⟩ => hn a' w' ⟨s', g', he, hI⟩
   ·cases he
  ·rename_i rs m k ho
   obtain ⟨x, hm, he⟩ := Option.bind_eq_some_iff.1 he
   rw [Zbn] at he
   exact fun next Q hn => Zqm hE h ho hm next Q fun a' w' ⟨g', hI⟩ => hn a' w' ⟨k x, g', he, hI⟩
 unfold evDo at he
 split at he
 ·rename_i c x y ho
  split at he
  ·cases he
  ·rename_i t hb
   have hv := (h.eval c).asBool hb
   have hrun : (execOp a.eval o).run P w = .ok (.value (if t then a.eval x else a.eval y)) w := by
    unfold execOp
    simp only [ho]
    rw [Sem.run_bind, hv]
    cases t <;> rfl
   split at he
   ·rw [Zbn] at he
    exact Goes.value hrun ⟨_, g, he, h.put ((h.eval x).typed _) o.dst⟩
   ·rw [Zbn] at he
    exact Goes.value hrun ⟨_, g, he, h.put ((h.eval y).typed _) o.dst⟩
 ·split at he
  ·rename_i Cs args hoc
   split at he
   ·rename_i q hq
    unfold Zqk at he
    obtain ⟨y, hy, he⟩ := Option.bind_eq_some_iff.1 he
    rw [Zet, Zbn] at he
    exact fun next Q hn => ZoR hE h hoc hq hy next Q fun a' w' ⟨g', hI⟩ => hn a' w' ⟨_, g', he, hI⟩
   ·cases he
  ·exact key he
theorem Zkz {d : Nat} {b : Bool} (hb : asBool (getN s.slots d) = some b) : s.learn d b = s := by
 unfold St.learn
 split
 ·rename_i x hx
  rw [hx] at hb
  obtain rfl : x = b := Option.some.inj hb
  have : ∀ (l : List SV) (d : Nat), getN l d = .dat .bool x → setN l d (.dat .bool x) = l := by
   intro l
   induction l with
   | nil => intro d _; rfl
   | cons y l ih => intro d h; cases d with
    | zero => simp only [setN]; rw [← (show y = .dat .bool x from h)]
    | succ d => simp only [setN]; rw [ih d h]
  show ({ s with slots := setN s.slots d (.dat .bool x) } : St) = s
  rw [this _ _ hx]
 ·rfl
theorem Inv.learn (h : Inv w0 R0 p g s a w) {d : Nat} {b : Bool} (hb : asBool (getN s.slots d) = some b) : Inv w0 R0 p g (s.learn d b) a w := by rw [Zkz hb]; exact h
theorem Zka {ops : List Oper} {j d : Nat} (hd : ZcM ops j = some d) {b : Bool} (hv : a.tmps.getD d undef = .bool b) : yielded ops.toArray a.tmps j = some b := by
 unfold ZcM at hd
 unfold yielded
 rw [List.getElem?_toArray]
 split at hd
 ·rename_i o ho
  rw [ho]
  simp only [Option.bind_some, hd]
  rw [Array.getD_eq_getD_getElem?] at hv
  cases e : a.tmps[d]? with
  | none => rw [e] at hv; cases hv
  | some v => rw [e] at hv; simp only [Option.getD_some] at hv; rw [hv]
 ·cases hd
theorem Zms : SRep g Zjx undef := ⟨[], rfl, .nil⟩
theorem Zis {sv : SV} {v : Value} (h : SRep g sv v) (he : Zhg sv = some none) : v = undef := by
 unfold Zhg at he
 split at he
 ·obtain ⟨vs, rfl, hvs⟩ := h
  cases hvs
  rfl
 ·split at he <;> cases he
theorem ZfT {sv : SV} {b : Bool} (he : Zhg sv = some (some b)) : asBool sv = some b := by
 unfold Zhg at he
 split at he
 ·cases he
 ·split at he
  ·rename_i b' hb; cases he; exact hb
  ·cases he
theorem Zhs {ops : List Oper} {j d : Nat} (hd : ZcM ops j = some d) (hv : a.tmps.getD d undef = undef) : yielded ops.toArray a.tmps j = none := by
 unfold ZcM at hd
 unfold yielded
 rw [List.getElem?_toArray]
 split at hd
 ·rename_i o ho
  rw [ho]
  simp only [Option.bind_some, hd]
  rw [Array.getD_eq_getD_getElem?] at hv
  cases e : a.tmps[d]? with
  | none => rfl
  | some v =>
   rw [e] at hv
   simp only [Option.getD_some] at hv
   rw [hv]; rfl
 ·cases hd
theorem Zlq {a b : Option β} (h : both a b = some r) : a = some r ∧ b = some r := by
 unfold both at h
 split at h
 ·rename_i e; exact ⟨h, e ▸ h⟩
 ·cases h
theorem Zif {t e : TypeId} (ht : P.underlying t = some (.slice e)) (a : Option Addr) (n c : Nat) (w : World) : (Op.equal t (.slice a n c) (.slice none 0 0)).run P w = .ok a.isNone w := by
 show (Op.equalIn (9999 + 1) t (.slice a n c) (.slice none 0 0)).run P w = _
 unfold Op.equalIn
 rw [Sem.run_bind, run_underlying ht]
 cases a <;> rfl
theorem Zpb (hE : EnvTy P E) (h : Inv w0 R0 p g s a w) {o : Oper} {is : Bool} {sl : SL} (ho : ZqQ E o s = some (is, sl)) {K : St → Option β} (he : ZrS o is sl s K = some r) : Goes P o a w (On w0 R0 p K r) := by
 unfold ZqQ at ho
 split at ho
 ·rename_i op t x u hop
  split at ho
  ·cases ho
  ·rename_i e hel
   have hu := hE.elem t e hel
   split at ho
   ·cases ho
   ·rename_i sl' hsl
    obtain ⟨k, xs⟩ := sl'
    have hx := (h.eval x).asSlice hsl
    obtain ⟨ad, cap, cells, ev, h1, h2, h3, h4⟩ := hx.row
    have hrun : ∀ b : Bool, (op = .eql ∧ b = ad.isNone ∨ op = .neq ∧ b = !ad.isNone) → (execOp a.eval o).run P w = .ok (.value (.bool b)) w := fun b hb => by
     unfold execOp
     simp only [hop]
     refine ZbW (v := .bool b) ?_
     have hcst : a.eval (.const (.slice none 0 0)) = .slice none 0 0 := rfl
     rw [Sem.run_bind, ev, hcst, ZcL rfl]
     show (binOp op t (.slice ad xs.length cap) (.slice none 0 0)).run P w = _
     rcases hb with ⟨rfl, rfl⟩ | ⟨rfl, rfl⟩
     ·simp only [binOp]; rw [Sem.run_bind, Zif hu]; rfl
     ·simp only [binOp]; rw [Sem.run_bind, Zif hu]; rfl
    have key : ∀ is, (op = .eql ∧ is = true ∨ op = .neq ∧ is = false) → ZrS o is ⟨k, xs⟩ s K = some r → Goes P o a w (On w0 R0 p K r) := fun is his he => by
     unfold ZrS at he
     simp only [Zbn] at he
     have fin : ∀ b : Bool, K (s.put o.dst (.dat .bool b)) = some r → (op = .eql ∧ b = ad.isNone ∨ op = .neq ∧ b = !ad.isNone) → Goes P o a w (On w0 R0 p K r) := fun b hk hb =>
      Goes.value (hrun b hb) ⟨_, g, hk, h.put SRep.bool o.dst⟩
     have ways : (K (s.put o.dst (.dat .bool is)) = some r ∧ K (s.put o.dst (.dat .bool (!is))) = some r) ∨ (ad.isNone = false ∧ K (s.put o.dst (.dat .bool (!is))) = some r) := by
      cases xs with
      | nil => exact .inl (Zlq he)
      | cons y ys =>
       refine .inr ⟨?_, he⟩
       rcases h4 with ⟨_, h4⟩ | ⟨b, q, h4, _⟩
       ·cases h4
       ·rw [h4]; rfl
     rcases ways with ⟨k1, k2⟩ | ⟨k1, k2⟩
     ·rcases his with ⟨h5, rfl⟩ | ⟨h5, rfl⟩
      ·cases hn : ad.isNone with
       | true => exact fin true k1 (.inl ⟨h5, hn.symm⟩)
       | false => exact fin false k2 (.inl ⟨h5, hn.symm⟩)
      ·cases hn : ad.isNone with
       | true => exact fin false k1 (.inr ⟨h5, by rw [hn]; rfl⟩)
       | false => exact fin true k2 (.inr ⟨h5, by rw [hn]; rfl⟩)
     ·rcases his with ⟨h5, rfl⟩ | ⟨h5, rfl⟩
      ·exact fin false k2 (.inl ⟨h5, k1.symm⟩)
      ·exact fin true k2 (.inr ⟨h5, by rw [k1]; rfl⟩)
    split at ho
    ·cases ho; exact key true (.inl ⟨rfl, rfl⟩) he
    ·cases ho; exact key false (.inr ⟨rfl, rfl⟩) he
    ·cases ho
 ·cases ho
theorem ZeJ (hE : ZdW P E R0 p) {n : Nat} {ops : List Oper} {Q : Exit → Act → World → Prop} : ∀ (rest : List Oper) {s : St} {g : Gh} {a : Act} {w : World} {K : St → Option β}, Inv w0 R0 p g s a w → Zjl E n ops rest s K = some r →
  (∀ a' w', On w0 R0 p K r a' w' → Q .normal a' w') → wpList P ops.toArray Q rest a w
 | [], s, g, a, w, K, h, he, hQ => hQ a w ⟨s, g, he, h⟩
 | o :: rest, s, g, a, w, K, h, he, hQ => by
  have hdo : ∀ {s : St} {g : Gh}, Inv w0 R0 p g s a w → evDo E n o s (fun s => Zjl E n ops rest s K) = some r → o.wp P a w (wpList P ops.toArray Q rest) Q := fun h he =>
   Zlz hE h he _ Q fun a' w' ⟨s', g', he', hI⟩ => ZeJ hE rest hI he' hQ
  have hstep : ∀ {s : St} {g : Gh}, Inv w0 R0 p g s a w → Zoc E n o s (fun s => Zjl E n ops rest s K) = some r → o.wp P a w (wpList P ops.toArray Q rest) Q := fun {s g} h he => by
   unfold Zoc at he
   split at he
   ·rename_i r' hr'
    unfold after at he
    split at he
    ·cases he
    ·rename_i ok s' _
     split at he
     ·rw [Zbn] at he
      exact ZmQ hE h hr' _ Q fun a' w' ⟨g', hI⟩ => ZeJ hE rest hI he hQ
     ·cases he
    ·exact (Zkr hr').elim
   split at he
   ·rename_i r' hr'
    unfold after at he
    split at he
    ·cases he
    ·rename_i ok s' _
     split at he
     ·rw [Zbn] at he
      exact Zpa hE.toEnvOk.toEnvTy h hr' _ Q fun a' w' ⟨g', hI⟩ => ZeJ hE rest hI he hQ
     ·cases he
    ·exact (ZlE hr').elim
   ·split at he
    ·rename_i ok' r' hr'
     split at he
     ·unfold after at he
      split at he
      ·cases he
      ·exact (Zqi hr').elim
      ·obtain ⟨x, hm, he⟩ := Option.bind_eq_some_iff.1 he
       rw [Zbn] at he
       exact ZmO hE h hr' hm _ Q fun a' w' ⟨g', hI⟩ => ZeJ hE rest hI he hQ
     ·cases he
    ·exact hdo h he
  unfold Zjl at he
  unfold wpList
  split at he
  ·rename_i hg
   rw [if_pos (by simp [Region.wanted, hg])]
   split at he
   ·rename_i is sl hn
    exact .inl (Zpb hE.toEnvOk.toEnvTy h hn he _ Q fun a' w' ⟨s', g', he', hI⟩ => ZeJ hE rest hI he' hQ)
   ·exact .inl (hstep h he)
  ·rename_i j want hg
   unfold Zkp at he
   split at he
   ·cases he
   ·rename_i d hd
    have hskip : ∀ {s : St} {g : Gh}, Inv w0 R0 p g s a w → ((s.put o.dst Zjx).force fun s => Zjl E n ops rest s K) = some r → wpList P ops.toArray Q rest (a.put o.dst undef) w := fun h he => by
     rw [Zbn] at he
     exact ZeJ hE rest (h.put (sv := Zjx) Zms o.dst) he hQ
    split at he
    ·cases he
    ·rename_i hb
     have hv : a.tmps.getD d undef = undef := Zis (h.slots d) hb
     rw [if_neg (by simp [Region.wanted, hg, Zhs (a := a) hd hv])]
     exact hskip h he
    ·rename_i b hb
     have hb := ZfT hb
     have hv := (h.slots d).asBool hb
     have hy := Zka (a := a) hd hv
     split at he
     ·rw [Zbn] at he
      have h' := h.learn (d := d) hb
      split at he
      ·rw [if_pos (by simp [Region.wanted, hg, hy])]; exact .inl (hstep h' he)
      ·rw [if_neg (by simp [Region.wanted, hg, hy])]; exact hskip h' he
     ·rw [Zbn] at he
      have h' := h.learn (d := d) hb
      split at he
      ·rw [if_neg (by simp [Region.wanted, hg, hy])]; exact hskip h' he
      ·rw [if_pos (by simp [Region.wanted, hg, hy])]; exact .inl (hstep h' he)
end
end Go.Shal
set_option linter.unusedVariables false
namespace Go.Shal
open Go.RowKit
def ZpB : (rs : List Kd) → (Kd.struct rs).T → SV
 | [k], (x, _) => .dat k x
 | rs, x => .tup (ZeW rs x)
theorem ZkK (d : Option Nat) (s : St) : ∀ (rs : List Kd) (x : (Kd.struct rs).T), Zfm d s rs x = s.put d (ZpB rs x)
 | [], _ => rfl
 | [_], _ => rfl
 | _ :: _ :: _, _ => rfl
def Znn : Option (Bool × SV) → Option SV
 | some (ok, v) => match ok with
  | true => some v
  | false => none
 | none => none
def ZoH (E : Env) (b : Builtin) (ts : List Nat) (args : List SV) : Option SV :=
 match b, ts, args with
 | .len, t :: _, [x] => match asSlice x with
  | some ⟨_, xs⟩ => match E.elem t with
   | some _ => some (.dat (.int .i64) (xs.length : Int))
   | none => none
  | none => match asStr x, E.isStr t with
   | some l, true => some (.dat (.int .i64) (l.length : Int))
   | _, _ => match Zsk x, E.elem t with
    | some n, some _ => some (.dat (.int .i64) (n : Int))
    | _, _ => none
 | .min, _, [x, y] => match asInt x, asInt y with
  | some (k, a), some (k', b) => match decEq k k' with
   | isTrue _ => some (.dat (.int k) (min2 a b))
   | isFalse _ => none
  | _, _ => none
 | .max, _, [x, y] => match asInt x, asInt y with
  | some (k, a), some (k', b) => match decEq k k' with
   | isTrue _ => some (.dat (.int k) (max2 a b))
   | isFalse _ => none
  | _, _ => none
 | _, _, _ => none
def vD (E : Env) (n : Nat) (o : Oper) (ρ : Operand → SV) : Option SV :=
 match o.op with
 | .pick c a b => (asBool (ρ c)).map fun t => (cond t (ρ a) (ρ b)).typed (E.ty o.type)
 | .move x | .assign x => some ((ρ x).typed (E.ty o.type))
 | .build t parts => match E.ty t with
  | some i => match i.kd.isPair with
   | true => match Zeb i.kd i.kd.zsplit (parts.toList.map fun (j, x) => (j, (ρ x).shut)) with
    | some cs => some (packZ i.kd cs)
    | none => none
   | false => none
  | none => none
 | .buildSlice t len parts => match E.elem t, o.dst with
  | some (_, i), some _ => match Nat.ble (len * (i.kd.size + 1)) 16777216 with
   | false => none
   | true => match Zdl i.kd (List.replicate len i.kd.zero) (parts.toList.map fun (j, x) => (j, ρ x)) with
    | some xs => some (.fresh i.kd xs)
    | none => none
  | _, _ => none
 | .nilCheck x => match (ρ x).isThere with
  | true => some (ρ x)
  | false => none
 | .binOp op xt x y _ => Znn (ZrR E op xt (ρ x) (ρ y))
 | .unOp op _ x => evUn op (ρ x)
 | .convert t u x => Znn (Zob E t u (ρ x))
 | .slice t x lo hi mx => match mx with
  | none => Znn (Zks E t (ρ x) (lo.map ρ) (hi.map ρ))
  | some m => match hi with
   | some hh => Znn (ZhG E t (ρ x) (lo.map ρ) (ρ hh) (ρ m))
   | none => none
 | .fieldAddr t x j => ZeH E t (E.asR (ρ x)) j
 | .field t x j => Zkn E t (ρ x) j
 | .indexAddr t x ix => Znn (ZeI E t (E.asR (ρ x)) (ρ ix))
 | .index t x ix => match asStr (ρ x), asInt (ρ ix), E.isStr t with
  | some l, some (_, i), true => Znn (some (decide (0 ≤ i) && decide (i < (l.length : Int)), .dat (.int .u8) (l.getD i.toNat 0)))
  | _, _, _ => none
 | .extract x j => match ρ x with
  | .tup l => ZsK l j
  | _ => none
 | .call c => match c.callee with
  | .builtin b => ZoH E b c.argTypes.toList (c.args.toList.map ρ)
  | .value f => match ρ f with
   | .func g [] => match look E.cons g with
    | some C => match ZfI C.ps (c.args.toList.map ρ) with
     | some x => (C.f n x).map (ZpB C.rs)
     | none => none
    | none => none
   | _ => none
  | _ => none
 | _ => none
def resD : OpRes → Option St
 | .fail => none
 | .go ok s => match ok with
  | true => some s
  | false => none
 | .call _ m k => m.map k
def opD (E : Env) (n : Nat) (o : Oper) (s : St) : Option St :=
 match o.op with
 | .pick c a b => (asBool (s.eval c)).map fun t => s.put o.dst ((cond t (s.eval a) (s.eval b)).typed (E.ty o.type))
 | _ => match Zch E o with
  | some (Cs, args) => match ZeZ Cs args.toList s with
   | some q => q.run n o.dst
   | none => none
  | none => resD (evOp E n o s)
theorem ZrF {β : Type} (r : OpRes) (K : St → Option β) : after r K = (resD r).bind K := by
 unfold after resD
 split
 ·rfl
 ·rename_i ok s'
  cases ok <;> simp [Zbn]
 ·rename_i rs m k
  cases m <;> simp [Zbn]
theorem ZrT {β : Type} (q : Zer) (n : Nat) (dst : Option Nat) (K : St → Option β) : Zqk q n dst K = (q.run n dst).bind K := by
 unfold Zqk Zer.run
 cases q.C.f n q.x with
 | none => rfl
 | some r => simp only [Option.bind_some, Option.map_some]; rw [Zet, Zbn]
theorem Zqg {β : Type} (E : Env) (n : Nat) (o : Oper) (s : St) (K : St → Option β) : evDo E n o s K = (opD E n o s).bind K := by
 have key : (match Zch E o with
  | some (Cs, args) => match ZeZ Cs args.toList s with
   | some q => Zqk q n o.dst K
   | none => none
  | none => after (evOp E n o s) K) = (match Zch E o with
  | some (Cs, args) => match ZeZ Cs args.toList s with
   | some q => q.run n o.dst
   | none => none
  | none => resD (evOp E n o s)).bind K := by
  cases Zch E o with
  | none => exact ZrF _ K
  | some ca =>
   obtain ⟨Cs, args⟩ := ca
   simp only []
   cases ZeZ Cs args.toList s with
   | none => rfl
   | some q => exact ZrT q n o.dst K
 obtain ⟨dst, op, type, pos, aft, guard⟩ := o
 cases op
 case pick c a b =>
  show (match asBool (s.eval c) with | none => none | some t => _) = ((asBool (s.eval c)).map _).bind K
  cases asBool (s.eval c) with
  | none => rfl
  | some t => cases t <;> simp [Zbn]
 all_goals (unfold evDo opD; exact key)
def hard (o : Oper) : Bool :=
 match o.op with
 | .makeSlice _ _ _ => true
 | .select _ _ => true
 | .call c => match c.callee with
  | .builtin .append => true
  | _ => false
 | _ => false
def ZdN (o : Oper) : Bool :=
 match o.op with
 | .load _ _ | .store _ _ _ | .box _ _ | .alloc _ | .lookup _ _ _ _ => true
 | _ => false
theorem ZfA (s : St) (d : Option Nat) (m : Option SV) : resD (val s d m) = m.map (s.put d) := by cases m <;> rfl
theorem Zdf (s : St) (d : Option Nat) (m : Option (Bool × SV)) : resD (ZgY s d m) = (Znn m).map (s.put d) := by
 cases m with
 | none => rfl
 | some p => obtain ⟨ok, v⟩ := p; cases ok <;> rfl
theorem Zmn (E : Env) (s : St) (d : Option Nat) {b : Builtin} (hb : b ≠ .append) (ts : List Nat) (args : List SV) : resD (Zdj E s d b ts args) = (ZoH E b ts args).map (s.put d) := by
 cases b
 case append => exact absurd rfl hb
 case len =>
  rcases ts with _ | ⟨t, ts⟩
  ·rfl
  rcases args with _ | ⟨x, _ | ⟨y, r⟩⟩
  ·rfl
  ·show resD (match asSlice x with | some ⟨_, xs⟩ => _ | none => _) = Option.map _ (match asSlice x with | some ⟨_, xs⟩ => _ | none => _)
   cases asSlice x with
   | some sl => cases sl; simp only []; cases E.elem t <;> rfl
   | none => simp only []; cases asStr x <;> cases E.isStr t <;> first | rfl | (cases Zsk x <;> cases E.elem t <;> rfl)
  ·rfl
 case min =>
  rcases args with _ | ⟨x, _ | ⟨y, _ | ⟨z, r⟩⟩⟩
  ·rfl
  ·rfl
  ·show resD (match asInt x, asInt y with | some (k, a), some (k', b) => _ | _, _ => _) = Option.map _ (match asInt x, asInt y with | some (k, a), some (k', b) => _ | _, _ => _)
   cases asInt x with
   | none => rfl
   | some p => cases asInt y with
    | none => rfl
    | some q =>
     obtain ⟨k, m⟩ := p
     obtain ⟨k', n⟩ := q
     simp only []
     cases decEq k k' <;> rfl
  ·rfl
 case max =>
  rcases args with _ | ⟨x, _ | ⟨y, _ | ⟨z, r⟩⟩⟩
  ·rfl
  ·rfl
  ·show resD (match asInt x, asInt y with | some (k, a), some (k', b) => _ | _, _ => _) = Option.map _ (match asInt x, asInt y with | some (k, a), some (k', b) => _ | _, _ => _)
   cases asInt x with
   | none => rfl
   | some p => cases asInt y with
    | none => rfl
    | some q =>
     obtain ⟨k, m⟩ := p
     obtain ⟨k', n⟩ := q
     simp only []
     cases decEq k k' <;> rfl
  ·rfl
 all_goals rfl
def ZeX (o : Oper) (s : St) : Bool :=
 match o.op with
 | .call c => match c.callee with
  | .value _ => anyB SV.isPtr (c.args.toList.map s.eval)
  | _ => false
 | _ => false
theorem ZlY (E : Env) (n : Nat) (o : Oper) (s : St) (hob : Zch E o = none) (hh : hard o = false) (hb : ZdN o = false) (hlk : ZeX o s = false) : opD E n o s = (vD E n o s.eval).map (s.put o.dst) := by
 have hev : (match o.op with | .pick _ _ _ => false | _ => true) = true → opD E n o s = resD (evOp E n o s) := fun hp => by
  unfold opD
  split
  ·rename_i e; rw [e] at hp; cases hp
  ·rw [hob]
 obtain ⟨dst, op, type, pos, after, guard⟩ := o
 cases op
 case pick c a b => show (asBool (s.eval c)).map _ = ((asBool (s.eval c)).map _).map _; rw [Option.map_map]; rfl
 case move x => rfl
 case assign x => rfl
 case box => cases hb
 case alloc => cases hb
 case load => cases hb
 case store => cases hb
 case lookup => cases hb
 case makeSlice => cases hh
 case select => cases hh
 case build t parts =>
  show resD (match E.ty t with | some i => _ | none => _) = Option.map _ (match E.ty t with | some i => _ | none => _)
  cases E.ty t with
  | none => rfl
  | some i =>
   simp only []
   cases i.kd.isPair with
   | false => rfl
   | true => simp only []; cases Zeb i.kd i.kd.zsplit (parts.toList.map fun (j, x) => (j, (s.eval x).shut)) <;> rfl
 case buildSlice t len parts =>
  clear hh hb hev hob hlk
  show resD (match E.elem t, dst with | some (_, i), some d => _ | _, _ => _) = Option.map _ (match E.elem t, dst with | some (_, i), some _ => _ | _, _ => _)
  cases E.elem t with
  | none => rfl
  | some p =>
   obtain ⟨e, i⟩ := p
   cases dst with
   | none => rfl
   | some d =>
    simp only []
    cases Nat.ble (len * (i.kd.size + 1)) 16777216 with
    | false => rfl
    | true => simp only []; cases Zdl i.kd (List.replicate len i.kd.zero) (parts.toList.map fun (j, x) => (j, s.eval x)) <;> rfl
 case nilCheck x =>
  show resD (match (s.eval x).isThere with | true => _ | false => _) = Option.map _ (match (s.eval x).isThere with | true => _ | false => _)
  cases (s.eval x).isThere <;> rfl
 case binOp op xt x y u => exact Zdf s dst _
 case unOp op u x => exact ZfA s dst _
 case convert t u x => exact Zdf s dst _
 case slice t x lo hi mx =>
  cases mx with
  | none => exact Zdf s dst _
  | some _ => cases hi with
   | none => rfl
   | some _ => exact Zdf s dst _
 case fieldAddr t x j => exact ZfA s dst _
 case field t x j => exact ZfA s dst _
 case indexAddr t x ix => exact Zdf s dst _
 case index t x ix =>
  show resD (match asStr (s.eval x), asInt (s.eval ix), E.isStr t with | some l, some (_, i), true => _ | _, _, _ => _) = Option.map _ (match asStr (s.eval x), asInt (s.eval ix), E.isStr t with | some l, some (_, i), true => _ | _, _, _ => _)
  cases asStr (s.eval x) with
  | none => rfl
  | some l => cases asInt (s.eval ix) with
   | none => rfl
   | some q =>
    obtain ⟨k, i⟩ := q
    cases E.isStr t with
    | false => rfl
    | true => exact Zdf s dst (some (decide (0 ≤ i) && decide (i < (l.length : Int)), .dat (.int .u8) (l.getD i.toNat 0)))
 case extract x j =>
  show resD (match s.eval x with | .tup l => _ | _ => _) = Option.map _ (match s.eval x with | .tup l => _ | _ => _)
  generalize s.eval x = u
  cases u with
  | tup l => exact ZfA s dst _
  | _ => rfl
 case call c =>
  rw [hev rfl]
  show resD (match c.callee with | .builtin b => _ | .value f => _ | _ => _) = Option.map _ (match c.callee with | .builtin b => _ | .value f => _ | _ => _)
  cases hc : c.callee with
  | builtin b =>
   refine Zmn E s dst (fun hb => ?_) _ _
   subst hb
   simp [hard, hc] at hh
  | value f =>
   simp only []
   generalize s.eval f = u
   cases u with
   | func g cs => cases cs with
    | cons _ _ => rfl
    | nil =>
     simp only []
     cases look E.cons g with
     | none => rfl
     | some C =>
      simp only []
      cases ZfI C.ps (c.args.toList.map s.eval) with
      | none =>
       have hlk : anyB SV.isPtr (c.args.toList.map s.eval) = false := by
        unfold ZeX at hlk
        simpa only [hc] using hlk
       show resD (Zdm E n s dst C (c.args.toList.map s.eval)) = none
       unfold Zdm
       rw [hlk]; rfl
      | some x =>
       show (C.f n x).map (Zfm dst s C.rs) = ((C.f n x).map (ZpB C.rs)).map (s.put dst)
       rw [Option.map_map]
       congr 1
       funext y
       exact ZkK dst s C.rs y
   | _ => rfl
  | invoke _ _ => rfl
 all_goals rfl
theorem ZsO (E : Env) (n : Nat) (o : Oper) {ρ ρ' : Operand → SV} (h : ∀ x ∈ o.op.operands, ρ x = ρ' x) : vD E n o ρ = vD E n o ρ' := by
 have pairs : ∀ {β : Type} (f : SV → β) (ps : Array (Nat × Operand)), (∀ x ∈ ps.map (·.2), ρ x = ρ' x) → (ps.toList.map fun (i, x) => (i, f (ρ x))) = (ps.toList.map fun (i, x) => (i, f (ρ' x))) := fun f ps hp =>
  List.map_congr_left fun p hm => by
   obtain ⟨i, x⟩ := p
   simp only [hp x (Array.mem_map.2 ⟨(i, x), by simpa using hm, rfl⟩)]
 obtain ⟨dst, op, type, pos, after, guard⟩ := o
 cases op <;> simp only [Op.operands] at h <;> simp only [vD]
 case build t ps => rw [pairs SV.shut ps fun x hx => h x (by simpa using hx)]
 case buildSlice t n ps =>
  have e : (ps.toList.map fun x => (x.1, ρ x.2)) = (ps.toList.map fun x => (x.1, ρ' x.2)) := pairs (fun v => v) ps fun x hx => h x (by simpa using hx)
  simp only [e]
 case call c =>
  have hargs : c.args.toList.map ρ = c.args.toList.map ρ' := List.map_congr_left fun x hx => h x (by simp [Call.operands]; exact .inr (by simpa using hx))
  simp only [hargs]
  cases hc : c.callee with
  | value f => have hf : ρ f = ρ' f := h f (by simp [Call.operands, hc]); simp only [hf]
  | invoke r m => rfl
  | builtin b => rfl
 case slice t x lo hi mx => cases lo <;> cases hi <;> cases mx <;> simp_all
 all_goals (first | rfl | (simp_all; done))
theorem Zrk (s : SV) : s.scrubQ Zcq = s := by cases s <;> rfl
theorem Zdq (s : SV) : s.scrubP Zcq = s := by
 cases s with
 | tup l =>
  show SV.tup (l.map (SV.scrubQ Zcq)) = _
  congr 1
  conv => rhs; rw [← List.map_id l]
  exact List.map_congr_left fun x _ => Zrk x
 | _ => rfl
theorem Zee {α : Type} {f : α → α} (h : ∀ x, f x = x) (l : List α) : l.map f = l := by
 conv => rhs; rw [← List.map_id l]
 exact List.map_congr_left fun x _ => h x
theorem ZcY (b : Blk) : b.scrubP Zcq = b := by
 cases b with
 | cells cs => show Blk.cells (cs.map (SV.scrubP Zcq)) = _; rw [Zee Zdq]
 | arr _ _ => rfl
 | mp _ _ => rfl
theorem ZnP (P Q : Nat → Bool) (s : SV) : (s.scrubQ P).scrubQ Q = (s.scrubQ Q).scrubQ P := by
 cases s with
 | own t k xs =>
  show (cond (P t) (SV.dat (.slice k) xs) (.own t k xs)).scrubQ Q = (cond (Q t) (SV.dat (.slice k) xs) (.own t k xs)).scrubQ P
  cases hP : P t <;> cases hQ : Q t <;> simp [SV.scrubQ, hP, hQ]
 | _ => rfl
theorem ZnO (P Q : Nat → Bool) (s : SV) : (s.scrubP P).scrubP Q = (s.scrubP Q).scrubP P := by
 cases s with
 | own t k xs =>
  show (cond (P t) (SV.dat (.slice k) xs) (.own t k xs)).scrubP Q = (cond (Q t) (SV.dat (.slice k) xs) (.own t k xs)).scrubP P
  cases hP : P t <;> cases hQ : Q t <;> simp [SV.scrubP, hP, hQ]
 | tup l =>
  show SV.tup ((l.map (SV.scrubQ P)).map (SV.scrubQ Q)) = SV.tup ((l.map (SV.scrubQ Q)).map (SV.scrubQ P))
  rw [List.map_map, List.map_map]
  congr 1
  exact List.map_congr_left fun x _ => ZnP P Q x
 | raw t k n =>
  show (cond (P t) SV.undef (.raw t k n)).scrubP Q = (cond (Q t) SV.undef (.raw t k n)).scrubP P
  cases hP : P t <;> cases hQ : Q t <;> simp [SV.scrubP, hP, hQ]
 | mo k xs =>
  show (cond (P 1100000000000) SV.undef (.mo k xs)).scrubP Q = (cond (Q 1100000000000) SV.undef (.mo k xs)).scrubP P
  cases hP : P 1100000000000 <;> cases hQ : Q 1100000000000 <;> simp [SV.scrubP, hP, hQ]
 | mq k i p =>
  show (cond (P 1100000000000) SV.undef (.mq k i p)).scrubP Q = (cond (Q 1100000000000) SV.undef (.mq k i p)).scrubP P
  cases hP : P 1100000000000 <;> cases hQ : Q 1100000000000 <;> simp [SV.scrubP, hP, hQ]
 | _ => rfl
theorem Zdy {α : Type} {f : α → Bool} : ∀ {l : List α}, allB f l = true → ∀ x ∈ l, f x = true
 | [], _, x, hx => by cases hx
 | y :: r, h, x, hx => by
  have h : cond (f y) (allB f r) false = true := h
  cases hy : f y with
  | false => rw [hy] at h; cases h
  | true =>
   rw [hy] at h
   rcases List.mem_cons.1 hx with rfl | hx
   ·exact hy
   ·exact Zdy h x hx
def setU : List Blk → List (Nat × Blk) → List Blk
 | h, [] => h
 | h, (i, b) :: us => setU (setB h i b) us
structure Eff where
 P : Nat → Bool
 us : List (Nat × Blk)
 news : List Blk
 v : SV
def Eff.heap (e : Eff) (h : List Blk) : List Blk := setU (h.map (·.scrubP e.P)) e.us ++ e.news
def Eff.app (e : Eff) (d : Option Nat) (s : St) : St := ({ slots := s.slots.map (·.scrubP e.P), heap := e.heap s.heap } : St).put d e.v
theorem Zcc : ∀ (us : List (Nat × Blk)) (h : List Blk), (setU h us).length = h.length
 | [], _ => rfl
 | (i, b) :: us, h => by show (setU (setB h i b) us).length = _; rw [Zcc us, Zcx]
theorem Zgh : ∀ (us : List (Nat × Blk)) (h : List Blk) {j : Nat}, (∀ u ∈ us, u.1 ≠ j) → getB (setU h us) j = getB h j
 | [], _, _, _ => rfl
 | (i, b) :: us, h, j, hj => by
  show getB (setU (setB h i b) us) j = _
  rw [Zgh us _ (fun u hu => hj u (by simp [hu])), Zcr (fun e => hj (i, b) (by simp) e.symm)]
theorem Zrm {l : List Blk} {m : List Blk} {c : Blk} {b : Nat} (h : b < l.length ∨ l.length + m.length ≤ b) : setB (l ++ m) b c = setB l b c ++ m := by
 induction l generalizing b with
 | nil =>
  simp only [List.length_nil, Nat.not_lt_zero, false_or, Nat.zero_add, List.nil_append] at h ⊢
  show setB m b c = setB [] b c ++ m
  have e1 : setB ([] : List Blk) b c = [] := by cases b <;> rfl
  rw [e1, List.nil_append]
  clear e1
  induction m generalizing b with
  | nil => cases b <;> rfl
  | cons x m ih => cases b with
   | zero => simp at h
   | succ b => simp only [setB]; rw [ih (by simpa using h)]
 | cons x l ih => cases b with
  | zero => rfl
  | succ b => simp only [List.cons_append, setB]; rw [ih (by simp at h; omega)]
theorem ZiT : ∀ (us : List (Nat × Blk)) {l m : List Blk}, (∀ u ∈ us, u.1 < l.length ∨ l.length + m.length ≤ u.1) → setU (l ++ m) us = setU l us ++ m
 | [], _, _, _ => rfl
 | (i, b) :: us, l, m, h => by
  show setU (setB (l ++ m) i b) us = setU (setB l i b) us ++ m
  rw [Zrm (h (i, b) (by simp)), ZiT us (fun u hu => by rw [Zcx]; exact h u (by simp [hu]))]
theorem Zrl {l : List Blk} {c c' : Blk} {b b' : Nat} (h : b ≠ b') : setB (setB l b c) b' c' = setB (setB l b' c') b c := by
 induction l generalizing b b' with
 | nil => cases b <;> cases b' <;> rfl
 | cons x l ih => cases b with
  | zero => cases b' with
   | zero => exact absurd rfl h
   | succ b' => rfl
  | succ b => cases b' with
   | zero => rfl
   | succ b' => simp only [setB]; rw [ih (by omega)]
theorem Zmq : ∀ (us : List (Nat × Blk)) (l : List Blk) {i : Nat} {b : Blk}, (∀ u ∈ us, u.1 ≠ i) → setU (setB l i b) us = setB (setU l us) i b
 | [], _, _, _, _ => rfl
 | (j, c) :: us, l, i, b, h => by
  show setU (setB (setB l i b) j c) us = setB (setU (setB l j c) us) i b
  rw [Zrl (fun e => h (j, c) (by simp) e.symm), Zmq us _ (fun u hu => h u (by simp [hu]))]
theorem ZiS : ∀ (us vs : List (Nat × Blk)) (l : List Blk), (∀ u ∈ us, ∀ v ∈ vs, u.1 ≠ v.1) → setU (setU l us) vs = setU (setU l vs) us
 | [], _, _, _ => rfl
 | (i, b) :: us, vs, l, h => by
  show setU (setU (setB l i b) us) vs = setU (setB (setU l vs) i b) us
  rw [ZiS us vs _ (fun u hu => h u (by simp [hu])), Zmq vs l (fun v hv e => h (i, b) (by simp) v hv e.symm)]
theorem Zon (f : Blk → Blk) : ∀ (l : List Blk) (i : Nat) (b : Blk), (setB l i b).map f = setB (l.map f) i (f b)
 | [], i, b => by cases i <;> rfl
 | x :: l, 0, b => rfl
 | x :: l, i + 1, b => by simp only [setB, List.map_cons]; rw [Zon f l i b]
theorem Zop {f : Blk → Blk} : ∀ (us : List (Nat × Blk)) (l : List Blk), (∀ u ∈ us, f u.2 = u.2) → (setU l us).map f = setU (l.map f) us
 | [], _, _ => rfl
 | (i, b) :: us, l, h => by
  show (setU (setB l i b) us).map f = setU (setB (l.map f) i b) us
  rw [Zop us _ (fun u hu => h u (by simp [hu])), Zon, h (i, b) (by simp)]
theorem Zrn {l : List SV} {v u : SV} {d e : Nat} (h : d ≠ e) : setN (setN l d v) e u = setN (setN l e u) d v := by
 induction l generalizing d e with
 | nil => rfl
 | cons x l ih => cases d with
  | zero => cases e with
   | zero => exact absurd rfl h
   | succ e => rfl
  | succ d => cases e with
   | zero => rfl
   | succ e => simp only [setN]; rw [ih (by omega)]
theorem Zoo (f : SV → SV) : ∀ (l : List SV) (i : Nat) (v : SV), (setN l i v).map f = setN (l.map f) i (f v)
 | [], i, v => by cases i <;> rfl
 | x :: l, 0, v => rfl
 | x :: l, i + 1, v => by simp only [setN, List.map_cons]; rw [Zoo f l i v]
theorem Zld : ∀ {l : List SV} {i : Nat} (v : SV), l.length ≤ i → setN l i v = l
 | [], i, v, h => by cases i <;> rfl
 | x :: l, 0, v, h => by simp at h
 | x :: l, i + 1, v, h => by simp only [setN]; rw [Zld v (by simpa using h)]
theorem Zle : ∀ (us : List (Nat × Blk)) (h : List Blk), (us.map (·.1)).Nodup → ∀ u ∈ us, u.1 < h.length → getB (setU h us) u.1 = some u.2
 | [], _, _, u, hu, _ => by cases hu
 | (i, b) :: us, h, hn, u, hu, hl => by
  obtain ⟨h1, h2⟩ := List.nodup_cons.1 (show (i :: us.map (·.1)).Nodup from hn)
  show getB (setU (setB h i b) us) u.1 = _
  rcases List.mem_cons.1 hu with rfl | hu
  ·rw [Zgh us _ (fun v hv e => h1 (List.mem_map.2 ⟨v, hv, e⟩))]
   obtain ⟨c, hc⟩ := ZlM hl
   exact ZcB hc
  ·exact Zle us _ h2 u hu (by rw [Zcx]; exact hl)
section
variable {E : Env} {n : Nat} {ops : List Oper}
theorem Zds {α : Type} {f : α → Bool} : ∀ {l : List α}, anyB f l = false ↔ ∀ x ∈ l, f x = false
 | [] => ⟨fun _ x hx => (by cases hx), fun _ => rfl⟩
 | y :: r => by
  show cond (f y) true (anyB f r) = false ↔ _
  cases hy : f y with
  | true => exact ⟨fun h => (by cases h), fun h => absurd (h y List.mem_cons_self) (by rw [hy]; decide)⟩
  | false =>
   refine ⟨fun h x hx => ?_, fun h => Zds.2 fun x hx => h x (List.mem_cons_of_mem _ hx)⟩
   rcases List.mem_cons.1 hx with rfl | hx
   ·exact hy
   ·exact Zds.1 h x hx
theorem Zrx {Q : Nat → Bool} {v : SV} (h : ∀ t ∈ v.toksQ, Q t = false) : v.scrubQ Q = v := by
 cases v with
 | own t k xs => show cond (Q t) _ _ = _; rw [h t (by simp [SV.toksQ])]; rfl
 | _ => rfl
theorem Zgz {Q : Nat → Bool} {v : SV} (h : ∀ t ∈ v.toks, Q t = false) : v.scrubP Q = v := by
 cases v with
 | own t k xs => show cond (Q t) _ _ = _; rw [h t (by simp [SV.toks])]; rfl
 | tup l =>
  show SV.tup (l.map (SV.scrubQ Q)) = _
  congr 1
  conv => rhs; rw [← List.map_id l]
  exact List.map_congr_left fun x hx => Zrx fun t ht => h t (List.mem_flatMap.2 ⟨x, hx, ht⟩)
 | raw t k n => show cond (Q t) _ _ = _; rw [h t (by simp [SV.toks])]; rfl
 | mo k xs => show cond (Q 1100000000000) _ _ = _; rw [h 1100000000000 (by simp [SV.toks])]; rfl
 | mq k i p => show cond (Q 1100000000000) _ _ = _; rw [h 1100000000000 (by simp [SV.toks])]; rfl
 | _ => rfl
theorem Zgy {Q : Nat → Bool} {b : Blk} (h : ∀ t ∈ b.toks, Q t = false) : b.scrubP Q = b := by
 cases b with
 | cells cs =>
  show Blk.cells (cs.map (SV.scrubP Q)) = _
  congr 1
  conv => rhs; rw [← List.map_id cs]
  exact List.map_congr_left fun x hx => Zgz fun t ht => h t (List.mem_flatMap.2 ⟨x, hx, ht⟩)
 | arr _ _ => rfl
 | mp _ _ => rfl
theorem ZpH {Q : Nat → Bool} {h : List Blk} {b : Nat} (hq : ∀ t ∈ Zhq h b, Q t = false) : (getB h b).map (·.scrubP Q) = getB h b := by
 unfold Zhq at hq
 cases hb : getB h b with
 | none => rfl
 | some blk => rw [hb] at hq; show some (blk.scrubP Q) = some blk; rw [Zgy hq]
theorem Ziu {P : Nat → Bool} : ∀ (l : List SV) (i t : Nat), i + t ∉ hitS P l i → (getN l t).scrubP P = getN l t
 | [], i, t, _ => by cases t <;> rfl
 | v :: r, i, t, h => by
  unfold hitS at h
  cases hv : anyB P v.toks with
  | true =>
   rw [hv] at h
   cases t with
   | zero => exact absurd List.mem_cons_self h
   | succ t => exact Ziu r (i + 1) t (fun hm => h (List.mem_cons_of_mem _ (by rwa [show i + 1 + t = i + (t + 1) by omega] at hm)))
  | false =>
   rw [hv] at h
   cases t with
   | zero => exact Zgz (Zds.1 hv)
   | succ t => exact Ziu r (i + 1) t (fun hm => h (by rwa [show i + 1 + t = i + (t + 1) by omega] at hm))
theorem Zit {P : Nat → Bool} : ∀ (l : List Blk) (i t : Nat), i + t ∉ hitB P l i → (getB l t).map (·.scrubP P) = getB l t
 | [], i, t, _ => by cases t <;> rfl
 | v :: r, i, t, h => by
  unfold hitB at h
  cases hv : anyB P v.toks with
  | true =>
   rw [hv] at h
   cases t with
   | zero => exact absurd List.mem_cons_self h
   | succ t => exact Zit r (i + 1) t (fun hm => h (List.mem_cons_of_mem _ (by rwa [show i + 1 + t = i + (t + 1) by omega] at hm)))
  | false =>
   rw [hv] at h
   cases t with
   | zero => show some (v.scrubP P) = some v; rw [Zgy (Zds.1 hv)]
   | succ t => exact Zit r (i + 1) t (fun hm => h (by rwa [show i + 1 + t = i + (t + 1) by omega] at hm))
structure Good (s s1 : St) (d : Option Nat) (Lk : List Nat) (e : Eff) (F : Ft) : Prop where
 app : s1 = e.app d s
 soft : F.hard = false → e.P = Zcq
 hard : F.hard = true → e.us = [] ∧ e.news = [] ∧ F.rd = [] ∧ F.wr = [] ∧ F.new = false ∧ e.P = F.P
 us : ∀ u ∈ e.us, u.1 ∈ F.wr ∧ u.1 < s.heap.length
 nd : (e.us.map (·.1)).Nodup
 new : F.new = true ↔ e.news ≠ []
 news : ∀ j, j < e.news.length → s.heap.length + j ∈ F.wr
 lk : ∀ t, t ∈ Lk ∨ d = some t → t ∈ F.lk
 chS : F.hard = true → ∀ t, t ∉ F.chS → (getN s.slots t).scrubP F.P = getN s.slots t
 chB : F.hard = true → ∀ b, b ∉ F.chB → (getB s.heap b).map (·.scrubP F.P) = getB s.heap b
 ow : ∀ Q, anyB Q F.ow = false → (∀ t, t ∈ Lk ∨ d = some t → (getN s.slots t).scrubP Q = getN s.slots t) ∧ (∀ b, b ∈ F.rd ∨ b ∈ F.wr → (getB s.heap b).map (·.scrubP Q) = getB s.heap b) ∧
  (∀ t, d = some t → t < s.slots.length → e.v.scrubP Q = e.v) ∧ (∀ u ∈ e.us, u.2.scrubP Q = u.2) ∧ ∀ b ∈ e.news, b.scrubP Q = b
theorem ZcP {s s' : St} {o : Oper} (h : ∀ t ∈ ZcG ops o, getN s'.slots t = getN s.slots t) : ∀ x ∈ o.op.operands, s'.eval x = s.eval x := fun x hx => by
 cases x with
 | tmp t => exact h t (List.mem_append_left _ (List.mem_flatMap.2 ⟨.tmp t, by simpa using hx, by simp [ZtS]⟩))
 | _ => rfl
def Zkc (E : Env) (n : Nat) (ops : List Oper) (o : Oper) (s s1 : St) (e : Eff) : Prop :=
 ∀ s' : St, (∀ t ∈ ZcG ops o, getN s'.slots t = getN s.slots t) → (∀ b, b ∈ (foot E ops o s s1).rd ∨ b ∈ (foot E ops o s s1).wr → getB s'.heap b = getB s.heap b) → ((foot E ops o s s1).new = true → s'.heap.length = s.heap.length) →
  opD E n o s' = some (e.app o.dst s')
theorem Zdz (v : SV) (d : Option Nat) (s : St) : (Eff.mk Zcq [] [] v).app d s = s.put d v := by
 show ({ slots := s.slots.map (·.scrubP Zcq), heap := setU (s.heap.map (·.scrubP Zcq)) [] ++ [] } : St).put d v = _
 rw [Zee Zdq, Zee ZcY]
 show ({ slots := s.slots, heap := s.heap ++ [] } : St).put d v = _
 rw [List.append_nil]
theorem Zlm (P : Nat → Bool) (v : SV) (d : Option Nat) (s : St) : (Eff.mk P [] [] v).app d s = (s.scrubP P).put d v := by
 show ({ slots := s.slots.map (·.scrubP P), heap := setU (s.heap.map (·.scrubP P)) [] ++ [] } : St).put d v = _
 show ({ slots := s.slots.map (·.scrubP P), heap := s.heap.map (·.scrubP P) ++ [] } : St).put d v = _
 rw [List.append_nil]; rfl
theorem Zfu (us : List (Nat × Blk)) (news : List Blk) (v : SV) (d : Option Nat) (s : St) : (Eff.mk Zcq us news v).app d s = ({ slots := s.slots, heap := setU s.heap us ++ news } : St).put d v := by
 show ({ slots := s.slots.map (·.scrubP Zcq), heap := setU (s.heap.map (·.scrubP Zcq)) us ++ news } : St).put d v = _
 rw [Zee Zdq, Zee ZcY]
theorem ZhS (s : St) (t : Nat) : s.scrub t = s.scrubP (Nat.beq t) := by
 show ({ slots := s.slots.map (·.scrub t), heap := s.heap.map (·.scrub t) } : St) = { slots := s.slots.map (·.scrubP (Nat.beq t)), heap := s.heap.map (·.scrubP (Nat.beq t)) }
 congr 1
theorem Zgj (s : St) (d : Option Nat) (v : SV) : (s.put d v).heap = s.heap := by cases d <;> rfl
theorem Zrp (s : St) (d : Option Nat) (v : SV) : (s.put d v).slots.length = s.slots.length := by
 cases d with
 | none => rfl
 | some d => exact ZeO _ _ _
theorem ZgF (e : Eff) (d : Option Nat) (s : St) : (e.app d s).heap.length = s.heap.length + e.news.length := by
 unfold Eff.app
 rw [Zgj]
 show (setU (s.heap.map (·.scrubP e.P)) e.us ++ e.news).length = _
 rw [List.length_append, Zcc, List.length_map]
theorem Ztv {a b : Nat} : Nat.blt a b = true ↔ a < b := ⟨fun h => Nat.le_of_ble_eq_true h, fun h => ZhZ h⟩
theorem ZeN {o : Oper} {s s1 : St} {e : Eff} (h1 : s1 = e.app o.dst s) (h2 : Nat.ble 1 (lev E o) = false → e.P = Zcq) (h3 : Nat.ble 1 (lev E o) = true → e.us = [] ∧ e.news = [] ∧ (ZcI E o s s1) = ([], []) ∧ e.P = Zhv E o s)
  (h4 : ∀ u ∈ e.us, u.1 ∈ (ZcI E o s s1).2 ∧ u.1 < s.heap.length) (h5 : (e.us.map (·.1)).Nodup) (h6 : ∀ j, j < e.news.length → s.heap.length + j ∈ (ZcI E o s s1).2) : Good s s1 o.dst (ZcG ops o) e (foot E ops o s s1) := by
 have hlen : s1.heap.length = s.heap.length + e.news.length := by rw [h1]; exact ZgF e o.dst s
 have hnew : (foot E ops o s s1).new = true ↔ e.news ≠ [] := by
  show Nat.blt s.heap.length s1.heap.length = true ↔ _
  rw [Ztv, hlen]
  constructor
  ·intro h hn; rw [hn] at h; simp at h
  ·intro h
   have : 0 < e.news.length := by
    rcases Nat.eq_zero_or_pos e.news.length with h0 | h0
    ·exact absurd (List.eq_nil_of_length_eq_zero h0) h
    ·exact h0
   omega
 have hdst : ∀ t, o.dst = some t → t ∈ dstL o.dst := fun t h => by rw [h]; exact List.mem_cons_self
 have hlk : ∀ t, t ∈ ZcG ops o ∨ o.dst = some t → t ∈ ZcG ops o ++ dstL o.dst := fun t h => by
  rcases h with h | h
  ·exact List.mem_append_left _ h
  ·exact List.mem_append_right _ (hdst t h)
 constructor
 ·exact h1
 ·exact h2
 ·intro hh
  have hh' : Nat.ble 1 (lev E o) = true := hh
  obtain ⟨k1, k2, k3, k4⟩ := h3 hh
  refine ⟨k1, k2, ?_, ?_, ?_, ?_⟩
  ·show (ZcI E o s s1).1 = []; rw [k3]
  ·show (ZcI E o s s1).2 = []; rw [k3]
  ·cases hn : (foot E ops o s s1).new with
   | false => rfl
   | true => exact absurd k2 (hnew.1 hn)
  ·show e.P = cond (Nat.ble 1 (lev E o)) (Zhv E o s) Zcq
   rw [hh']; exact k4
 ·exact h4
 ·exact h5
 ·exact hnew
 ·exact h6
 ·exact hlk
 ·intro hh t ht
  have hh' : Nat.ble 1 (lev E o) = true := hh
  change t ∉ cond (Nat.ble 1 (lev E o)) (hitS (Zhv E o s) s.slots 0) [] at ht
  show (getN s.slots t).scrubP (cond (Nat.ble 1 (lev E o)) (Zhv E o s) Zcq) = _
  rw [hh'] at ht ⊢
  exact Ziu s.slots 0 t (by rw [Nat.zero_add]; exact ht)
 ·intro hh b hb
  have hh' : Nat.ble 1 (lev E o) = true := hh
  change b ∉ cond (Nat.ble 1 (lev E o)) (hitB (Zhv E o s) s.heap 0) [] at hb
  show (getB s.heap b).map (·.scrubP (cond (Nat.ble 1 (lev E o)) (Zhv E o s) Zcq)) = _
  rw [hh'] at hb ⊢
  exact Zit s.heap 0 b (by rw [Nat.zero_add]; exact hb)
 ·intro Q hQ
  have hQ : ∀ x ∈ ZtT (ZcG ops o ++ dstL o.dst) o.dst ((ZcI E o s s1).1 ++ (ZcI E o s s1).2) s s1, Q x = false := Zds.1 hQ
  unfold ZtT at hQ
  have q1 : ∀ t, t ∈ ZcG ops o ∨ o.dst = some t → ∀ x ∈ (getN s.slots t).toks, Q x = false := fun t ht x hx => hQ x (List.mem_append_left _ (List.mem_flatMap.2 ⟨t, hlk t ht, hx⟩))
  have q2 : ∀ t, o.dst = some t → ∀ x ∈ (getN s1.slots t).toks, Q x = false := fun t ht x hx => hQ x (List.mem_append_right _ (List.mem_append_left _ (List.mem_flatMap.2 ⟨t, hdst t ht, hx⟩)))
  have q3 : ∀ b, b ∈ (ZcI E o s s1).1 ∨ b ∈ (ZcI E o s s1).2 → ∀ x ∈ Zhq s.heap b, Q x = false := fun b hb x hx => hQ x (List.mem_append_right _ (List.mem_append_right _ (List.mem_append_left _ (List.mem_flatMap.2 ⟨b, List.mem_append.2 hb, hx⟩))))
  have q4 : ∀ b, b ∈ (ZcI E o s s1).1 ∨ b ∈ (ZcI E o s s1).2 → ∀ x ∈ Zhq s1.heap b, Q x = false := fun b hb x hx => hQ x (List.mem_append_right _ (List.mem_append_right _ (List.mem_append_right _ (List.mem_flatMap.2 ⟨b, List.mem_append.2 hb, hx⟩))))
  have hs1 : s1.heap = setU (s.heap.map (·.scrubP e.P)) e.us ++ e.news := by rw [h1]; unfold Eff.app; rw [Zgj]; rfl
  refine ⟨fun t ht => Zgz (q1 t ht), fun b hb => ZpH (q3 b hb), fun t ht hlt => ?_, fun u hu => ?_, fun b hb => ?_⟩
  ·have := q2 t ht
   rw [h1, ht] at this
   change ∀ x ∈ (getN (setN (s.slots.map (·.scrubP e.P)) t e.v) t).toks, Q x = false at this
   rw [Zff, if_pos ⟨rfl, by simpa using hlt⟩] at this
   exact Zgz this
  ·obtain ⟨p1, p2⟩ := h4 u hu
   have := q4 u.1 (.inr p1)
   unfold Zhq at this
   rw [hs1, ZbK (by rw [Zcc, List.length_map]; exact p2), Zle e.us _ h5 u hu (by rw [List.length_map]; exact p2)] at this
   exact Zgy this
  ·obtain ⟨j, hj, rfl⟩ := List.mem_iff_getElem.1 hb
   have := q4 _ (.inr (h6 j hj))
   unfold Zhq at this
   have hg : getB (setU (s.heap.map (·.scrubP e.P)) e.us ++ e.news) (s.heap.length + j) = some e.news[j] := by
    have hl : (setU (s.heap.map (·.scrubP e.P)) e.us).length = s.heap.length := by rw [Zcc, List.length_map]
    rw [← hl, ZbJ]
    have : ∀ (l : List Blk) (i : Nat) (hi : i < l.length), getB l i = some l[i] := by
     intro l
     induction l with
     | nil => intro i hi; simp at hi
     | cons x l ih => intro i hi; cases i with
      | zero => rfl
      | succ i => exact ih i (by simpa using hi)
    exact this _ _ hj
   rw [hs1, hg] at this
   exact Zgy this
end
end Go.Shal
set_option linter.unusedVariables false
namespace Go.Shal
open Go.RowKit
theorem ZbB {α : Type} {f : α → Bool} {x : α} {r : List α} (h : anyB f (x :: r) = false) : f x = false ∧ anyB f r = false := by
 have h : cond (f x) true (anyB f r) = false := h
 cases hx : f x with
 | true => rw [hx] at h; cases h
 | false => rw [hx] at h; exact ⟨rfl, h⟩
theorem ZdT : ∀ (ps : List Pk) (j : Nat) (xs : List Operand) {s s' : St}, anyB Pk.inn ps = false → prepV ps j xs s = some s' → s' = s ∧ ∀ s2, prepV ps j xs s2 = some s2
 | [], j, xs, s, s', _, he => by cases he; exact ⟨rfl, fun _ => rfl⟩
 | pk :: ps, j, xs, s, s', hi, he => by
  obtain ⟨h1, h2⟩ := ZbB hi
  cases pk with
  | own k => cases h1
  | dat k => cases xs with
   | nil => cases he
   | cons x xs => exact ZdT ps (j + 1) xs h2 he
  | room k => cases xs with
   | nil => cases he
   | cons x xs => exact ZdT ps (j + 1) xs h2 he
  | nil => cases xs with
   | nil => cases he
   | cons x xs => exact ZdT ps (j + 1) xs h2 he
  | fn g => cases xs with
   | nil => cases he
   | cons x xs => exact ZdT ps (j + 1) xs h2 he
  | obj o => cases xs with
   | nil => cases he
   | cons x xs =>
    have h1 : o.hasOwn = false := h1
    have key : ∀ s, prepV (.obj o :: ps) j (x :: xs) s = prepV ps (j + 1) xs s := fun s => by
     show (match o.hasOwn with | false => prepV ps (j + 1) xs s | true => _) = _
     rw [h1]
    rw [key] at he
    obtain ⟨k1, k2⟩ := ZdT ps (j + 1) xs h2 he
    exact ⟨k1, fun s2 => by rw [key]; exact k2 s2⟩
theorem Zqw {h h' : List Blk} : ∀ (o : Ob) {cs : List SV} {self pos : Nat} {c : o.T} {l : List Nat}, o.get h cs self pos = some (c, l) → (∀ b ∈ l, getB h' b = getB h b) → o.get h' cs self pos = some (c, l) := by
 intro o
 induction o with
 | nil =>
  intro cs self pos c l he _
  cases cs with
  | nil => exact he
  | cons _ _ => cases he
 | dat k r ih =>
  intro cs self pos c l he hb
  obtain ⟨⟨x, rest⟩, e1, he⟩ := Option.bind_eq_some_iff.1 he
  obtain ⟨⟨y, l'⟩, e2, he⟩ := Option.map_eq_some_iff.1 he
  cases he
  show (k.join cs).bind (fun x => (r.get h' x.2 self (pos + k.size)).map fun y => ((x.1, y.1), y.2)) = _
  rw [e1]
  simp only [Option.bind_some]
  rw [ih e2 hb]; rfl
 | own k r ih =>
  intro cs self pos c l he hb
  cases cs with
  | nil => cases he
  | cons sv cs => cases sv with
   | own t k' xs =>
    replace he : (match Nat.beq t (tokC self pos) with | true => (ZbD (a := .slice k') (b := .slice k) xs).bind fun xs => (r.get h cs self (pos + 1)).map fun y => ((xs, y.1), y.2) | false => none) = some (c, l) := he
    show (match Nat.beq t (tokC self pos) with | true => (ZbD (a := .slice k') (b := .slice k) xs).bind fun xs => (r.get h' cs self (pos + 1)).map fun y => ((xs, y.1), y.2) | false => none) = some (c, l)
    split at he
    ·rename_i hbeq
     obtain ⟨xs', e1, he⟩ := Option.bind_eq_some_iff.1 he
     obtain ⟨⟨y, l'⟩, e2, he⟩ := Option.map_eq_some_iff.1 he
     cases he
     simp only [e1, Option.bind_some]
     rw [ih e2 hb]; rfl
    ·cases he
   | _ => cases he
 | mo k r ih =>
  intro cs self pos c l he hb
  cases cs with
  | nil => cases he
  | cons sv cs => cases sv with
   | mo k' xs =>
    replace he : ((ZbD (a := .slice k') (b := .slice k) xs).bind fun xs => (r.get h cs self (pos + 1)).map fun y => ((xs, y.1), y.2)) = some (c, l) := he
    show ((ZbD (a := .slice k') (b := .slice k) xs).bind fun xs => (r.get h' cs self (pos + 1)).map fun y => ((xs, y.1), y.2)) = some (c, l)
    obtain ⟨xs', e1, he⟩ := Option.bind_eq_some_iff.1 he
    obtain ⟨⟨y, l'⟩, e2, he⟩ := Option.map_eq_some_iff.1 he
    cases he
    simp only [e1, Option.bind_some]
    rw [ih e2 hb]; rfl
   | cst u =>
    replace he : (match (SV.cst u :: cs) with
     | .mo k' xs :: cs => (ZbD (a := .slice k') (b := .slice k) xs).bind fun xs => (r.get h cs self (pos + 1)).map fun y => ((xs, y.1), y.2)
     | .cst (.slice none 0 0) :: cs => (r.get h cs self (pos + 1)).map fun y => (([], y.1), y.2)
     | _ => none) = some (c, l) := he
    split at he
    ·rename_i hh; cases hh
    ·rename_i hh
     cases hh
     obtain ⟨⟨y, l'⟩, e2, he⟩ := Option.map_eq_some_iff.1 he
     cases he
     show ((r.get h' cs self (pos + 1)).map fun y => (([], y.1), y.2)) = _
     rw [ih e2 hb]; rfl
    ·cases he
   | _ => cases he
 | ref o r iho ihr =>
  intro cs self pos c l he hb
  cases cs with
  | nil => cases he
  | cons sv cs => cases sv with
   | ptr b off => cases off with
    | succ _ => cases he
    | zero =>
     replace he : (match getB h b with | some (.cells cs') => (match Nat.ble cs'.length 50 with | true => (o.get h cs' b 0).bind fun x => (r.get h cs self (pos + 1)).map fun y => ((x.1, y.1), (b :: x.2) ++ y.2) | false => none) | _ => none) = some (c, l) := he
     show (match getB h' b with | some (.cells cs') => (match Nat.ble cs'.length 50 with | true => (o.get h' cs' b 0).bind fun x => (r.get h' cs self (pos + 1)).map fun y => ((x.1, y.1), (b :: x.2) ++ y.2) | false => none) | _ => none) = some (c, l)
     split at he
     ·rename_i cs' hgb
      split at he
      ·rename_i hle
       obtain ⟨⟨x, lx⟩, e1, he⟩ := Option.bind_eq_some_iff.1 he
       obtain ⟨⟨y, ly⟩, e2, he⟩ := Option.map_eq_some_iff.1 he
       cases he
       rw [hb b (by simp), hgb]
       simp only [hle]
       rw [iho e1 (fun b' hb' => hb b' (by simp [hb'])), Option.bind_some, ihr e2 (fun b' hb' => hb b' (by simp [hb']))]; rfl
      ·cases he
     ·cases he
   | _ => cases he
theorem ZmF {h h' : List Blk} : ∀ (ps : List Pk) {j : Nat} {svs : List SV} {x : PT ps} {l : List Nat}, Zcm ps j h svs = some (x, l) → (∀ b ∈ l, getB h' b = getB h b) → Zcm ps j h' svs = some (x, l) := by
 intro ps
 induction ps with
 | nil =>
  intro j svs x l he _
  cases svs with
  | nil => exact he
  | cons _ _ => cases he
 | cons pk ps ih =>
  intro j svs x l he hb
  cases svs with
  | nil => cases pk <;> cases he
  | cons sv svs =>
   cases pk with
   | dat k =>
    obtain ⟨y, e1, he⟩ := Option.bind_eq_some_iff.1 (show (sv.as k).bind (fun x => (Zcm ps (j + 1) h svs).map fun y => ((x, y.1), y.2)) = some (x, l) from he)
    obtain ⟨⟨z, l'⟩, e2, he⟩ := Option.map_eq_some_iff.1 he
    cases he
    show (sv.as k).bind (fun x => (Zcm ps (j + 1) h' svs).map fun y => ((x, y.1), y.2)) = _
    rw [e1, Option.bind_some, ih e2 hb]; rfl
   | own k =>
    cases sv with
    | own t k' xs =>
     replace he : (match Nat.beq t (tokP j) with | true => (ZbD (a := .slice k') (b := .slice k) xs).bind fun xs => (Zcm ps (j + 1) h svs).map fun y => ((xs, y.1), y.2) | false => none) = some (x, l) := he
     show (match Nat.beq t (tokP j) with | true => (ZbD (a := .slice k') (b := .slice k) xs).bind fun xs => (Zcm ps (j + 1) h' svs).map fun y => ((xs, y.1), y.2) | false => none) = some (x, l)
     split at he
     ·rename_i hbeq
      obtain ⟨xs', e1, he⟩ := Option.bind_eq_some_iff.1 he
      obtain ⟨⟨z, l'⟩, e2, he⟩ := Option.map_eq_some_iff.1 he
      cases he
      simp only [e1, Option.bind_some]
      rw [ih e2 hb]; rfl
     ·cases he
    | _ => cases he
   | nil =>
    cases sv with
    | cst c => cases c with
     | pointer a => cases a with
      | some _ => cases he
      | none =>
       obtain ⟨⟨z, l'⟩, e2, he⟩ := Option.map_eq_some_iff.1 (show (Zcm ps (j + 1) h svs).map (fun y => (((), y.1), y.2)) = some (x, l) from he)
       cases he
       show (Zcm ps (j + 1) h' svs).map (fun y => (((), y.1), y.2)) = _
       rw [ih e2 hb]; rfl
     | _ => cases he
    | _ => cases he
   | fn gf =>
    cases sv with
    | func g' cs => cases cs with
     | cons _ _ => cases he
     | nil =>
      replace he : (match Nat.beq gf g' with | true => (Zcm ps (j + 1) h svs).map fun y => (((), y.1), y.2) | false => none) = some (x, l) := he
      show (match Nat.beq gf g' with | true => (Zcm ps (j + 1) h' svs).map fun y => (((), y.1), y.2) | false => none) = some (x, l)
      split at he
      ·rename_i hbeq
       obtain ⟨⟨z, l'⟩, e2, he⟩ := Option.map_eq_some_iff.1 he
       cases he
       simp only []
       rw [ih e2 hb]; rfl
      ·cases he
    | _ => cases he
   | room k =>
    cases sv with
    | rm b k' n c =>
     replace he : (match decEq k' k, getB h b with
      | isTrue _, some (.arr k'' xs) => (ZbD (a := .slice k'') (b := .slice k) xs).bind fun xs => (Zcm ps (j + 1) h svs).map fun y => (((xs, n, c), y.1), b :: y.2)
      | _, _ => none) = some (x, l) := he
     show (match decEq k' k, getB h' b with
      | isTrue _, some (.arr k'' xs) => (ZbD (a := .slice k'') (b := .slice k) xs).bind fun xs => (Zcm ps (j + 1) h' svs).map fun y => (((xs, n, c), y.1), b :: y.2)
      | _, _ => none) = some (x, l)
     split at he
     ·rename_i hk k'' xs e1 e2
      obtain ⟨xs', e3, he⟩ := Option.bind_eq_some_iff.1 he
      obtain ⟨⟨z, l'⟩, e4, he⟩ := Option.map_eq_some_iff.1 he
      cases he
      rw [hb b (List.mem_cons_self ..), e1, e2]
      simp only [e3, Option.bind_some]
      rw [ih e4 (fun b' hb' => hb b' (List.mem_cons_of_mem _ hb'))]; rfl
     ·cases he
    | _ => cases he
   | obj o =>
    cases sv with
    | ptr b off => cases off with
     | succ _ => cases he
     | zero =>
      replace he : (match getB h b with | some (.cells cs') => (match Nat.ble cs'.length 50 with | true => (o.get h cs' b 0).bind fun x => (Zcm ps (j + 1) h svs).map fun y => ((x.1, y.1), (b :: x.2) ++ y.2) | false => none) | _ => none) = some (x, l) := he
      show (match getB h' b with | some (.cells cs') => (match Nat.ble cs'.length 50 with | true => (o.get h' cs' b 0).bind fun x => (Zcm ps (j + 1) h' svs).map fun y => ((x.1, y.1), (b :: x.2) ++ y.2) | false => none) | _ => none) = some (x, l)
      split at he
      ·rename_i cs' hgb
       split at he
       ·rename_i hle
        obtain ⟨⟨z, lx⟩, e1, he⟩ := Option.bind_eq_some_iff.1 he
        obtain ⟨⟨y, ly⟩, e2, he⟩ := Option.map_eq_some_iff.1 he
        cases he
        rw [hb b (by simp), hgb]
        simp only [hle]
        rw [Zqw o e1 (fun b' hb' => hb b' (by simp [hb'])), Option.bind_some, ih e2 (fun b' hb' => hb b' (by simp [hb']))]; rfl
       ·cases he
      ·cases he
    | _ => cases he
def SV.still (N : Nat) : SV → Prop
 | .own t _ _ => 1099511627776 ≤ t
 | .ptr j _ => j < N
 | .rm j _ _ _ => j < N
 | _ => True
def Blk.still (N : Nat) : Blk → Prop
 | .cells cs => ∀ s ∈ cs, s.still N
 | .arr _ _ => True
 | .mp _ _ => True
theorem cond_f {α : Type} {c : Bool} (h : c = false) (a b : α) : cond c a b = b := by subst h; rfl
theorem Zrf {ms : List Nat} {L d t : Nat} (h : 1099511627775 < t) : renT ms L d t = cond (Nat.beq t 1100000000000) t (tokD d (t - tokR 0)) := cond_f (ZfM h) (tokC (renB ms L ((t - 1000) / 50)) ((t - 1000) % 50)) (cond (Nat.beq t 1100000000000) t (tokD d (t - tokR 0)))
theorem Zmu {ms : List Nat} {L L' d : Nat} {s : SV} (h : s.still ms.length) : s.ren ms L d = s.ren ms L' d := by
 cases s with
 | own t k xs =>
  have h : 1099511627776 ≤ t := h
  show SV.own (renT ms L d t) k xs = .own (renT ms L' d t) k xs
  rw [Zrf (by omega), Zrf (by omega)]
 | ptr j o =>
  show SV.ptr (renB ms L j) o = .ptr (renB ms L' j) o
  unfold renB
  rw [ZhZ (show j < ms.length from h)]; rfl
 | rm j k n c =>
  show SV.rm (renB ms L j) k n c = .rm (renB ms L' j) k n c
  unfold renB
  rw [ZhZ (show j < ms.length from h)]; rfl
 | _ => rfl
theorem ZpG {ms : List Nat} {L L' d : Nat} {b : Blk} (h : b.still ms.length) : b.ren ms L d = b.ren ms L' d := by
 cases b with
 | cells cs =>
  show Blk.cells (cs.map (SV.ren ms L d)) = Blk.cells (cs.map (SV.ren ms L' d))
  congr 1
  exact List.map_congr_left fun s hs => Zmu (h s hs)
 | arr _ _ => rfl
 | mp _ _ => rfl
theorem Zeh (N : Nat) : ∀ (k : Kd) (x : k.T), ∀ s ∈ k.split x, s.still N
 | .int k, x, s, h => by obtain rfl := List.mem_singleton.1 (show s ∈ [SV.dat (.int k) x] from h); trivial
 | .bool, x, s, h => by obtain rfl := List.mem_singleton.1 (show s ∈ [SV.dat .bool x] from h); trivial
 | .flt, x, s, h => by obtain rfl := List.mem_singleton.1 (show s ∈ [SV.dat .flt x] from h); trivial
 | .str, x, s, h => by obtain rfl := List.mem_singleton.1 (show s ∈ [SV.dat .str x] from h); trivial
 | .slice k, x, s, h => by obtain rfl := List.mem_singleton.1 (show s ∈ [SV.dat (.slice k) x] from h); trivial
 | .np, x, s, h => by obtain rfl := List.mem_singleton.1 (show s ∈ [SV.cst (.pointer none)] from h); trivial
 | .rp k, x, s, h => by obtain rfl := List.mem_singleton.1 (show s ∈ [SV.dat (.rp k) x] from h); trivial
 | .nsl, x, s, h => by obtain rfl := List.mem_singleton.1 (show s ∈ [SV.cst (.slice none 0 0)] from h); trivial
 | .tre k, x, s, h => by
  rcases List.mem_append.1 (show s ∈ k.split x.val ++ [SV.dat (.slice (.tre k)) x.sub] from h) with h | h
  ·exact Zeh N k _ s h
  ·obtain rfl := List.mem_singleton.1 h; trivial
 | .unit, x, s, h => by cases h
 | .pair a b, x, s, h => by
  rcases List.mem_append.1 (show s ∈ a.split x.1 ++ b.split x.2 from h) with h | h
  ·exact Zeh N a _ s h
  ·exact Zeh N b _ s h
 | .arr n k, xs, s, h => by
  obtain ⟨i, _, h⟩ := List.mem_flatMap.1 (show s ∈ (List.range n).flatMap fun i => k.split (xs.getD i k.zero) from h)
  exact Zeh N k _ s h
theorem Zgr (N : Nat) : ∀ (o : Ob) (c : o.T) (self pos nx : Nat), o.hasOwn = false → nx + o.cnt ≤ N → (∀ s ∈ (o.put c self pos nx).1, s.still N) ∧ ∀ b ∈ (o.put c self pos nx).2, b.still N
 | .nil, _, _, _, _, _, _ => ⟨(fun s h => by cases h), (fun b h => by cases h)⟩
 | .dat k r, c, self, pos, nx, ho, hN => by
  obtain ⟨h1, h2⟩ := Zgr N r c.2 self (pos + k.size) nx ho hN
  refine ⟨fun s h => ?_, h2⟩
  rcases List.mem_append.1 (show s ∈ k.split c.1 ++ (r.put c.2 self (pos + k.size) nx).1 from h) with h | h
  ·exact Zeh N k c.1 s h
  ·exact h1 s h
 | .own k r, c, self, pos, nx, ho, hN => by cases ho
 | .mo k r, c, self, pos, nx, ho, hN => by cases ho
 | .ref o r, c, self, pos, nx, ho, hN => by
  have ho : (o.hasOwn || r.hasOwn) = false := ho
  rw [Bool.or_eq_false_iff] at ho
  have hN : nx + ((1 + o.cnt) + r.cnt) ≤ N := hN
  have hc := Zdw o c.1 nx 0 (nx + 1)
  obtain ⟨a1, a2⟩ := Zgr N o c.1 nx 0 (nx + 1) ho.1 (by omega)
  obtain ⟨b1, b2⟩ := Zgr N r c.2 self (pos + 1) (nx + (1 + (o.put c.1 nx 0 (nx + 1)).2.length)) ho.2 (by rw [hc]; omega)
  refine ⟨fun s h => ?_, fun b h => ?_⟩
  ·rcases List.mem_cons.1 (show s ∈ SV.ptr nx 0 :: (r.put c.2 self (pos + 1) (nx + (1 + (o.put c.1 nx 0 (nx + 1)).2.length))).1 from h) with rfl | h
   ·show nx < N; omega
   ·exact b1 s h
  ·rcases List.mem_append.1 (show b ∈ (Blk.cells (o.put c.1 nx 0 (nx + 1)).1 :: (o.put c.1 nx 0 (nx + 1)).2) ++ (r.put c.2 self (pos + 1) (nx + (1 + (o.put c.1 nx 0 (nx + 1)).2.length))).2 from h) with h | h
   ·rcases List.mem_cons.1 h with rfl | h
    ·exact a1
    ·exact a2 b h
   ·exact b2 b h
theorem ZdS (N : Nat) : ∀ (ps : List Pk) (x : BT ps) (nx : Nat), anyB Pk.inn ps = false → nx + cntP ps ≤ N → ∀ b ∈ endB ps x nx, b.still N
 | [], _, _, _, _, b, h => by cases h
 | .dat _ :: ps, x, nx, hs, hq, b, h => ZdS N ps x nx (ZbB hs).2 hq b h
 | .own _ :: ps, x, nx, hs, hq, b, h => by cases (ZbB hs).1
 | .nil :: ps, x, nx, hs, hq, b, h => ZdS N ps x nx (ZbB hs).2 hq b h
 | .fn _ :: ps, x, nx, hs, hq, b, h => ZdS N ps x nx (ZbB hs).2 hq b h
 | .room k :: ps, x, nx, hs, hq, b, h => by
  rcases List.mem_cons.1 (show b ∈ Blk.arr k x.1 :: endB ps x.2 (nx + 1) from h) with rfl | h
  ·trivial
  ·exact ZdS N ps x.2 (nx + 1) (ZbB hs).2 (by have hq : nx + (1 + cntP ps) ≤ N := hq; omega) b h
 | .obj o :: ps, x, nx, hs, hq, b, h => by
  obtain ⟨h1, h2⟩ := ZbB hs
  have hq : nx + ((1 + o.cnt) + cntP ps) ≤ N := hq
  have hc := Zdw o x.1 nx 0 (nx + 1)
  obtain ⟨a1, a2⟩ := Zgr N o x.1 nx 0 (nx + 1) h1 (by omega)
  have b1 := ZdS N ps x.2 (nx + (1 + (o.put x.1 nx 0 (nx + 1)).2.length)) h2 (by rw [hc]; omega)
  rcases List.mem_append.1 (show b ∈ (Blk.cells (o.put x.1 nx 0 (nx + 1)).1 :: (o.put x.1 nx 0 (nx + 1)).2) ++ endB ps x.2 (nx + (1 + (o.put x.1 nx 0 (nx + 1)).2.length)) from h) with h | h
  ·rcases List.mem_cons.1 h with rfl | h
   ·exact a1
   ·exact a2 b h
  ·exact b1 b h
theorem ZdV (N : Nat) : ∀ (rs : List Rk) (x : RT rs) (j nx : Nat), anyB Rk.isRin rs = false → (resV rs x j nx).2 = [] → ∀ s ∈ (resV rs x j nx).1, s.still N
 | [], _, _, _, _, _, s, h => by cases h
 | .dat k :: rs, x, j, nx, hr, he, s, h => by
  rcases List.mem_cons.1 (show s ∈ SV.dat k x.1 :: (resV rs x.2 (j + 1) nx).1 from h) with rfl | h
  ·trivial
  ·exact ZdV N rs x.2 (j + 1) nx (ZbB hr).2 he s h
 | .own k :: rs, x, j, nx, hr, he, s, h => by
  rcases List.mem_cons.1 (show s ∈ SV.own (tokR j) k x.1 :: (resV rs x.2 (j + 1) nx).1 from h) with rfl | h
  ·show 1099511627776 ≤ tokR j; unfold tokR; omega
  ·exact ZdV N rs x.2 (j + 1) nx (ZbB hr).2 he s h
 | .ref o :: rs, (none, y), j, nx, hr, he, s, h => by
  rcases List.mem_cons.1 (show s ∈ SV.cst (.pointer none) :: (resV rs y (j + 1) nx).1 from h) with rfl | h
  ·trivial
  ·exact ZdV N rs y (j + 1) nx (ZbB hr).2 he s h
 | .ref o :: rs, (some c, y), j, nx, hr, he, s, h => by
  have he : (Blk.cells (o.put c nx 0 (nx + 1)).1 :: (o.put c nx 0 (nx + 1)).2) ++ (resV rs y (j + 1) (nx + (1 + (o.put c nx 0 (nx + 1)).2.length))).2 = [] := he
  simp at he
 | .jk k :: rs, x, j, nx, hr, he, s, h => by
  rcases List.mem_cons.1 (show s ∈ SV.jk k x.1 :: (resV rs x.2 (j + 1) nx).1 from h) with rfl | h
  ·trivial
  ·exact ZdV N rs x.2 (j + 1) nx (ZbB hr).2 he s h
 | .js q :: rs, x, j, nx, hr, he, s, h => by
  rcases List.mem_cons.1 (show s ∈ SV.agg (ZlQ q x.1) :: (resV rs x.2 (j + 1) nx).1 from h) with rfl | h
  ·trivial
  ·exact ZdV N rs x.2 (j + 1) nx (ZbB hr).2 he s h
 | .rin i k :: rs, x, j, nx, hr, he, s, h => by cases (ZbB hr).1
 | .row k :: rs, x, j, nx, hr, he, s, h => by cases he
theorem ZdU : ∀ (rs : List Rk) (x : RT rs) (j nx : Nat), anyB Rk.isRef rs = false → (resV rs x j nx).2 = []
 | [], _, _, _, _ => rfl
 | .dat k :: rs, x, j, nx, h => ZdU rs x.2 (j + 1) nx (ZbB h).2
 | .own k :: rs, x, j, nx, h => ZdU rs x.2 (j + 1) nx (ZbB h).2
 | .jk k :: rs, x, j, nx, h => ZdU rs x.2 (j + 1) nx (ZbB h).2
 | .js k :: rs, x, j, nx, h => ZdU rs x.2 (j + 1) nx (ZbB h).2
 | .rin _ k :: rs, x, j, nx, h => ZdU rs x.2 (j + 1) nx (ZbB h).2
 | .row k :: rs, x, j, nx, h => by cases (ZbB h).1
 | .ref o :: rs, x, j, nx, h => by cases (ZbB h).1
theorem ZmG {h : List Blk} : ∀ (ps : List Pk) {j : Nat} {svs : List SV} {x : PT ps} {l : List Nat}, anyB Pk.isObj ps = false → Zcm ps j h svs = some (x, l) → l.length = cntP ps → l = [] := by
 intro ps j svs x l hn _ hl
 have : ∀ ps : List Pk, anyB Pk.isObj ps = false → cntP ps = 0 := by
  intro ps
  induction ps with
  | nil => intro _; rfl
  | cons pk ps ih =>
   intro hn
   obtain ⟨h1, h2⟩ := ZbB hn
   cases pk with
   | obj o => cases h1
   | room k => cases h1
   | _ => exact ih h2
 rw [this ps hn] at hl
 exact List.eq_nil_of_length_eq_zero hl
theorem ZtE {h : List Blk} : ∀ (o : Ob) {cs : List SV} {self pos : Nat} {c : o.T} {l : List Nat}, o.get h cs self pos = some (c, l) → l.length = o.cnt := by
 intro o
 induction o with
 | nil =>
  intro cs self pos c l he
  cases cs with
  | nil => cases he; rfl
  | cons _ _ => cases he
 | dat k r ih =>
  intro cs self pos c l he
  obtain ⟨⟨x, rest⟩, e1, he⟩ := Option.bind_eq_some_iff.1 he
  obtain ⟨⟨y, l'⟩, e2, he⟩ := Option.map_eq_some_iff.1 he
  cases he
  exact ih e2
 | own k r ih =>
  intro cs self pos c l he
  cases cs with
  | nil => cases he
  | cons sv cs => cases sv with
   | own t k' xs =>
    replace he : (match Nat.beq t (tokC self pos) with | true => (ZbD (a := .slice k') (b := .slice k) xs).bind fun xs => (r.get h cs self (pos + 1)).map fun y => ((xs, y.1), y.2) | false => none) = some (c, l) := he
    split at he
    ·obtain ⟨xs', e1, he⟩ := Option.bind_eq_some_iff.1 he
     obtain ⟨⟨y, l'⟩, e2, he⟩ := Option.map_eq_some_iff.1 he
     cases he
     exact ih e2
    ·cases he
   | _ => cases he
 | mo k r ih =>
  intro cs self pos c l he
  cases cs with
  | nil => cases he
  | cons sv cs => cases sv with
   | mo k' xs =>
    replace he : ((ZbD (a := .slice k') (b := .slice k) xs).bind fun xs => (r.get h cs self (pos + 1)).map fun y => ((xs, y.1), y.2)) = some (c, l) := he
    obtain ⟨xs', e1, he⟩ := Option.bind_eq_some_iff.1 he
    obtain ⟨⟨y, l'⟩, e2, he⟩ := Option.map_eq_some_iff.1 he
    cases he
    exact ih e2
   | cst u =>
    replace he : (match (SV.cst u :: cs) with
     | .mo k' xs :: cs => (ZbD (a := .slice k') (b := .slice k) xs).bind fun xs => (r.get h cs self (pos + 1)).map fun y => ((xs, y.1), y.2)
     | .cst (.slice none 0 0) :: cs => (r.get h cs self (pos + 1)).map fun y => (([], y.1), y.2)
     | _ => none) = some (c, l) := he
    split at he
    ·rename_i hh; cases hh
    ·rename_i hh
     cases hh
     obtain ⟨⟨y, l'⟩, e2, he⟩ := Option.map_eq_some_iff.1 he
     cases he
     exact ih e2
    ·cases he
   | _ => cases he
 | ref o r iho ihr =>
  intro cs self pos c l he
  cases cs with
  | nil => cases he
  | cons sv cs => cases sv with
   | ptr b off => cases off with
    | succ _ => cases he
    | zero =>
     replace he : (match getB h b with | some (.cells cs') => (match Nat.ble cs'.length 50 with | true => (o.get h cs' b 0).bind fun x => (r.get h cs self (pos + 1)).map fun y => ((x.1, y.1), (b :: x.2) ++ y.2) | false => none) | _ => none) = some (c, l) := he
     split at he
     ·split at he
      ·obtain ⟨⟨x, lx⟩, e1, he⟩ := Option.bind_eq_some_iff.1 he
       obtain ⟨⟨y, ly⟩, e2, he⟩ := Option.map_eq_some_iff.1 he
       cases he
       have h1 := iho e1
       have h2 := ihr e2
       show ((b :: lx) ++ ly).length = (1 + o.cnt) + r.cnt
       rw [List.length_append, List.length_cons, h1, h2]; omega
      ·cases he
     ·cases he
   | _ => cases he
theorem ZrG {h : List Blk} : ∀ (ps : List Pk) {j : Nat} {svs : List SV} {x : PT ps} {l : List Nat}, Zcm ps j h svs = some (x, l) → l.length = cntP ps := by
 intro ps
 induction ps with
 | nil =>
  intro j svs x l he
  cases svs with
  | nil => cases he; rfl
  | cons _ _ => cases he
 | cons pk ps ih =>
  intro j svs x l he
  cases svs with
  | nil => cases pk <;> cases he
  | cons sv svs =>
   cases pk with
   | dat k =>
    obtain ⟨y, e1, he⟩ := Option.bind_eq_some_iff.1 (show (sv.as k).bind (fun x => (Zcm ps (j + 1) h svs).map fun y => ((x, y.1), y.2)) = some (x, l) from he)
    obtain ⟨⟨z, l'⟩, e2, he⟩ := Option.map_eq_some_iff.1 he
    cases he
    exact ih e2
   | own k =>
    cases sv with
    | own t k' xs =>
     replace he : (match Nat.beq t (tokP j) with | true => (ZbD (a := .slice k') (b := .slice k) xs).bind fun xs => (Zcm ps (j + 1) h svs).map fun y => ((xs, y.1), y.2) | false => none) = some (x, l) := he
     split at he
     ·obtain ⟨xs', e1, he⟩ := Option.bind_eq_some_iff.1 he
      obtain ⟨⟨z, l'⟩, e2, he⟩ := Option.map_eq_some_iff.1 he
      cases he
      exact ih e2
     ·cases he
    | _ => cases he
   | nil =>
    cases sv with
    | cst c => cases c with
     | pointer a => cases a with
      | some _ => cases he
      | none =>
       obtain ⟨⟨z, l'⟩, e2, he⟩ := Option.map_eq_some_iff.1 (show (Zcm ps (j + 1) h svs).map (fun y => (((), y.1), y.2)) = some (x, l) from he)
       cases he
       exact ih e2
     | _ => cases he
    | _ => cases he
   | fn gf =>
    cases sv with
    | func g' cs => cases cs with
     | cons _ _ => cases he
     | nil =>
      replace he : (match Nat.beq gf g' with | true => (Zcm ps (j + 1) h svs).map fun y => (((), y.1), y.2) | false => none) = some (x, l) := he
      split at he
      ·obtain ⟨⟨z, l'⟩, e2, he⟩ := Option.map_eq_some_iff.1 he
       cases he
       exact ih e2
      ·cases he
    | _ => cases he
   | room k =>
    cases sv with
    | rm b k' n c =>
     replace he : (match decEq k' k, getB h b with
      | isTrue _, some (.arr k'' xs) => (ZbD (a := .slice k'') (b := .slice k) xs).bind fun xs => (Zcm ps (j + 1) h svs).map fun y => (((xs, n, c), y.1), b :: y.2)
      | _, _ => none) = some (x, l) := he
     split at he
     ·obtain ⟨xs', e3, he⟩ := Option.bind_eq_some_iff.1 he
      obtain ⟨⟨z, l'⟩, e4, he⟩ := Option.map_eq_some_iff.1 he
      cases he
      have := ih e4
      show l'.length + 1 = 1 + cntP ps
      omega
     ·cases he
    | _ => cases he
   | obj o =>
    cases sv with
    | ptr b off => cases off with
     | succ _ => cases he
     | zero =>
      replace he : (match getB h b with | some (.cells cs') => (match Nat.ble cs'.length 50 with | true => (o.get h cs' b 0).bind fun x => (Zcm ps (j + 1) h svs).map fun y => ((x.1, y.1), (b :: x.2) ++ y.2) | false => none) | _ => none) = some (x, l) := he
      split at he
      ·split at he
       ·obtain ⟨⟨z, lx⟩, e1, he⟩ := Option.bind_eq_some_iff.1 he
        obtain ⟨⟨y, ly⟩, e2, he⟩ := Option.map_eq_some_iff.1 he
        cases he
        have h1 := ZtE o e1
        have h2 := ih e2
        show ((b :: lx) ++ ly).length = (1 + o.cnt) + cntP ps
        rw [List.length_append, List.length_cons, h1, h2]; omega
       ·cases he
      ·cases he
    | _ => cases he
end Go.Shal
