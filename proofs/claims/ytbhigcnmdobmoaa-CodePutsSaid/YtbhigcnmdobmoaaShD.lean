/- An abstract interpreter of the model's code, proved right against the model: part 4. By an AI agent. -/
import Derived.Test.YtbhigcnmdobmoaaShC
import Derived.LoopN
import Derived.Scope
import Derived.ProofKit
import Derived.OpenShut
import Derived.Carry
import Derived.Deep.DeepHandedRow
import Derived.Laws.Externs
set_option linter.unusedVariables false
namespace Go.Shal
open Go.RowKit
section
variable {E : Env} {n : Nat} {ops : List Oper}
theorem ZlW {o : Oper} (h : ∀ c, o.op ≠ .call c) : Zch E o = none := by
 unfold Zch
 split
 ·rename_i c hc; exact absurd hc (h c)
 ·rfl
theorem ZeP {o : Oper} (h : Zch E o = none) : (lev E o < 2 → hard o = false → lev E o = 0) ∧ (lev E o < 2 → hard o = true → (∃ t x y, o.op = .makeSlice t x y) ∨ ∃ c, o.op = .call c ∧ c.callee = .builtin .append) := by
 obtain ⟨dst, op, type, pos, aft, guard⟩ := o
 unfold lev
 rw [h]
 cases op with
 | makeSlice t x y => exact ⟨(fun _ h => by cases h), fun _ _ => .inl ⟨t, x, y, rfl⟩⟩
 | select _ _ => exact ⟨(fun _ h => by cases h), fun h => absurd (show 2 < 2 from h) (by decide)⟩
 | store _ _ _ =>
  refine ⟨fun h _ => ?_, fun _ h => by cases h⟩
  simp only [] at h ⊢
  cases hg : E.grows with
  | true => rw [hg] at h; exact absurd (show 2 < 2 from h) (by decide)
  | false => rfl
 | call c =>
  cases hc : c.callee with
  | builtin b =>
   cases b with
   | append => exact ⟨fun _ h => by simp [hard, hc] at h, fun _ _ => .inr ⟨c, rfl, hc⟩⟩
   | _ => exact ⟨fun _ _ => by simp only [hc], fun _ h => by simp [hard, hc] at h⟩
  | value f => exact ⟨fun _ _ => by simp only [hc], fun _ h => by simp [hard, hc] at h⟩
  | invoke a b => exact ⟨fun _ _ => by simp only [hc], fun _ h => by simp [hard, hc] at h⟩
 | _ => exact ⟨fun _ _ => rfl, fun _ h => by cases h⟩
theorem ZpI {o : Oper} {s s1 : St} (h : Zch E o = none) (hb : ZdN o = false) (hlk : ZeX o s = false) : ZcI E o s s1 = ([], []) := by
 obtain ⟨dst, op, type, pos, aft, guard⟩ := o
 unfold ZcI
 rw [h]
 cases op
 case call c =>
  unfold ZeX at hlk
  simp only [] at hlk ⊢
  cases hc : c.callee with
  | value f => rw [hc] at hlk; simp only [] at hlk ⊢; rw [hlk]
  | _ => rfl
 all_goals first | rfl | cases hb
theorem ZmZ {o : Oper} {s s' : St} (hl : ∀ t ∈ ZcG ops o, getN s'.slots t = getN s.slots t) : ZeX o s' = ZeX o s := by
 have hev := ZcP hl
 obtain ⟨dst, op, type, pos, aft, guard⟩ := o
 cases op
 case call c =>
  unfold ZeX
  simp only []
  have hargs : c.args.toList.map s'.eval = c.args.toList.map s.eval := List.map_congr_left fun x hx => hev x (by simp [Op.operands, Call.operands]; exact .inr (by simpa using hx))
  rw [hargs]
 all_goals rfl
theorem Zpq {o : Oper} {s s1 : St} (ho : Zch E o = none) (hlk : ZeX o s = true) (h : opD E n o s = some s1) :
  ∃ e, Good s s1 o.dst (ZcG ops o) e (foot E ops o s s1) ∧ Zkc E n ops o s s1 e := by
 obtain ⟨dst, op, type, pos, aft, guard⟩ := o
 cases op
 case call c =>
  unfold ZeX at hlk
  simp only [] at hlk
  cases hc : c.callee with
  | value f =>
   rw [hc] at hlk
   simp only [] at hlk
   have hard0 : hard ⟨dst, .call c, type, pos, aft, guard⟩ = false := by unfold hard; simp only [hc]
   have hsoft : Nat.ble 1 (lev E ⟨dst, .call c, type, pos, aft, guard⟩) = false := by
    have : lev E ⟨dst, .call c, type, pos, aft, guard⟩ = 0 := (ZeP ho).1 (by unfold lev; rw [ho]; simp only [hc]; decide) hard0
    rw [this]; rfl
   have htouch : ∀ s1, ZcI E ⟨dst, .call c, type, pos, aft, guard⟩ s s1 = (ZcA 0 s.heap.length, []) := fun s1 => by
    unfold ZcI
    rw [ho]
    simp only [hc, hlk]
   have hop : ∀ s : St, opD E n ⟨dst, .call c, type, pos, aft, guard⟩ s = resD (match s.eval f with
    | .func g [] => match look E.cons g with
     | some C => match ZfI C.ps (c.args.toList.map s.eval) with
      | some x => .call C.rs (C.f n x) (Zfm dst s C.rs)
      | none => Zdm E n s dst C (c.args.toList.map s.eval)
     | none => .fail
    | _ => .fail) := fun s => by
    unfold opD
    simp only [ho]
    unfold evOp
    simp only [hc]
    rfl
   rw [hop] at h
   cases hf : s.eval f with
   | func g cs =>
    cases cs with
    | cons _ _ => rw [hf] at h; cases h
    | nil =>
     rw [hf] at h
     simp only [] at h
     cases hC : look E.cons g with
     | none => rw [hC] at h; cases h
     | some C =>
      rw [hC] at h
      simp only [] at h
      have fin : ∀ (y : (Kd.struct C.rs).T), s1 = Zfm dst s C.rs y → (∀ s' : St, s'.eval f = s.eval f → c.args.toList.map s'.eval = c.args.toList.map s.eval → Zrj s.heap s'.heap → resD (match ZfI C.ps (c.args.toList.map s'.eval) with
        | some x => .call C.rs (C.f n x) (Zfm dst s' C.rs)
        | none => Zdm E n s' dst C (c.args.toList.map s'.eval)) = some (Zfm dst s' C.rs y)) →
        ∃ e, Good s s1 dst (ZcG ops ⟨dst, .call c, type, pos, aft, guard⟩) e (foot E ops ⟨dst, .call c, type, pos, aft, guard⟩ s s1) ∧ Zkc E n ops ⟨dst, .call c, type, pos, aft, guard⟩ s s1 e := fun y h1 h2 => by
       refine ⟨⟨Zcq, [], [], ZpB C.rs y⟩, ZeN (e := ⟨Zcq, [], [], ZpB C.rs y⟩) (h1.trans ((ZkK dst s C.rs y).trans (Zdz (ZpB C.rs y) dst s).symm)) (fun _ => rfl) (fun hx => by rw [hsoft] at hx; cases hx) (fun u hu => by cases hu) List.nodup_nil (fun j hj => by simp at hj), fun s' hl hbk _ => ?_⟩
       have hev := ZcP hl
       have hf' : s'.eval f = s.eval f := hev f (by simp [Op.operands, Call.operands, hc])
       have hargs : c.args.toList.map s'.eval = c.args.toList.map s.eval := List.map_congr_left fun x hx => hev x (by simp [Op.operands, Call.operands]; exact .inr (by simpa using hx))
       have hsame : Zrj s.heap s'.heap := fun b hb => hbk b (.inl (by
        show b ∈ (ZcI E ⟨dst, .call c, type, pos, aft, guard⟩ s s1).1
        rw [htouch]
        have : ∀ (m L : Nat), L ≤ b → b < L + m → b ∈ ZcA L m := by
         intro m
         induction m with
         | zero => intro L h1 h2; omega
         | succ m ih =>
          intro L h1 h2
          show b ∈ L :: ZcA (L + 1) m
          by_cases e : b = L
          ·rw [e]; exact List.mem_cons_self
          ·exact List.mem_cons_of_mem _ (ih (L + 1) (by omega) (by omega))
        exact this _ 0 (Nat.zero_le _) (by omega)))
       rw [hop, hf', hf, Zdz, ← ZkK dst s' C.rs y]
       simp only [hC]
       exact h2 s' hf' hargs hsame
      cases ha : ZfI C.ps (c.args.toList.map s.eval) with
      | some x =>
       rw [ha] at h
       obtain ⟨y, hy, h1⟩ := Option.map_eq_some_iff.1 (show (C.f n x).map (Zfm dst s C.rs) = some s1 from h)
       exact fin y h1.symm fun s' _ hargs _ => by rw [hargs, ha]; show (C.f n x).map (Zfm dst s' C.rs) = _; rw [hy]; rfl
      | none =>
       rw [ha] at h
       simp only [] at h
       unfold Zdm at h
       rw [hlk] at h
       simp only [] at h
       cases hbr : allB Kd.bare C.rs with
       | false => rw [hbr] at h; cases h
       | true =>
        rw [hbr] at h
        simp only [] at h
        cases hla : ZdE s C.ps (c.args.toList.map s.eval) with
        | none => rw [hla] at h; cases h
        | some x =>
         rw [hla] at h
         obtain ⟨y, hy, h1⟩ := Option.map_eq_some_iff.1 (show (C.f n x).map (Zfm dst s C.rs) = some s1 from h)
         exact fin y h1.symm fun s' _ hargs hsame => by
          rw [hargs, ha]
          simp only []
          unfold Zdm
          rw [hlk]
          simp only [hbr]
          rw [Zgn hsame hla]
          show (C.f n x).map (Zfm dst s' C.rs) = _
          rw [hy]; rfl
   | _ => rw [hf] at h; cases h
  | _ => rw [hc] at hlk; cases hlk
 all_goals cases hlk
theorem Znb {o : Oper} {s s1 : St} (hl2 : lev E o < 2) (ho : Zch E o = none) (hh : hard o = false) (hb : ZdN o = false) (hlk : ZeX o s = false) (h : opD E n o s = some s1) :
  ∃ e, Good s s1 o.dst (ZcG ops o) e (foot E ops o s s1) ∧ Zkc E n ops o s s1 e := by
 rw [ZlY E n o s ho hh hb hlk] at h
 obtain ⟨v, hv, rfl⟩ := Option.map_eq_some_iff.1 h
 refine ⟨⟨Zcq, [], [], v⟩, ZeN (Zdz v o.dst s).symm (fun _ => rfl) (fun hl => ?_) (fun u hu => by cases hu) List.nodup_nil (fun j hj => by simp at hj), fun s' hl _ _ => ?_⟩
 ·rw [(ZeP ho).1 hl2 hh] at hl; cases hl
 ·rw [Zdz, ZlY E n o s' ho hh hb (by rw [ZmZ hl]; exact hlk), ZsO E n o (ZcP hl), hv]; rfl
theorem Zpn {o : Oper} (hl2 : lev E o < 2) (hb : ZdN o = true) : Zch E o = none ∧ lev E o = 0 := by
 have h1 : Zch E o = none := ZlW fun c hc => by unfold ZdN at hb; rw [hc] at hb; cases hb
 refine ⟨h1, (ZeP h1).1 hl2 ?_⟩
 obtain ⟨dst, op, type, pos, aft, guard⟩ := o
 cases op <;> first | rfl | cases hb
theorem ble10 {x : Nat} (h : x = 0) : Nat.ble 1 x = false := by subst h; rfl
theorem ZlS {o : Oper} {s s1 : St} (hl2 : lev E o < 2) (hb : ZdN o = true) (h : opD E n o s = some s1) : ∃ e, Good s s1 o.dst (ZcG ops o) e (foot E ops o s s1) ∧ Zkc E n ops o s s1 e := by
 obtain ⟨ho, hl0⟩ := Zpn (E := E) hl2 hb
 have hsoft := ble10 hl0
 have hno : ∀ {X : Prop}, Nat.ble 1 (lev E o) = true → X := fun h => by rw [hsoft] at h; cases h
 obtain ⟨dst, op, type, pos, aft, guard⟩ := o
 cases op
 case load t x =>
  replace h : resD (ZgY s dst (Zdk E s t (E.asR (s.eval x)))) = some s1 := h
  rw [Zdf] at h
  obtain ⟨v, hv, rfl⟩ := Option.map_eq_some_iff.1 h
  refine ⟨⟨Zcq, [], [], v⟩, ZeN (Zdz v dst s).symm (fun _ => rfl) hno (fun u hu => by cases hu) List.nodup_nil (fun j hj => by simp at hj), fun s' hl hbk _ => ?_⟩
  have hx : s'.eval x = s.eval x := ZcP hl x (by simp [Op.operands])
  show resD (ZgY s' dst (Zdk E s' t (E.asR (s'.eval x)))) = _
  rw [Zdf, hx, Zdz]
  have : Zdk E s' t (E.asR (s.eval x)) = Zdk E s t (E.asR (s.eval x)) := by
   cases hp : s.eval x with
   | ptr b q =>
    show Zdk E s' t (.ptr b q) = Zdk E s t (.ptr b q)
    have hg : getB s'.heap b = getB s.heap b := by
     refine hbk b (.inl ?_)
     show b ∈ (ZcI E ⟨dst, .load t x, type, pos, aft, guard⟩ s _).1
     unfold ZcI
     rw [ho]
     simp [hp]
    cases q <;> simp only [Zdk, Zhd, ZgK, hg]
   | cst c =>
    unfold Env.asR
    split
    ·split <;> rfl
    all_goals simp only [Zdk, Zhd, ZgK]
   | dat k y => cases k <;> rfl
   | eptr b k n i =>
    show Zdk E s' t (.eptr b k n i) = Zdk E s t (.eptr b k n i)
    have hg : getB s'.heap b = getB s.heap b := by
     refine hbk b (.inl ?_)
     show b ∈ (ZcI E ⟨dst, .load t x, type, pos, aft, guard⟩ s _).1
     unfold ZcI
     rw [ho]
     simp [hp]
    simp only [Zdk, Zhd, ZgK, hg]
   | _ => rfl
  rw [this, hv]; rfl
 case lookup t x y ok =>
  cases ok with
  | true => cases h
  | false =>
   replace h : resD (val s dst (Zhj E s t (s.eval x) (s.eval y))) = some s1 := h
   rw [ZfA] at h
   obtain ⟨v, hv, rfl⟩ := Option.map_eq_some_iff.1 h
   refine ⟨⟨Zcq, [], [], v⟩, ZeN (Zdz v dst s).symm (fun _ => rfl) hno (fun u hu => by cases hu) List.nodup_nil (fun j hj => by simp at hj), fun s' hl hbk _ => ?_⟩
   have hx : s'.eval x = s.eval x := ZcP hl x (by simp [Op.operands])
   have hy : s'.eval y = s.eval y := ZcP hl y (by simp [Op.operands])
   show resD (val s' dst (Zhj E s' t (s'.eval x) (s'.eval y))) = _
   rw [ZfA, hx, hy, Zdz]
   have : Zhj E s' t (s.eval x) (s.eval y) = Zhj E s t (s.eval x) (s.eval y) := by
    cases hp : s.eval x with
    | mp b =>
     have hg : getB s'.heap b = getB s.heap b := by
      refine hbk b (.inl ?_)
      show b ∈ (ZcI E ⟨dst, .lookup t x y false, type, pos, aft, guard⟩ s _).1
      unfold ZcI
      rw [ho]
      simp [hp]
     simp only [Zhj, hg]
    | _ => rfl
   rw [this, hv]; rfl
 case store t x y =>
  replace h : resD (match Zea E s t (s.eval x) ((s.eval y).typed (E.ty t)) with | some s => .go true (s.put dst .undef) | none => .fail) = some s1 := h
  cases hs : Zea E s t (s.eval x) ((s.eval y).typed (E.ty t)) with
  | none => rw [hs] at h; cases h
  | some s2 =>
   rw [hs] at h
   obtain rfl : s2.put dst .undef = s1 := Option.some.inj h
   cases hp : s.eval x with
   | ptr b q =>
    rw [hp] at hs
    unfold Zea at hs
    simp only [] at hs
    split at hs
    ·rename_i cs i vs hg hi hv
     split at hs
     ·rename_i hok
      obtain rfl := Option.some.inj hs
      have htouch : ∀ s1, ZcI E ⟨dst, .store t x y, type, pos, aft, guard⟩ s s1 = ([], [b]) := fun s1 => by
       unfold ZcI
       rw [ho]
       simp [hp]
      refine ⟨⟨Zcq, [(b, .cells (Zjs cs q vs))], [], .undef⟩, ZeN ?_ (fun _ => rfl) hno (fun u hu => ?_) (by simp) (fun j hj => by simp at hj), fun s' hl hbk _ => ?_⟩
      ·rw [Zfu, List.append_nil]; rfl
      ·obtain rfl := List.mem_singleton.1 hu
       rw [htouch]
       exact ⟨by simp, ZbT hg⟩
      ·have hx : s'.eval x = s.eval x := ZcP hl x (by simp [Op.operands])
       have hy : s'.eval y = s.eval y := ZcP hl y (by simp [Op.operands])
       have hgb : getB s'.heap b = some (.cells cs) := by
        rw [hbk b (.inr ?_)]
        ·exact hg
        ·show b ∈ (ZcI E _ s _).2
         rw [htouch]; simp
       show resD (match Zea E s' t (s'.eval x) ((s'.eval y).typed (E.ty t)) with | some s => .go true (s.put dst .undef) | none => .fail) = _
       rw [hx, hy, hp, Zfu, List.append_nil]
       have : Zea E s' t (.ptr b q) ((s.eval y).typed (E.ty t)) = some { s' with heap := setB s'.heap b (.cells (Zjs cs q vs)) } := by
        unfold Zea
        simp only []
        rw [hgb, hv, hi]
        simp only [hok]
       rw [this]; rfl
     ·cases hs
    ·cases hs
   | mq k i q =>
    rw [hp] at hs
    unfold Zea at hs
    have hgr : E.grows = false := by
     cases hg : E.grows with
     | false => rfl
     | true => unfold lev at hl2; rw [ho, hg] at hl2; exact absurd (show 2 < 2 from hl2) (by decide)
    rw [hgr] at hs
    cases hs
   | _ => rw [hp] at hs; cases hs
 case box t x =>
  replace h : resD (match Zig s dst ((s.eval x).typed (E.ty t)) with | some s => .go true s | none => .fail) = some s1 := h
  unfold Zig at h
  cases hc : ((s.eval x).typed (E.ty t)).cells with
  | none => rw [hc] at h; cases h
  | some cs =>
   rw [hc] at h
   obtain rfl := Option.some.inj h
   have htouch : ∀ s1, ZcI E ⟨dst, .box t x, type, pos, aft, guard⟩ s s1 = ([], [s.heap.length]) := fun s1 => by
    unfold ZcI
    rw [ho]
   have hnew : (foot E ops ⟨dst, .box t x, type, pos, aft, guard⟩ s (({ s with heap := s.heap ++ [Blk.cells cs] } : St).put dst (.ptr s.heap.length 0))).new = true := by
    show Nat.blt s.heap.length _ = true
    rw [Zgj]
    exact ZhZ (by simp)
   refine ⟨⟨Zcq, [], [.cells cs], .ptr s.heap.length 0⟩, ZeN ?_ (fun _ => rfl) hno (fun u hu => by cases hu) List.nodup_nil (fun j hj => ?_), fun s' hl _ hn => ?_⟩
   ·rw [Zfu]; rfl
   ·rw [htouch]; simp at hj; simp [hj]
   ·have hx : s'.eval x = s.eval x := ZcP hl x (by simp [Op.operands])
    have hlen := hn hnew
    show resD (match Zig s' dst ((s'.eval x).typed (E.ty t)) with | some s => .go true s | none => .fail) = _
    unfold Zig
    rw [hx, hc, hlen, Zfu]; rfl
 case alloc t =>
  replace h : resD (match E.ty t with | some i => (match Zig s dst (SV.zeroOf i.kd) with | some s => .go true s | none => .fail) | none => .fail) = some s1 := h
  cases ht : E.ty t with
  | none => rw [ht] at h; cases h
  | some i =>
   rw [ht] at h
   simp only [] at h
   unfold Zig at h
   cases hc : (SV.zeroOf i.kd).cells with
   | none => rw [hc] at h; cases h
   | some cs =>
    rw [hc] at h
    obtain rfl := Option.some.inj h
    have htouch : ∀ s1, ZcI E ⟨dst, .alloc t, type, pos, aft, guard⟩ s s1 = ([], [s.heap.length]) := fun s1 => by
     unfold ZcI
     rw [ho]
    have hnew : (foot E ops ⟨dst, .alloc t, type, pos, aft, guard⟩ s (({ s with heap := s.heap ++ [Blk.cells cs] } : St).put dst (.ptr s.heap.length 0))).new = true := by
     show Nat.blt s.heap.length _ = true
     rw [Zgj]
     exact ZhZ (by simp)
    refine ⟨⟨Zcq, [], [.cells cs], .ptr s.heap.length 0⟩, ZeN ?_ (fun _ => rfl) hno (fun u hu => by cases hu) List.nodup_nil (fun j hj => ?_), fun s' hl _ hn => ?_⟩
    ·rw [Zfu]; rfl
    ·rw [htouch]; simp at hj; simp [hj]
    ·have hlen := hn hnew
     show resD (match E.ty t with | some i => (match Zig s' dst (SV.zeroOf i.kd) with | some s => .go true s | none => .fail) | none => .fail) = _
     rw [ht]
     simp only []
     unfold Zig
     rw [hc, hlen, Zfu]; rfl
 all_goals cases hb
def ZtL (E : Env) (s : St) (dst : Option Nat) (t : Nat) (x y : SV) : OpRes :=
 match dst with
 | some d => Zik E s d t x y
 | none => .fail
def Zkd (E : Env) (s : St) (dst : Option Nat) (ts : List Nat) (args : List SV) : OpRes :=
 match ts, args, dst with
 | [t, u], [x, y], some d => ZdB E s d t u x y
 | _, _, _ => .fail
theorem ZjA (E : Env) (s : St) (dst : Option Nat) (ts : List Nat) (args : List SV) : Zdj E s dst .append ts args = Zkd E s dst ts args := by
 unfold Zdj Zkd
 rcases ts with _ | ⟨t, _ | ⟨u, _ | ⟨_, _⟩⟩⟩ <;> rcases args with _ | ⟨x, _ | ⟨y, _ | ⟨_, _⟩⟩⟩ <;> cases dst <;> rfl
theorem Zpp {o : Oper} {s s1 : St} (ho : Zch E o = none) (hl2 : lev E o < 2) (hh : hard o = true) (h : opD E n o s = some s1) : ∃ e, Good s s1 o.dst (ZcG ops o) e (foot E ops o s s1) ∧ Zkc E n ops o s s1 e := by
 have hsoft : lev E o = 1 := by
  rcases (ZeP ho).2 hl2 hh with ⟨t, x, y, e⟩ | ⟨c, e, hc⟩
  ·unfold lev; rw [ho]; simp only [e]
  ·unfold lev; rw [ho]; simp only [e, hc]
 have hb : ZdN o = false := by
  rcases (ZeP ho).2 hl2 hh with ⟨t, x, y, e⟩ | ⟨c, e, hc⟩ <;> (unfold ZdN; rw [e])
 have fin : ∀ (P : Nat → Bool) (v : SV), P = Zhv E o s → s1 = (s.scrubP P).put o.dst v → (∀ s' : St, (∀ t ∈ ZcG ops o, getN s'.slots t = getN s.slots t) → opD E n o s' = some ((s'.scrubP P).put o.dst v)) →
   ∃ e, Good s s1 o.dst (ZcG ops o) e (foot E ops o s s1) ∧ Zkc E n ops o s s1 e := fun P v hP h1 h2 =>
  ⟨⟨P, [], [], v⟩, ZeN (by rw [Zlm]; exact h1) (fun hx => by rw [hsoft] at hx; cases hx) (fun _ => ⟨rfl, rfl, ZpI ho hb (by rcases (ZeP ho).2 hl2 hh with ⟨t, x, y, e⟩ | ⟨c, e, hc⟩ <;> (unfold ZeX; simp only [e]); rw [hc]), hP⟩) (fun u hu => by cases hu) List.nodup_nil (fun j hj => by simp at hj), fun s' hl _ _ => by rw [Zlm]; exact h2 s' hl⟩
 obtain ⟨dst, op, type, pos, aft, guard⟩ := o
 rcases (ZeP ho).2 hl2 hh with ⟨t, x, y, e⟩ | ⟨c, e, hc⟩
 ·simp only [] at e
  subst e
  have hop : ∀ s : St, opD E n ⟨dst, .makeSlice t x y, type, pos, aft, guard⟩ s = resD (ZtL E s dst t (s.eval x) (s.eval y)) := fun s => rfl
  rw [hop] at h
  cases dst with
  | none => cases h
  | some d =>
   simp only [ZtL, Zik] at h
   cases hel : E.elem t with
   | none => rw [hel] at h; cases h
   | some ei =>
    obtain ⟨ee, i⟩ := ei
    rw [hel] at h
    simp only [] at h
    split at h
    ·rename_i l c b hl hc hby
     cases hok : (decide (0 ≤ l) && (decide (l ≤ c) && decide (c * (b + 1 : Nat) ≤ LIM))) with
     | false => rw [hok] at h; cases h
     | true =>
      rw [hok] at h
      obtain rfl := Option.some.inj h
      refine fin (Nat.beq d) (.own d i.kd (List.replicate l.toNat i.kd.zero)) rfl (by rw [ZhS]) fun s' hlk => ?_
      have hx : s'.eval x = s.eval x := ZcP hlk x (by simp [Op.operands])
      have hy : s'.eval y = s.eval y := ZcP hlk y (by simp [Op.operands])
      rw [hop]
      simp only [ZtL, Zik, hel, hx, hy, hl, hc, hby, hok, resD]
      rw [ZhS]
    ·cases h
 ·simp only [] at e
  subst e
  have hop : ∀ s : St, opD E n ⟨dst, .call c, type, pos, aft, guard⟩ s = resD (Zdj E s dst .append c.argTypes.toList (c.args.toList.map s.eval)) := fun s => by
   unfold opD
   simp only [ho]
   unfold evOp
   simp only [hc]
  rw [hop] at h
  have hargs : ∀ s' : St, (∀ t ∈ ZcG ops ⟨dst, .call c, type, pos, aft, guard⟩, getN s'.slots t = getN s.slots t) → c.args.toList.map s'.eval = c.args.toList.map s.eval := fun s' hl =>
   List.map_congr_left fun x hx => ZcP hl x (by simp [Op.operands, Call.operands]; exact .inr (by simpa using hx))
  rw [ZjA] at h
  unfold Zkd at h
  split at h
  ·rename_i t u x y d h1 h2
   ·simp only [ZdB] at h
    cases hel : E.elem t with
    | none => rw [hel] at h; cases h
    | some ei =>
     obtain ⟨ee, i⟩ := ei
     rw [hel] at h
     simp only [] at h
     split at h
     ·rename_i ys tk xs b hm hon hby
      cases hok : decide ((xs.length + ys.length) * (b + 1) ≤ LIM) with
      | false => rw [hok] at h; cases h
      | true =>
       rw [hok] at h
       obtain rfl := Option.some.inj h
       refine fin (Nat.beq tk) (ZqT tk i.kd (xs ++ ys)) ?_ (by rw [ZhS]) fun s' hlk => ?_
       ·unfold Zhv
        rw [ho]
        simp only []
        cases hal : c.args.toList with
        | nil => rw [hal] at h2; cases h2
        | cons a0 ar =>
         rw [hal] at h2
         obtain ⟨rfl, _⟩ := List.cons.inj h2
         simp only []
         unfold ZlF at hon
         split at hon
         ·rename_i hx
          split at hon
          ·cases hon
          ·obtain ⟨_, _, e3⟩ := Option.map_eq_some_iff.1 hon
           cases e3
           rw [hx]
         ·rename_i hx
          split at hon
          ·cases hon
          ·obtain ⟨_, _, e3⟩ := Option.map_eq_some_iff.1 hon
           cases e3
           rw [hx]; rfl
         ·rename_i hx
          obtain ⟨_, _, e3⟩ := Option.map_eq_some_iff.1 hon
          cases e3
          rw [hx]
         ·rename_i hx
          split at hon
          ·cases hon
          ·cases hon
           rw [hx]; rfl
         ·cases hon
       rw [hop, ZjA, hargs s' hlk, h1, h2]
       simp only [Zkd, ZdB, hel, hm, hon, hby, hok, resD]
       rw [ZhS]
     ·cases h
  ·cases h
theorem Zmp : ∀ (ms : List Nat) (bs h : List Blk), setL h ms bs = setU h (ms.zip bs)
 | [], bs, h => by cases bs <;> rfl
 | _ :: _, [], _ => rfl
 | m :: ms, b :: bs, h => by show setL (setB h m b) ms bs = setU (setB h m b) (ms.zip bs); exact Zmp ms bs _
theorem ZrB : ∀ (ms : List Nat) (bs : List Blk), bs.length = ms.length → (ms.zip bs).map (·.1) = ms
 | [], _, _ => rfl
 | _ :: _, [], h => by simp at h
 | m :: ms, b :: bs, h => by simp only [List.zip_cons_cons, List.map_cons]; rw [ZrB ms bs (by simpa using h)]
theorem ZjP {j : Nat} : ∀ {n L : Nat}, j < n → L + j ∈ ZcA L n
 | 0, L, h => absurd h (Nat.not_lt_zero _)
 | n + 1, L, h => by
  show L + j ∈ L :: ZcA (L + 1) n
  cases j with
  | zero => simp
  | succ j => exact List.mem_cons_of_mem _ (by have := ZjP (j := j) (n := n) (L := L + 1) (by omega); rwa [show L + 1 + j = L + (j + 1) by omega] at this)
theorem ZtK {o : Oper} {Cs : List OCon} {args : Array Operand} (hoc : Zch E o = some (Cs, args)) (hl : lev E o < 2) : ∀ C ∈ Cs, C.level = lev E o := by
 unfold lev at hl ⊢
 rw [hoc] at hl ⊢
 simp only [] at hl ⊢
 intro C hC
 cases h0 : allB (fun C : OCon => Nat.beq C.level 0) Cs with
 | true => exact Nat.eq_of_beq_eq_true (Zdy h0 C hC)
 | false =>
  rw [h0] at hl
  cases h1 : allB (fun C : OCon => Nat.beq C.level 1) Cs with
  | true => exact Nat.eq_of_beq_eq_true (Zdy h1 C hC)
  | false => rw [h1] at hl; exact absurd (show 2 < 2 from hl) (by decide)
theorem Zpo {C : OCon} (h : C.level < 2) : C.inn = false ∧ C.out = false ∧ (C.level = 0 → C.res = false) ∧ (C.level ≠ 0 → anyB Pk.isObj C.ps = false ∧ C.refs = false) := by
 unfold OCon.level at h ⊢
 cases hri : anyB Rk.isRin C.rs with
 | true => rw [hri] at h; exact absurd (show 2 < 2 from h) (by decide)
 | false =>
 rw [hri] at h
 simp only [] at h ⊢
 cases hio : (C.inn || C.out) with
 | true => rw [hio] at h; exact absurd (show 2 < 2 from h) (by decide)
 | false =>
  rw [Bool.or_eq_false_iff] at hio
  rw [Bool.or_eq_false_iff.2 hio] at h
  refine ⟨hio.1, hio.2, ?_, ?_⟩
  ·cases hr : C.res with
   | false => exact fun _ => rfl
   | true => simp only []; cases (anyB Pk.isObj C.ps || C.refs) <;> (intro h; cases h)
  ·cases hr : C.res with
   | false => intro h; exact absurd rfl h
   | true =>
    rw [hr] at h
    simp only [] at h ⊢
    cases ho : (anyB Pk.isObj C.ps || C.refs) with
    | true => rw [ho] at h; exact absurd (show 2 < 2 from h) (by decide)
    | false => rw [Bool.or_eq_false_iff] at ho; exact fun _ => ho
theorem ZqH {C : OCon} (h : C.level < 2) : anyB Rk.isRin C.rs = false := by
 unfold OCon.level at h
 cases hri : anyB Rk.isRin C.rs with
 | true => rw [hri] at h; exact absurd (show 2 < 2 from h) (by decide)
 | false => rfl
theorem ZiU : ∀ {Cs : List OCon} {args : List Operand} {s s' : St} {q : Zer}, ZeZ Cs args s = some q → (args.map s'.eval = args.map s.eval) → ∃ C ∈ Cs, Zkj C args s = some q ∧ ∀ q', Zkj C args s' = some q' → ZeZ Cs args s' = some q'
 | [], _, _, _, _, h, _ => by cases h
 | C :: r, args, s, s', q, h, he => by
  unfold ZeZ at h
  split at h
  ·rename_i hs
   refine ⟨C, by simp, h, fun q' hq' => ?_⟩
   unfold ZeZ
   rw [he, hs]; exact hq'
  ·rename_i hs
   obtain ⟨C', h1, h2, h3⟩ := ZiU h he
   refine ⟨C', by simp [h1], h2, fun q' hq' => ?_⟩
   unfold ZeZ
   rw [he, hs]; exact h3 q' hq'
theorem ZqI {o : Oper} {s s1 : St} {Cs : List OCon} {args : Array Operand} (hoc : Zch E o = some (Cs, args)) (hl2 : lev E o < 2) (h : opD E n o s = some s1) : ∃ e, Good s s1 o.dst (ZcG ops o) e (foot E ops o s s1) ∧ Zkc E n ops o s s1 e := by
 obtain ⟨c, f, hop, hcal, hlk, rfl⟩ := Zhl hoc
 have hopD : ∀ s : St, opD E n o s = (match ZeZ Cs c.args.toList s with | some q => q.run n o.dst | none => none) := fun s => by
  unfold opD
  split
  ·rename_i e; rw [hop] at e; cases e
  ·rw [hoc] <;> rfl
 rw [hopD] at h
 cases hq : ZeZ Cs c.args.toList s with
 | none => rw [hq] at h; cases h
 | some q =>
  rw [hq] at h
  obtain ⟨C, hC, hcv⟩ := ZgS hq
  obtain ⟨s', x, ms, rfl, hprep, hargs, hnd, hsm, hLL⟩ := ZgH hcv
  have hlv := ZtK hoc hl2 C hC
  obtain ⟨hinn, hout, hres0, hres1⟩ := Zpo (C := C) (by omega)
  obtain ⟨rfl, hprep2⟩ := ZdT C.ps 0 _ hinn hprep
  obtain ⟨y, hy, rfl⟩ := Option.map_eq_some_iff.1 h
  have hms : ms.length = cntP C.ps := ZrG C.ps hargs
  have hmsL := ZpN C.ps hargs
  have hcnt : (endB C.ps y.2 0).length = ms.length := by rw [ZdM, hms]
  let d := o.dst.getD 0
  let P : Nat → Bool := cond C.res (ZfG false false true [] 0 d) Zcq
  have hscr : ∀ (s : St) (L : Nat), scrC C ms L d s = s.scrubP P := fun s L => by
   unfold scrC OCon.any
   rw [hinn, hout]
   simp only [Bool.false_or]
   show _ = s.scrubP (cond C.res (ZfG false false true [] 0 d) Zcq)
   cases C.res with
   | true =>
    have : ZfG false false true ms L d = ZfG false false true [] 0 d := by
     funext t
     unfold ZfG
     simp only [Bool.false_and, Bool.or_self]
    simp only [this, cond_true]
   | false =>
    simp only [cond_false]
    show s = ({ slots := s.slots.map (·.scrubP Zcq), heap := s.heap.map (·.scrubP Zcq) } : St)
    rw [Zee Zdq, Zee ZcY]
  let e : Eff := ⟨P, ms.zip ((endB C.ps y.2 0).map (Blk.ren ms s'.heap.length d)), (resV C.rs y.1 0 ms.length).2.map (Blk.ren ms s'.heap.length d), tupV ((resV C.rs y.1 0 ms.length).1.map (SV.ren ms s'.heap.length d))⟩
  have hst : ∀ s2 : St, (s2.heap.length = s'.heap.length ∨ (resV C.rs y.1 0 ms.length).2 = []) → Zer.state ⟨C, s2, x, ms⟩ o.dst y.2 (resV C.rs y.1 0 ms.length).1 (resV C.rs y.1 0 ms.length).2 = e.app o.dst s2 := fun s2 hs2 => by
   have hE1 : (endB C.ps y.2 0).map (Blk.ren ms s2.heap.length d) = (endB C.ps y.2 0).map (Blk.ren ms s'.heap.length d) :=
    List.map_congr_left fun b hb => ZpG (ZdS ms.length C.ps y.2 0 hinn (by rw [hms]; omega) b hb)
   have hE2 : (resV C.rs y.1 0 ms.length).2.map (Blk.ren ms s2.heap.length d) = (resV C.rs y.1 0 ms.length).2.map (Blk.ren ms s'.heap.length d) := by
    rcases hs2 with hs2 | hs2
    ·rw [hs2]
    ·rw [hs2]; rfl
   have hE3 : (resV C.rs y.1 0 ms.length).1.map (SV.ren ms s2.heap.length d) = (resV C.rs y.1 0 ms.length).1.map (SV.ren ms s'.heap.length d) := by
    rcases hs2 with hs2 | hs2
    ·rw [hs2]
    ·exact List.map_congr_left fun b hb => Zmu (ZdV ms.length C.rs y.1 0 ms.length (ZqH (C := C) (by omega)) hs2 b hb)
   unfold Zer.state
   show ({ slots := (scrC C ms s2.heap.length d s2).slots, heap := setL (scrC C ms s2.heap.length d s2).heap ms ((endB C.ps y.2 0).map (Blk.ren ms s2.heap.length d)) ++ (resV C.rs y.1 0 ms.length).2.map (Blk.ren ms s2.heap.length d) } : St).put o.dst (tupV ((resV C.rs y.1 0 ms.length).1.map (SV.ren ms s2.heap.length d))) = _
   rw [hE1, hE2, hE3, hscr, Zmp]
   rfl
  have hstate := hst s' (.inl rfl)
  have htouch : ZcI E o s' (e.app o.dst s') = ([], ms ++ ZcA s'.heap.length e.news.length) := by
   unfold ZcI
   rw [hoc]
   simp only [hq]
   rw [ZgF, Nat.add_sub_cancel_left]
  show ∃ e, Good s' (Zer.state ⟨C, s', x, ms⟩ o.dst y.2 (resV C.rs y.1 0 ms.length).1 (resV C.rs y.1 0 ms.length).2) o.dst (ZcG ops o) e _ ∧ Zkc E n ops o s' (Zer.state ⟨C, s', x, ms⟩ o.dst y.2 (resV C.rs y.1 0 ms.length).1 (resV C.rs y.1 0 ms.length).2) e
  rw [hstate]
  have hlenz : (ms.zip ((endB C.ps y.2 0).map (Blk.ren ms s'.heap.length d))).map (·.1) = ms := ZrB ms _ (by rw [List.length_map, hcnt])
  refine ⟨e, ZeN rfl (fun hb => ?_) (fun hb => ?_) (fun u hu => ?_) ?_ (fun j hj => ?_), fun s2 hlk hbk hn => ?_⟩
  ·show cond C.res _ Zcq = Zcq
   rw [hres0 (by
    rcases Nat.eq_zero_or_pos (lev E o) with h | h
    ·omega
    ·rw [ZeG h] at hb; cases hb)]; rfl
  ·have hne : C.level ≠ 0 := fun h0 => by
    have := Nat.le_of_ble_eq_true hb
    omega
   obtain ⟨h1, h2⟩ := hres1 hne
   have hms0 := ZmG C.ps h1 hargs hms
   have hbl : (resV C.rs y.1 0 ms.length).2 = [] := ZdU C.rs y.1 0 ms.length h2
   have hnews : e.news = [] := by show (resV C.rs y.1 0 ms.length).2.map _ = []; rw [hbl]; rfl
   refine ⟨?_, hnews, ?_, ?_⟩
   ·show ms.zip _ = []; rw [hms0]; rfl
   ·rw [htouch, hnews, hms0]; rfl
   ·unfold Zhv
    rw [hoc]
    simp only [hq]
    rfl
  ·have hm : u.1 ∈ ms := by
    have : u.1 ∈ (ms.zip ((endB C.ps y.2 0).map (Blk.ren ms s'.heap.length d))).map (·.1) := List.mem_map.2 ⟨u, hu, rfl⟩
    rwa [hlenz] at this
   exact ⟨by rw [htouch]; exact List.mem_append_left _ hm, hmsL _ hm⟩
  ·show ((ms.zip ((endB C.ps y.2 0).map (Blk.ren ms s'.heap.length d))).map (·.1)).Nodup
   rw [hlenz]; exact hnd
  ·rw [htouch]; exact List.mem_append_right _ (ZjP hj)
  ·have hev : c.args.toList.map s2.eval = c.args.toList.map s'.eval := List.map_congr_left fun z hz => ZcP hlk z (by
    rw [hop]
    simp [Op.operands, Call.operands]; exact .inr (by simpa using hz))
   have hwr : ∀ b ∈ ms, getB s2.heap b = getB s'.heap b := fun b hb => hbk b (.inr (by
    show b ∈ (ZcI E o s' (e.app o.dst s')).2
    rw [htouch]; exact List.mem_append_left _ hb))
   have hL2 : s2.heap.length = s'.heap.length ∨ (resV C.rs y.1 0 ms.length).2 = [] := by
    cases hbl : (resV C.rs y.1 0 ms.length).2 with
    | nil => exact .inr rfl
    | cons b bl =>
     refine .inl (hn ?_)
     show Nat.blt s'.heap.length (e.app o.dst s').heap.length = true
     rw [ZgF]
     have : 0 < e.news.length := by show 0 < ((resV C.rs y.1 0 ms.length).2.map _).length; rw [hbl]; simp
     exact ZhZ (by omega)
   have hcall2 : Zkj C c.args.toList s2 = some ⟨C, s2, x, ms⟩ := by
    unfold Zkj
    rw [hprep2 s2]
    simp only []
    rw [hev, ZmF C.ps hargs hwr]
    simp only []
    have : (ZiG ms && (C.small && (!(C.inn || C.out) || (Nat.blt s2.heap.length 1000000 && Nat.ble ms.length s2.heap.length)))) = true := by
     have hndb : ZiG ms = true := by
      have hcv' := hcv
      unfold Zkj at hcv'
      rw [hprep] at hcv'
      simp only [] at hcv'
      rw [hargs] at hcv'
      simp only [] at hcv'
      split at hcv'
      ·rename_i hh
       simp only [Bool.and_eq_true] at hh
       exact hh.1
      ·cases hcv'
     rw [hndb, hsm, hinn, hout]; rfl
    rw [this]
   obtain ⟨C', hC', hcv', hpick⟩ := ZiU hq hev
   have hCC : C' = C := by
    obtain ⟨_, _, _, e1, _⟩ := ZgH hcv'
    injection e1 with e1 _
    exact e1.symm
   subst hCC
   rw [hopD, hpick _ hcall2]
   show (C'.f n x).map _ = _
   rw [hy]
   show some (Zer.state ⟨C', s2, x, ms⟩ o.dst y.2 (resV C'.rs y.1 0 ms.length).1 (resV C'.rs y.1 0 ms.length).2) = _
   rw [hst s2 hL2]
theorem ZlX {o : Oper} {s s1 : St} (hl2 : lev E o < 2) (h : opD E n o s = some s1) : ∃ e, Good s s1 o.dst (ZcG ops o) e (foot E ops o s s1) ∧ Zkc E n ops o s s1 e := by
 cases ho : Zch E o with
 | some q => obtain ⟨Cs, args⟩ := q; exact ZqI ho hl2 h
 | none =>
  cases hh : hard o with
  | true => exact Zpp ho hl2 hh h
  | false =>
   cases hb : ZdN o with
   | true => exact ZlS hl2 hb h
   | false =>
    cases hlk : ZeX o s with
    | true => exact Zpq ho hlk h
    | false => exact Znb hl2 ho hh hb hlk h
def Zgw (E : Env) (n : Nat) (ops : List Oper) (o : Oper) (s : St) : Option St :=
 match o.guard with
 | none => opD E n o s
 | some (j, want) => (ZcM ops j).bind fun d => (Zhg (getN s.slots d)).bind fun b => cond (b == some want) (opD E n o s) (some (s.put o.dst Zjx))
def Zmt (E : Env) (n : Nat) (ops : List Oper) (o : Oper) (s : St) : Option (St × Ft) :=
 match o.guard with
 | none => (opD E n o s).map fun s1 => (s1, foot E ops o s s1)
 | some (j, want) => (ZcM ops j).bind fun d => (Zhg (getN s.slots d)).bind fun b => cond (b == some want) ((opD E n o s).map fun s1 => (s1, foot E ops o s s1)) (some (s.put o.dst Zjx, Zro s d o.dst))
def Cert (E : Env) (n : Nat) (ops : List Oper) (o : Oper) (F : Ft) (s s1 : St) : Prop :=
 ∃ e Lk, (∀ t ∈ Lk, t ∈ ZcG ops o) ∧ Good s s1 o.dst Lk e F ∧ ∀ s' : St, (∀ t ∈ Lk, getN s'.slots t = getN s.slots t) → (∀ b, b ∈ F.rd ∨ b ∈ F.wr → getB s'.heap b = getB s.heap b) → (F.new = true → s'.heap.length = s.heap.length) →
  Zgw E n ops o s' = some (e.app o.dst s')
theorem Ztx {o : Oper} {s s1 : St} {F : Ft} (hl2 : lev E o < 2) (h : Zmt E n ops o s = some (s1, F)) : Cert E n ops o F s s1 := by
 unfold Zmt at h
 cases hg : o.guard with
 | none =>
  rw [hg] at h
  obtain ⟨s2, h1, h2⟩ := Option.map_eq_some_iff.1 h
  cases h2
  obtain ⟨e, k1, k2⟩ := ZlX (ops := ops) hl2 h1
  refine ⟨e, ZcG ops o, fun t ht => ht, k1, fun s' q1 q2 q3 => ?_⟩
  unfold Zgw
  rw [hg]
  exact k2 s' q1 q2 q3
 | some q =>
  obtain ⟨j, want⟩ := q
  rw [hg] at h
  obtain ⟨d, hd, h⟩ := Option.bind_eq_some_iff.1 h
  obtain ⟨b, hb, h⟩ := Option.bind_eq_some_iff.1 h
  have hlook : d ∈ ZcG ops o := List.mem_append_right _ (by simp [hg, hd])
  cases hw : (b == some want) with
  | true =>
   rw [hw] at h
   obtain ⟨s2, h1, h2⟩ := Option.map_eq_some_iff.1 h
   cases h2
   obtain ⟨e, k1, k2⟩ := ZlX (ops := ops) hl2 h1
   refine ⟨e, ZcG ops o, fun t ht => ht, k1, fun s' q1 q2 q3 => ?_⟩
   unfold Zgw
   rw [hg]
   simp only [hd, Option.bind_some, q1 d hlook, hb, hw]
   exact k2 s' q1 q2 q3
  | false =>
   rw [hw] at h
   cases h
   refine ⟨⟨Zcq, [], [], Zjx⟩, [d], fun t ht => by obtain rfl := List.mem_singleton.1 ht; exact hlook, ?_, fun s' q1 q2 q3 => ?_⟩
   ·constructor
    ·exact (Zdz _ _ _).symm
    ·intro _; rfl
    ·intro hx; cases hx
    ·intro u hu; cases hu
    ·exact List.nodup_nil
    ·exact ⟨(fun hx => by cases hx), fun hx => absurd rfl hx⟩
    ·intro j hj; simp at hj
    ·intro t ht
     show t ∈ d :: dstL o.dst
     rcases ht with ht | ht
     ·obtain rfl := List.mem_singleton.1 ht; exact List.mem_cons_self
     ·rw [ht]; exact List.mem_cons_of_mem _ List.mem_cons_self
    ·intro hx; cases hx
    ·intro hx; cases hx
    ·intro Q hQ
     have hQ : ∀ x ∈ (d :: dstL o.dst).flatMap fun t => (getN s.slots t).toks, Q x = false := Zds.1 hQ
     refine ⟨fun t ht => Zgz fun x hx => hQ x (List.mem_flatMap.2 ⟨t, ?_, hx⟩), fun b hb => (by rcases hb with hb | hb <;> cases hb), fun _ _ _ => rfl, fun u hu => (by cases hu), fun b hb => (by cases hb)⟩
     rcases ht with ht | ht
     ·obtain rfl := List.mem_singleton.1 ht; exact List.mem_cons_self
     ·rw [ht]; exact List.mem_cons_of_mem _ List.mem_cons_self
   ·unfold Zgw
    rw [hg]
    simp only [hd, Option.bind_some, q1 d (by simp), hb, hw]
    rw [Zdz]; rfl
theorem Zug {o : Oper} {s s1 : St} {F : Ft} (h : Zmt E n ops o s = some (s1, F)) : Zgw E n ops o s = some s1 := by
 unfold Zmt at h
 unfold Zgw
 cases hg : o.guard with
 | none =>
  rw [hg] at h
  obtain ⟨s2, h1, h2⟩ := Option.map_eq_some_iff.1 h
  cases h2
  exact h1
 | some q =>
  obtain ⟨j, want⟩ := q
  rw [hg] at h
  obtain ⟨d, hd, h⟩ := Option.bind_eq_some_iff.1 h
  obtain ⟨b, hb, h⟩ := Option.bind_eq_some_iff.1 h
  simp only [hd, Option.bind_some, hb]
  cases hw : (b == some want) with
  | true =>
   rw [hw] at h
   obtain ⟨s2, h1, h2⟩ := Option.map_eq_some_iff.1 h
   cases h2
   exact h1
  | false => rw [hw] at h; cases h; rfl
theorem ZoK {dx dy : Option Nat} {lx ly : List Nat} (h : apart dx lx dy ly = true) :
  (∀ d, dx = some d → d ∉ ly) ∧ (∀ d, dx = some d → dy ≠ some d) ∧ (∀ d, dy = some d → d ∉ lx) := by
 unfold apart at h
 rw [Bool.and_eq_true] at h
 obtain ⟨h1, h2⟩ := h
 refine ⟨fun d hd hm => ?_, fun d hd he => ?_, fun d hd hm => ?_⟩
 ·subst hd
  rw [Bool.and_eq_true] at h1
  rw [ZdC.2 hm] at h1
  exact absurd h1.1 (by simp)
 ·subst hd; subst he
  simp at h1
 ·subst hd
  simp only [] at h2
  rw [ZdC.2 hm] at h2
  exact absurd h2 (by simp)
theorem Ziv {l m : List Nat} (h : meet l m = false) : ∀ x ∈ l, x ∉ m := fun x hx hm => by
 have := Zds.1 h x hx
 rw [ZdC.2 hm] at this
 cases this
theorem ZdA {F G : Ft} (h : F.bad G = false) (hF : F.hard = true) : G.hard = false ∧ anyB F.P G.ow = false ∧ (∀ t ∈ G.lk, t ∉ F.chS) ∧ ∀ b, b ∈ G.rd ∨ b ∈ G.wr → b ∉ F.chB := by
 unfold Ft.bad at h
 rw [hF, Bool.true_and] at h
 simp only [Bool.or_eq_false_iff] at h
 obtain ⟨h1, h2, h3, h4, h5⟩ := h
 exact ⟨h1, h2, Ziv h3, fun b hb => hb.elim (Ziv h4 b) (Ziv h5 b)⟩
theorem ZoT {F G : Ft} (h : F.clash G = false) : (F.new = true → G.new = true → False) ∧ (∀ b, b ∈ F.wr → b ∈ G.rd ∨ b ∈ G.wr → False) ∧ (∀ b, b ∈ F.rd → b ∈ G.wr → False) ∧ F.bad G = false ∧ G.bad F = false := by
 unfold Ft.clash at h
 simp only [Bool.or_eq_false_iff, Bool.and_eq_false_iff] at h
 obtain ⟨h1, ⟨h2, h3⟩, h4, h5⟩ := h
 refine ⟨fun a b => by rcases h1 with h | h <;> simp_all, fun b hb hb' => ?_, fun b hb hb' => ?_, h4, h5⟩
 ·have := List.any_eq_false.1 h2 b hb
  simp only [Bool.or_eq_true, not_or] at this
  rcases hb' with h | h
  ·exact this.1 (List.any_eq_true.2 ⟨b, h, by simp⟩)
  ·exact this.2 (List.any_eq_true.2 ⟨b, h, by simp⟩)
 ·exact absurd (List.any_eq_true.2 ⟨b, hb', by simp⟩) (List.any_eq_false.1 h3 b hb)
theorem ZmW {s : St} {d : Option Nat} {v : SV} {t : Nat} (h : ∀ e, d = some e → e ≠ t) : getN (s.put d v).slots t = getN s.slots t := by
 cases d with
 | none => rfl
 | some e =>
  show getN (setN s.slots e v) t = _
  rw [Zff, if_neg (fun x => h e rfl (by exact x.1))]
theorem ZhB {e : Eff} {d : Option Nat} {s : St} {t : Nat} (h : ∀ x, d = some x → x ≠ t) : getN (e.app d s).slots t = (getN s.slots t).scrubP e.P := by
 unfold Eff.app
 rw [ZmW h]
 exact Ziq _ _ _ rfl
theorem ZcJ (e : Eff) (d : Option Nat) (s : St) : (e.app d s).heap = e.heap s.heap := Zgj _ _ _
theorem ZeF (e : Eff) (d : Option Nat) (s : St) : (e.app d s).slots.length = s.slots.length := by
 unfold Eff.app
 rw [Zrp]
 exact List.length_map _
theorem ZgM {e : Eff} {h : List Blk} {b : Nat} (h1 : ∀ u ∈ e.us, u.1 ≠ b) (h2 : ∀ j, j < e.news.length → h.length + j ≠ b) : getB (e.heap h) b = (getB h b).map (·.scrubP e.P) := by
 unfold Eff.heap
 rcases Nat.lt_or_ge b h.length with hb | hb
 ·rw [ZbK (by rw [Zcc, List.length_map]; exact hb), Zgh e.us _ h1, Zfe]
 ·have hn : getB h b = none := by
   have : ∀ (l : List Blk) (i : Nat), l.length ≤ i → getB l i = none := by
    intro l
    induction l with
    | nil => intro i _; rfl
    | cons x l ih => intro i hi; cases i with
     | zero => simp at hi
     | succ i => exact ih i (by simpa using hi)
   exact this h b hb
  rw [hn]
  obtain ⟨k, rfl⟩ : ∃ k, b = (setU (h.map (·.scrubP e.P)) e.us).length + k := ⟨b - h.length, by rw [Zcc, List.length_map]; omega⟩
  rw [ZbJ]
  have hk : e.news.length ≤ k := by
   rcases Nat.lt_or_ge k e.news.length with hk | hk
   ·exact absurd (by rw [Zcc, List.length_map]) (h2 k hk)
   ·exact hk
  have : ∀ (l : List Blk) (i : Nat), l.length ≤ i → getB l i = none := by
   intro l
   induction l with
   | nil => intro i _; rfl
   | cons x l ih => intro i hi; cases i with
    | zero => simp at hi
    | succ i => exact ih i (by simpa using hi)
  rw [this e.news k hk]; rfl
theorem ZkE {f : Blk → Blk} (h : ∀ x, f x = x) (o : Option Blk) : o.map f = o := by cases o <;> simp [h]
theorem ZrQ {x y : Eff} {dx dy : Option Nat} {s : St} (hd : ∀ d, dx = some d → dy ≠ some d) (hxy : x.P = Zcq ∨ (x.us = [] ∧ x.news = [] ∧ y.P = Zcq ∧ (∀ t, dy = some t → t < s.slots.length → y.v.scrubP x.P = y.v) ∧ (∀ u ∈ y.us, u.2.scrubP x.P = u.2) ∧ ∀ b ∈ y.news, b.scrubP x.P = b))
  (hyx : y.P = Zcq ∨ (y.us = [] ∧ y.news = [] ∧ x.P = Zcq ∧ (∀ t, dx = some t → t < s.slots.length → x.v.scrubP y.P = x.v) ∧ (∀ u ∈ x.us, u.2.scrubP y.P = u.2) ∧ ∀ b ∈ x.news, b.scrubP y.P = b))
  (hus : ∀ u ∈ x.us, ∀ v ∈ y.us, u.1 ≠ v.1) (hux : ∀ u ∈ x.us, u.1 < s.heap.length) (huy : ∀ u ∈ y.us, u.1 < s.heap.length) (hn : x.news = [] ∨ y.news = []) : x.app dx (y.app dy s) = y.app dy (x.app dx s) := by
 have slot : ∀ (P Q : Nat → Bool) (l : List SV), (l.map (·.scrubP P)).map (·.scrubP Q) = (l.map (·.scrubP Q)).map (·.scrubP P) := fun P Q l => by
  rw [List.map_map, List.map_map]
  exact List.map_congr_left fun z _ => ZnO P Q z
 have cs : (∃ P, x.P = P) := ⟨_, rfl⟩
 have hsl : (x.app dx (y.app dy s)).slots = (y.app dy (x.app dx s)).slots := by
  have put_map : ∀ (P : Nat → Bool) (v : SV) (d : Option Nat) (l : List SV), (P = Zcq ∨ ∀ t, d = some t → t < l.length → v.scrubP P = v) → (({ slots := l, heap := [] } : St).put d v).slots.map (·.scrubP P) = (({ slots := l.map (·.scrubP P), heap := [] } : St).put d v).slots := fun P v d l hv => by
   cases d with
   | none => rfl
   | some t =>
    show (setN l t v).map (·.scrubP P) = setN (l.map (·.scrubP P)) t v
    rw [Zoo]
    rcases hv with rfl | hv
    ·rw [Zdq]
    ·rcases Nat.lt_or_ge t l.length with ht | ht
     ·rw [hv t rfl ht]
     ·rw [Zld _ (by simpa using ht), Zld _ (by simpa using ht)]
  have app_sl : ∀ (e : Eff) (d : Option Nat) (s : St), (e.app d s).slots = (({ slots := s.slots.map (·.scrubP e.P), heap := [] } : St).put d e.v).slots := fun e d s => by cases d <;> rfl
  have comm : ∀ (l : List SV), (({ slots := (({ slots := l, heap := [] } : St).put dy y.v).slots, heap := [] } : St).put dx x.v).slots = (({ slots := (({ slots := l, heap := [] } : St).put dx x.v).slots, heap := [] } : St).put dy y.v).slots := fun l => by
   cases dx with
   | none => rfl
   | some a => cases dy with
    | none => rfl
    | some b =>
     show setN (setN l b y.v) a x.v = setN (setN l a x.v) b y.v
     exact Zrn fun h => hd a rfl (by rw [h])
  rw [app_sl x, app_sl y dy (x.app dx s), app_sl y dy s, app_sl x dx s]
  rw [put_map x.P y.v dy (s.slots.map (·.scrubP y.P)) (by
   rcases hxy with h | ⟨_, _, _, h, _⟩
   ·exact .inl h
   ·exact .inr fun t h1 h2 => h t h1 (by simpa using h2))]
  rw [put_map y.P x.v dx (s.slots.map (·.scrubP x.P)) (by
   rcases hyx with h | ⟨_, _, _, h, _⟩
   ·exact .inl h
   ·exact .inr fun t h1 h2 => h t h1 (by simpa using h2))]
  rw [slot y.P x.P s.slots]
  exact comm _
 have hhp : (x.app dx (y.app dy s)).heap = (y.app dy (x.app dx s)).heap := by
  rw [ZcJ, ZcJ, ZcJ, ZcJ]
  generalize hH : s.heap = h at *
  unfold Eff.heap
  have hard : ∀ (x y : Eff) (h : List Blk), x.us = [] → x.news = [] → y.P = Zcq → (∀ u ∈ y.us, u.2.scrubP x.P = u.2) → (∀ b ∈ y.news, b.scrubP x.P = b) →
    setU ((setU (h.map (·.scrubP y.P)) y.us ++ y.news).map (·.scrubP x.P)) x.us ++ x.news = setU ((setU (h.map (·.scrubP x.P)) x.us ++ x.news).map (·.scrubP y.P)) y.us ++ y.news := by
   intro x y h h1 h2 h3 h4 h5
   rw [h1, h2, h3]
   simp only [setU, List.append_nil]
   rw [Zee ZcY, Zee ZcY, List.map_append, Zop y.us h (fun u hu => h4 u hu)]
   congr 1
   conv => rhs; rw [← List.map_id y.news]
   exact List.map_congr_left fun b hb => h5 b hb
  rcases hxy with hx | ⟨h1, h2, h3, _, h4, h5⟩
  ·rcases hyx with hy | ⟨h1, h2, h3, _, h4, h5⟩
   ·rw [hx, hy]
    simp only [Zee ZcY]
    rcases hn with hn | hn
    ·rw [hn, List.append_nil, List.append_nil, ZiT x.us (fun u hu => .inl (by rw [Zcc]; exact hux u hu)), ZiS y.us x.us h (fun u hu v hv e => hus v hv u hu e.symm)]
    ·rw [hn, List.append_nil, List.append_nil, ZiT y.us (fun u hu => .inl (by rw [Zcc]; exact huy u hu)), ZiS y.us x.us h (fun u hu v hv e => hus v hv u hu e.symm)]
   ·exact (hard y x h h1 h2 h3 h4 h5).symm
  ·exact hard x y h h1 h2 h3 h4 h5
 have : ∀ a b : St, a.slots = b.slots → a.heap = b.heap → a = b := fun a b h1 h2 => by cases a; cases b; simp_all
 exact this _ _ hsl hhp
theorem Good.move {s s1 s' : St} {d : Option Nat} {Lk : List Nat} {e : Eff} {F : Ft} (g : Good s s1 d Lk e F) (h1 : ∀ t ∈ Lk, getN s'.slots t = getN s.slots t) (h2 : ∀ b, b ∈ F.rd ∨ b ∈ F.wr → getB s'.heap b = getB s.heap b) (h3 : F.new = true → s'.heap.length = s.heap.length)
  (h4 : s'.slots.length = s.slots.length) (h5 : ∀ u ∈ e.us, u.1 < s'.heap.length) (h6 : ∀ Q, anyB Q F.ow = false → ∀ t, d = some t → (getN s'.slots t).scrubP Q = getN s'.slots t)
  (h7 : F.hard = true → ∀ t, t ∉ F.chS → (getN s'.slots t).scrubP F.P = getN s'.slots t) (h8 : F.hard = true → ∀ b, b ∉ F.chB → (getB s'.heap b).map (·.scrubP F.P) = getB s'.heap b) : Good s' (e.app d s') d Lk e F where
 app := rfl
 soft := g.soft
 hard := g.hard
 us := fun u hu => ⟨(g.us u hu).1, h5 u hu⟩
 nd := g.nd
 new := g.new
 news := fun j hj => by
  have hn : F.new = true := g.new.2 fun h => by rw [h] at hj; simp at hj
  rw [h3 hn]; exact g.news j hj
 lk := g.lk
 chS := h7
 chB := h8
 ow := fun Q hQ => by
  obtain ⟨q1, q2, q3, q4, q5⟩ := g.ow Q hQ
  refine ⟨fun t ht => ?_, fun b hb => by rw [h2 b hb]; exact q2 b hb, fun t ht hlt => q3 t ht (by rw [← h4]; exact hlt), q4, q5⟩
  rcases ht with ht | ht
  ·rw [h1 t ht]; exact q1 t (.inl ht)
  ·exact h6 Q hQ t ht
theorem swap {x y : Oper} {s s1 s2 : St} {F G : Ft} (ha : apart x.dst (ZcG ops x) y.dst (ZcG ops y) = true) (h1 : Zgw E n ops x s = some s1) (cx : Cert E n ops x F s s1) (h2 : Zgw E n ops y s1 = some s2) (cy : Cert E n ops y G s1 s2) (hc : F.clash G = false) :
  ∃ s1', Zgw E n ops y s = some s1' ∧ Cert E n ops y G s s1' ∧ Zgw E n ops x s1' = some s2 ∧ Cert E n ops x F s1' s2 := by
 obtain ⟨a1, a2, a3⟩ := ZoK ha
 obtain ⟨c1, c2, c3, c4, c5⟩ := ZoT hc
 obtain ⟨e, Lx, ix, gx, lx⟩ := cx
 obtain ⟨e', Ly, iy, gy, ly⟩ := cy
 have es1 : s1 = e.app x.dst s := gx.app
 have es2 : s2 = e'.app y.dst s1 := gy.app
 have hnn : e.news = [] ∨ e'.news = [] := by
  cases hF : F.new with
  | false => left; cases hn : e.news with
   | nil => rfl
   | cons b l => have := gx.new.2 (by rw [hn]; simp); rw [hF] at this; cases this
  | true => right; cases hn : e'.news with
   | nil => rfl
   | cons b l => exact (c1 hF (gy.new.2 (by rw [hn]; simp))).elim
 have hs1len : s1.heap.length = s.heap.length + e.news.length := by rw [es1, ZgF]
 have hslen : s1.slots.length = s.slots.length := by rw [es1, ZeF]
 have eP : F.hard = true → e.P = F.P := fun h => (gx.hard h).2.2.2.2.2
 have eP' : G.hard = true → e'.P = G.P := fun h => (gy.hard h).2.2.2.2.2
 have ylk : ∀ t, t ∈ Ly ∨ y.dst = some t → getN s.slots t = getN s1.slots t := fun t ht => by
  have hne : ∀ z, x.dst = some z → z ≠ t := fun z hz hzt => by
   rcases ht with ht | ht
   ·exact a1 z hz (hzt ▸ iy t ht)
   ·exact a2 z hz (by rw [ht, hzt])
  have hsl : getN s1.slots t = (getN s.slots t).scrubP e.P := by rw [es1]; exact ZhB hne
  cases hh : F.hard with
  | false => rw [hsl, gx.soft hh, Zdq]
  | true => rw [hsl, eP hh]; exact (gx.chS hh t ((ZdA c4 hh).2.2.1 t (gy.lk t ht))).symm
 have y1 : ∀ t ∈ Ly, getN s.slots t = getN s1.slots t := fun t ht => ylk t (.inl ht)
 have y2 : ∀ b, b ∈ G.rd ∨ b ∈ G.wr → getB s.heap b = getB s1.heap b := fun b hb => by
  have ho : getB s1.heap b = (getB s.heap b).map (·.scrubP e.P) := by
   rw [es1, ZcJ]
   exact ZgM (fun u hu he => c2 u.1 (gx.us u hu).1 (by rw [he]; exact hb)) (fun j hj he => c2 _ (gx.news j hj) (by rw [he]; exact hb))
  cases hh : F.hard with
  | false => rw [ho, gx.soft hh, ZkE ZcY]
  | true => rw [ho, eP hh]; exact (gx.chB hh b ((ZdA c4 hh).2.2.2 b hb)).symm
 have y3 : G.new = true → s.heap.length = s1.heap.length := fun hG => by
  rcases hnn with hn | hn
  ·rw [hs1len, hn]; rfl
  ·exact absurd hn (gy.new.1 hG)
 have stepy := ly s y1 y2 y3
 have huy : ∀ u ∈ e'.us, u.1 < s.heap.length := fun u hu => by
  obtain ⟨q1, q2⟩ := gy.us u hu
  rcases Nat.lt_or_ge u.1 s.heap.length with h | h
  ·exact h
  ·exfalso
   have := gx.news (u.1 - s.heap.length) (by omega)
   rw [show s.heap.length + (u.1 - s.heap.length) = u.1 by omega] at this
   exact c2 _ this (.inr q1)
 have gy' := gy.move y1 y2 y3 hslen.symm huy (fun Q hQ t ht => by rw [ylk t (.inr ht)]; exact (gy.ow Q hQ).1 t (.inr ht))
  (fun hG t ht => by
   obtain ⟨b1, b2, _, _⟩ := ZdA c5 hG
   by_cases hd : x.dst = some t
   ·exact (gx.ow G.P b2).1 t (.inr hd)
   ·have hsl : getN s1.slots t = (getN s.slots t).scrubP e.P := by rw [es1]; exact ZhB fun z hz hzt => hd (hzt ▸ hz)
    rw [gx.soft b1, Zdq] at hsl
    rw [← hsl]; exact gy.chS hG t ht)
  (fun hG b hb => by
   obtain ⟨b1, b2, _, _⟩ := ZdA c5 hG
   by_cases hw : b ∈ F.wr
   ·exact (gx.ow G.P b2).2.1 b (.inr hw)
   ·have ho : getB s1.heap b = (getB s.heap b).map (·.scrubP e.P) := by
     rw [es1, ZcJ]
     exact ZgM (fun u hu he => hw (he ▸ (gx.us u hu).1)) (fun j hj he => hw (he ▸ gx.news j hj))
    rw [gx.soft b1, ZkE ZcY] at ho
    rw [← ho]; exact gy.chB hG b hb)
 refine ⟨e'.app y.dst s, stepy, ⟨e', Ly, iy, gy', fun s' q1 q2 q3 => ly s' (fun t ht => (q1 t ht).trans (y1 t ht)) (fun b hb => (q2 b hb).trans (y2 b hb)) (fun hG => (q3 hG).trans (y3 hG))⟩, ?_⟩
 have xlk : ∀ t, t ∈ Lx ∨ x.dst = some t → getN (e'.app y.dst s).slots t = getN s.slots t := fun t ht => by
  have hne : ∀ z, y.dst = some z → z ≠ t := fun z hz hzt => by
   rcases ht with ht | ht
   ·exact a3 z hz (hzt ▸ ix t ht)
   ·exact a2 t ht (by rw [hz, hzt])
  rw [ZhB hne]
  cases hh : G.hard with
  | false => rw [gy.soft hh, Zdq]
  | true => rw [eP' hh]; exact (gx.ow G.P (ZdA c5 hh).2.1).1 t ht
 have x1 : ∀ t ∈ Lx, getN (e'.app y.dst s).slots t = getN s.slots t := fun t ht => xlk t (.inl ht)
 have x2 : ∀ b, b ∈ F.rd ∨ b ∈ F.wr → getB (e'.app y.dst s).heap b = getB s.heap b := fun b hb => by
  have ho : getB (e'.app y.dst s).heap b = (getB s.heap b).map (·.scrubP e'.P) := by
   rw [ZcJ]
   refine ZgM (fun u hu he => ?_) (fun j hj he => ?_)
   ·rcases hb with hb | hb
    ·exact c3 b hb (he ▸ (gy.us u hu).1)
    ·exact c2 b hb (.inr (he ▸ (gy.us u hu).1))
   ·have := gy'.news j hj
    rw [he] at this
    rcases hb with hb | hb
    ·exact c3 b hb this
    ·exact c2 b hb (.inr this)
  cases hh : G.hard with
  | false => rw [ho, gy.soft hh, ZkE ZcY]
  | true => rw [ho, eP' hh]; exact (gx.ow G.P (ZdA c5 hh).2.1).2.1 b hb
 have x3 : F.new = true → (e'.app y.dst s).heap.length = s.heap.length := fun hF => by
  rw [ZgF]
  rcases hnn with hn | hn
  ·exact absurd hn (gx.new.1 hF)
  ·rw [hn]; rfl
 have stepx := lx _ x1 x2 x3
 have hux : ∀ u ∈ e.us, u.1 < s.heap.length := fun u hu => (gx.us u hu).2
 have hcomm : e.app x.dst (e'.app y.dst s) = e'.app y.dst (e.app x.dst s) := by
  refine ZrQ a2 ?_ ?_ (fun u hu v hv he => c2 u.1 (gx.us u hu).1 (.inr (by rw [he]; exact (gy.us v hv).1))) hux huy hnn
  ·cases hh : F.hard with
   | false => exact .inl (gx.soft hh)
   | true =>
    obtain ⟨k1, k2, _⟩ := gx.hard hh
    obtain ⟨b1, b2, _, _⟩ := ZdA c4 hh
    obtain ⟨_, _, q3, q4, q5⟩ := gy'.ow F.P b2
    rw [eP hh]
    exact .inr ⟨k1, k2, gy.soft b1, q3, q4, q5⟩
  ·cases hh : G.hard with
   | false => exact .inl (gy.soft hh)
   | true =>
    obtain ⟨k1, k2, _⟩ := gy.hard hh
    obtain ⟨b1, b2, _, _⟩ := ZdA c5 hh
    obtain ⟨_, _, q3, q4, q5⟩ := gx.ow G.P b2
    rw [eP' hh]
    exact .inr ⟨k1, k2, gx.soft b1, q3, q4, q5⟩
 have hfin : e.app x.dst (e'.app y.dst s) = s2 := by rw [hcomm, ← es1, ← es2]
 rw [hfin] at stepx
 refine ⟨stepx, e, Lx, ix, ?_, fun s' q1 q2 q3 => lx s' (fun t ht => (q1 t ht).trans (x1 t ht)) (fun b hb => (q2 b hb).trans (x2 b hb)) (fun hF => (q3 hF).trans (x3 hF))⟩
 have := gx.move x1 x2 x3 (ZeF _ _ _) (fun u hu => by rw [ZgF]; have := hux u hu; omega) (fun Q hQ t ht => by rw [xlk t (.inr ht)]; exact (gx.ow Q hQ).1 t (.inr ht))
  (fun hF t ht => by
   obtain ⟨b1, b2, _, _⟩ := ZdA c4 hF
   by_cases hd : y.dst = some t
   ·rcases Nat.lt_or_ge t s.slots.length with hlt | hge
    ·have hv : getN (e'.app y.dst s).slots t = e'.v := by
      unfold Eff.app
      rw [hd]
      show getN (setN (s.slots.map (·.scrubP e'.P)) t e'.v) t = _
      rw [Zff, if_pos ⟨rfl, by simpa using hlt⟩]
     rw [hv]; exact (gy'.ow F.P b2).2.2.1 t hd hlt
    ·have hv : getN (e'.app y.dst s).slots t = .undef := by
      have : ∀ (l : List SV) (i : Nat), l.length ≤ i → getN l i = .undef := by
       intro l
       induction l with
       | nil => intro i _; rfl
       | cons x l ih => intro i hi; cases i with
        | zero => simp at hi
        | succ i => exact ih i (by simpa using hi)
      exact this _ _ (by rw [ZeF]; exact hge)
     rw [hv]; rfl
   ·rw [ZhB (t := t) (fun z hz hzt => hd (by rw [hz, hzt])), gy.soft b1, Zdq]
    exact gx.chS hF t ht)
  (fun hF b hb => by
   obtain ⟨b1, b2, _, _⟩ := ZdA c4 hF
   obtain ⟨_, q2, _, q4, q5⟩ := gy'.ow F.P b2
   rw [ZcJ]
   unfold Eff.heap
   rw [gy.soft b1, Zee ZcY]
   by_cases hu : ∃ u ∈ e'.us, u.1 = b
   ·obtain ⟨u, hu, rfl⟩ := hu
    have := huy u hu
    rw [ZbK (by rw [Zcc]; exact this), Zle e'.us _ gy.nd u hu this]
    show some (u.2.scrubP F.P) = some u.2
    rw [q4 u hu]
   ·have hu : ∀ u ∈ e'.us, u.1 ≠ b := fun u h1 h2 => hu ⟨u, h1, h2⟩
    rcases Nat.lt_or_ge b s.heap.length with hlt | hge
    ·rw [ZbK (by rw [Zcc]; exact hlt), Zgh e'.us _ hu]
     exact gx.chB hF b hb
    ·obtain ⟨k, rfl⟩ : ∃ k, b = (setU s.heap e'.us).length + k := ⟨b - s.heap.length, by rw [Zcc]; omega⟩
     rw [ZbJ]
     have : ∀ (l : List Blk) (i : Nat), (∀ b ∈ l, b.scrubP F.P = b) → (getB l i).map (·.scrubP F.P) = getB l i := by
      intro l
      induction l with
      | nil => intro i _; rfl
      | cons x l ih => intro i hi; cases i with
       | zero => show some (x.scrubP F.P) = some x; rw [hi x List.mem_cons_self]
       | succ i => exact ih i fun b hb => hi b (List.mem_cons_of_mem _ hb)
     exact this _ _ q5)
 rw [hfin] at this
 exact this
end
end Go.Shal
set_option linter.unusedVariables false
namespace Go.Shal
open Go.RowKit
section
variable {E : Env} {n sk : Nat} {ops : List Oper}
def RunI (E : Env) (n : Nat) (ops : List Oper) : List Nat → St → List (Nat × Ft) → St → Prop
 | [], s, fs, s' => fs = [] ∧ s' = s
 | i :: l, s, fs, s' => ∃ o F fs' s1, ops[i]? = some o ∧ fs = (i, F) :: fs' ∧ Zgw E n ops o s = some s1 ∧ (lev E o < 2 → Cert E n ops o F s s1) ∧ RunI E n ops l s1 fs' s'
def Free (E : Env) (ops : List Oper) (k i : Nat) : Prop := ∀ x y, ops[k]? = some x → ops[i]? = some y → lev E x < 2 ∧ lev E y < 2 ∧ apart x.dst (ZcG ops x) y.dst (ZcG ops y) = true
theorem Zpf {i : Nat} {post : List Nat} : ∀ (pre : List Nat) {s s' : St} {fs : List (Nat × Ft)}, RunI E n ops (pre ++ i :: post) s fs s' → (∀ k ∈ pre, Free E ops k i) →
  (∀ k ∈ pre, ∀ F G, (k, F) ∈ fs → (i, G) ∈ fs → F.clash G = false) →
  ∃ o s1 F fs', ops[i]? = some o ∧ Zgw E n ops o s = some s1 ∧ (lev E o < 2 → Cert E n ops o F s s1) ∧ RunI E n ops (pre ++ post) s1 fs' s' ∧ (∀ q ∈ fs', q ∈ fs) ∧ (i, F) ∈ fs
 | [], s, s', fs, h, _, _ => by
  obtain ⟨o, F, fs', s1, ho, hfs, h1, h2, h3⟩ := h
  subst hfs
  exact ⟨o, s1, F, fs', ho, h1, h2, h3, fun q hq => List.mem_cons_of_mem _ hq, List.mem_cons_self⟩
 | k :: pre, s, s', fs, h, hf, hc => by
  obtain ⟨x, Fk, fsk, sk, hx, hfs, h1, cx, h2⟩ := h
  subst hfs
  obtain ⟨y, s1, G, fs', hy, h3, cy, h4, h5, h6⟩ := Zpf pre h2 (fun k' hk' => hf k' (by simp [hk'])) (fun k' hk' F G hF hG => hc k' (by simp [hk']) F G (List.mem_cons_of_mem _ hF) (List.mem_cons_of_mem _ hG))
  obtain ⟨f1, f2, f3⟩ := hf k (by simp) x y hx hy
  obtain ⟨t1, q1, q2, q3, q4⟩ := swap f3 h1 (cx f1) h3 (cy f2) (hc k (by simp) Fk G List.mem_cons_self (List.mem_cons_of_mem _ h6))
  refine ⟨y, t1, G, (k, Fk) :: fs', hy, q1, fun _ => q2, ⟨x, Fk, fs', s1, hx, rfl, q3, fun _ => q4, h4⟩, fun q hq => ?_, List.mem_cons_of_mem _ h6⟩
  rcases List.mem_cons.1 hq with rfl | hq
  ·exact List.mem_cons_self
  ·exact List.mem_cons_of_mem _ (h5 q hq)
theorem ZgN : ∀ (l : List Oper) (L : List Nat), (∃ R, Zcn l L = L ++ R) ∧ ∀ j o, l[j]? = some o → (Zcn l L).getD (L.length + j) 0 = ZkF ((Zcn l L).take (L.length + j)) o.after.toList
 | [], L => ⟨⟨[], by simp [Zcn]⟩, fun j o h => by simp at h⟩
 | o :: r, L => by
  obtain ⟨⟨R, hR⟩, h⟩ := ZgN r (L ++ [ZkF L o.after.toList])
  refine ⟨⟨ZkF L o.after.toList :: R, by simp only [Zcn]; rw [hR]; simp⟩, fun j o' hj => ?_⟩
  cases j with
  | zero =>
   obtain rfl : o = o' := by simpa using hj
   simp only [Zcn]
   rw [hR]
   simp
  | succ j =>
   have := h j o' (by simpa using hj)
   simp only [Zcn]
   simp only [List.length_append, List.length_singleton] at this
   rw [show L.length + (j + 1) = L.length + 1 + j by omega]
   exact this
theorem Zfy {L : List Nat} {k : Nat} : ∀ {es : List Edge}, Nat.testBit (ZkF L es) k = true → ∃ e ∈ es, Region.binds .any e = true ∧ (k = e.on ∨ Nat.testBit (L.getD e.on 0) k = true)
 | [], h => by simp [ZkF] at h
 | e :: r, h => by
  unfold ZkF at h
  cases hb : Region.binds .any e with
  | false =>
   rw [hb] at h
   obtain ⟨e', h1, h2⟩ := Zfy h
   exact ⟨e', List.mem_cons_of_mem _ h1, h2⟩
  | true =>
   rw [hb] at h
   simp only [cond_true, Nat.testBit_or, Bool.or_eq_true] at h
   rcases h with h | h | h
   ·refine ⟨e, by simp, hb, .inl ?_⟩
    rw [Nat.shiftLeft_eq, Nat.one_mul, Nat.testBit_two_pow] at h
    exact (of_decide_eq_true h).symm
   ·exact ⟨e, by simp, hb, .inr h⟩
   ·obtain ⟨e', h1, h2⟩ := Zfy h
    exact ⟨e', List.mem_cons_of_mem _ h1, h2⟩
theorem Zel {i : Nat} : ∀ {es : List Edge}, Zie i es = true → ∀ e ∈ es, Region.binds .any e = true → e.on < i
 | [], _, e, he, _ => by cases he
 | e' :: r, h, e, he, hb => by
  unfold Zie at h
  rw [Bool.and_eq_true] at h
  rcases List.mem_cons.1 he with rfl | he
  ·rw [hb] at h
   have := h.1
   simpa [Nat.blt_eq] using this
  ·exact Zel h.2 e he hb
theorem ZgO {o : Oper} {lo : List Nat} {m sk : Nat} : ∀ {l : List Oper} {i : Nat}, ZqS E ops o lo m sk l i = true → ∀ j x, l[j]? = some x → (Nat.testBit m (i + j) = true ∨ i + j = sk) ∨ (Nat.ble 2 (lev E o) = false ∧ Nat.ble 2 (lev E x) = false ∧ apart x.dst (ZcG ops x) o.dst lo = true)
 | [], i, _, j, x, hj => by simp at hj
 | y :: r, i, h, j, x, hj => by
  unfold ZqS at h
  simp only [Bool.and_eq_true, Bool.or_eq_true, Bool.not_eq_true'] at h
  cases j with
  | zero =>
   obtain rfl : y = x := by simpa using hj
   rcases h.1 with (h | h) | h
   ·exact .inl (.inl h)
   ·exact .inl (.inr (Nat.eq_of_beq_eq_true h))
   ·exact .inr ⟨h.1, h.2.1, h.2.2⟩
  | succ j =>
   have := ZgO h.2 j x (by simpa using hj)
   rwa [show i + (j + 1) = i + 1 + j by omega]
theorem ZdQ {ms : List Nat} {sk : Nat} : ∀ {l : List Oper} {i : Nat}, ZfL E ops ms sk l i = true → ∀ j o, l[j]? = some o → Zie (i + j) o.after.toList = true ∧ (i + j = sk ∨ ZqS E ops o (ZcG ops o) (ms.getD (i + j) 0) sk (ops.take (i + j)) 0 = true)
 | [], i, _, j, o, hj => by simp at hj
 | y :: r, i, h, j, o, hj => by
  unfold ZfL at h
  rw [Bool.and_eq_true, Bool.and_eq_true, Bool.or_eq_true] at h
  cases j with
  | zero =>
   obtain rfl : y = o := by simpa using hj
   exact ⟨h.1.1, h.1.2.imp Nat.eq_of_beq_eq_true id⟩
  | succ j =>
   have := ZdQ h.2 j o (by simpa using hj)
   rwa [show i + (j + 1) = i + 1 + j by omega]
def Zgc (ops : List Oper) (listed : Array Bool) : Prop := ∀ j o, ops[j]? = some o → listed.getD j false = true → ∀ e ∈ o.after, Region.binds .any e = true → listed.getD e.on false = true
theorem Zlk {listed : Array Bool} (hok : ZfL E ops (Zcn ops []) sk ops 0 = true) (hcl : Zgc ops listed) : ∀ (i : Nat) (o : Oper), ops[i]? = some o → (∀ e ∈ o.after, Region.binds .any e = true → listed.getD e.on false = true) →
  ∀ k, Nat.testBit ((Zcn ops []).getD i 0) k = true → listed.getD k false = true := by
 intro i
 induction i using Nat.strongRecOn with
 | ind i ih =>
  intro o ho hl k hk
  have hs := (ZgN ops []).2 i o ho
  simp only [List.length_nil, Nat.zero_add] at hs
  rw [hs] at hk
  obtain ⟨e, he, hb, h⟩ := Zfy hk
  have he' : e ∈ o.after := by simpa using he
  have hlt := Zel ((ZdQ hok i o ho).1) e he hb
  rw [Nat.zero_add] at hlt
  rcases h with rfl | h
  ·exact hl e he' hb
  ·have hget : ((Zcn ops []).take i).getD e.on 0 = (Zcn ops []).getD e.on 0 := by
    rw [List.getD_eq_getElem?_getD, List.getD_eq_getElem?_getD, List.getElem?_take, if_pos hlt]
   rw [hget] at h
   obtain ⟨o', ho'⟩ : ∃ o', ops[e.on]? = some o' := ⟨ops[e.on]'(by have := (List.getElem?_eq_some_iff.1 ho).1; omega), List.getElem?_eq_getElem _⟩
   exact ih e.on hlt o' ho' (hcl e.on o' ho' (hl e he' hb)) k h
def rest (ops : List Oper) (listed : Array Bool) : List Nat := (List.range ops.length).filter fun i => !listed.getD i true
theorem Zda {listed : Array Bool} {i : Nat} : i ∈ rest ops listed ↔ i < ops.length ∧ listed.getD i true = false := by
 unfold rest
 rw [List.mem_filter, List.mem_range]
 simp
theorem Zhp {p : Nat → Bool} {n i : Nat} (hi : i ∈ (List.range n).filter p) : ∃ pre post, (List.range n).filter p = pre ++ i :: post ∧ (∀ k ∈ pre, k < i) ∧ (List.range n).filter (fun j => p j && !(Nat.beq j i)) = pre ++ post := by
 induction n with
 | zero => simp at hi
 | succ n ih =>
  rw [List.range_succ, List.filter_append] at hi
  rcases List.mem_append.1 hi with hi | hi
  ·obtain ⟨pre, post, h1, h2, h3⟩ := ih hi
   refine ⟨pre, post ++ [n].filter p, by rw [List.range_succ, List.filter_append, h1]; simp, h2, ?_⟩
   rw [List.range_succ, List.filter_append, h3, List.append_assoc]
   congr 2
   have hlt : i < n := by have := (List.mem_filter.1 hi).1; simpa using this
   have : Nat.beq n i = false := by
    cases e : Nat.beq n i with
    | false => rfl
    | true => have := Nat.eq_of_beq_eq_true e; omega
   simp [List.filter, this]
  ·have hin : i = n ∧ p n = true := by
    have := List.mem_filter.1 hi
    simp only [List.mem_singleton] at this
    exact ⟨this.1, this.1 ▸ this.2⟩
   obtain ⟨rfl, hp⟩ := hin
   refine ⟨(List.range i).filter p, [], by rw [List.range_succ, List.filter_append]; simp [List.filter, hp], fun k hk => by simpa using (List.mem_filter.1 hk).1, ?_⟩
   rw [List.range_succ, List.filter_append]
   have : [i].filter (fun j => p j && !(Nat.beq j i)) = [] := by simp [List.filter]
   rw [this]
   congr 1
   apply List.filter_congr
   intro x hx
   have : x < i := by simpa using hx
   have : Nat.beq x i = false := by
    cases e : Nat.beq x i with
    | false => rfl
    | true => have := Nat.eq_of_beq_eq_true e; omega
   simp [this]
theorem Zoz {listed : Array Bool} {i : Nat} (hi : i < listed.size) : rest ops (listed.setIfInBounds i true) = (List.range ops.length).filter (fun j => (fun i => !listed.getD i true) j && !(Nat.beq j i)) := by
 unfold rest
 apply List.filter_congr
 intro x _
 by_cases h : x = i
 ·subst h
  simp [hi]
 ·rw [getD_set_ne true (Ne.symm h)]
  have : Nat.beq x i = false := by
   cases e : Nat.beq x i with
   | false => rfl
   | true => exact absurd (Nat.eq_of_beq_eq_true e) h
  simp [this]
end
section
variable {P : Program} {E : Env} {w0 : World} {R0 : RO} {p : Pr} {n sk : Nat} {ops : List Oper}
variable {Q : Exit → Act → World → Prop}
theorem Zsl (hE : ZdW P E R0 p) {s s1 : St} {g : Gh} {a : Act} {w : World} (h : Inv w0 R0 p g s a w) {o : Oper} (he : opD E n o s = some s1) : Goes P o a w (Then w0 R0 p s1) := by
 have := Zlz (K := fun s => some s) (r := s1) hE h (n := n) (o := o) (by rw [Zqg, he]; rfl)
 exact fun next Q hn => this next Q fun a' w' ⟨s', g', e, hI⟩ => hn a' w' (by cases e; exact ⟨g', hI⟩)
theorem Zgx (hE : ZdW P E R0 p) {s s1 : St} {g : Gh} {a : Act} {w : World} (h : Inv w0 R0 p g s a w) {o : Oper} {i : Nat} (hi : ops[i]? = some o) (he : Zgw E n ops o s = some s1)
  {K : Act → World → Prop} (hK : ∀ a' w' g', Inv w0 R0 p g' s1 a' w' → K a' w') : wpOp P ops.toArray Q i K a w := by
 unfold wpOp
 rw [List.getElem?_toArray, hi]
 simp only []
 have go : opD E n o s = some s1 → o.wp P a w K Q := fun he => Zsl hE h he K Q fun a' w' ⟨g', hI⟩ => hK a' w' g' hI
 unfold Zgw at he
 cases hg : o.guard with
 | none =>
  rw [hg] at he
  rw [if_pos (by simp [Region.wanted, hg])]
  exact .inl (go he)
 | some q =>
  obtain ⟨j, want⟩ := q
  rw [hg] at he
  obtain ⟨d, hd, he⟩ := Option.bind_eq_some_iff.1 he
  obtain ⟨b, hb, he⟩ := Option.bind_eq_some_iff.1 he
  have hy : yielded ops.toArray a.tmps j = b := by
   cases b with
   | none => exact Zhs (a := a) hd (Zis (h.slots d) hb)
   | some b => exact Zka (a := a) hd ((h.slots d).asBool (ZfT hb))
  cases hw : (b == some want) with
  | true =>
   rw [hw] at he
   rw [if_pos (by simp only [Region.wanted, hg, hy, hw])]
   exact .inl (go he)
  | false =>
   rw [hw] at he
   cases he
   rw [if_neg (by simp only [Region.wanted, hg, hy, hw]; decide)]
   exact hK _ _ g (h.put (sv := Zjx) Zms o.dst)
def Zjf (ops : List Oper) (ex : Nat × Nat) (l : List Nat) (fs : List (Nat × Ft)) : Prop := ∀ k i, [k, i].Sublist l → ∀ F G, (k, F) ∈ fs → (i, G) ∈ fs → Nat.testBit ((Zcn ops []).getD i 0) k = true ∨ (k = ex.1 ∧ i = ex.2) ∨ F.clash G = false
structure Ord (ops : List Oper) (listed : Array Bool) (l : List Nat) : Prop where
 nd : l.Nodup
 mem : ∀ i, i ∈ l ↔ i ∈ rest ops listed
 mask : ∀ k i, [k, i].Sublist l → Nat.testBit ((Zcn ops []).getD k 0) i = false
theorem ZiY {α : Type} {pre post : List α} {k i : α} (h : k ∈ pre) : [k, i].Sublist (pre ++ i :: post) := by
 have h1 : [k].Sublist pre := List.singleton_sublist.2 h
 exact h1.append (List.Sublist.cons_cons i (List.nil_sublist post))
theorem ZnR {α : Type} (pre post : List α) (i : α) : (pre ++ post).Sublist (pre ++ i :: post) := (List.Sublist.refl pre).append (List.sublist_cons_self i post)
theorem Ord.out {listed : Array Bool} {i : Nat} {pre post : List Nat} (hsz : listed.size = ops.length) (h : Ord ops listed (pre ++ i :: post)) : Ord ops (listed.setIfInBounds i true) (pre ++ post) := by
 have hnd := h.nd
 have hi : i < ops.length := (Zda.1 ((h.mem i).1 (by simp))).1
 have hni : i ∉ pre ++ post := by
  intro hm
  have := List.nodup_append.1 hnd
  rcases List.mem_append.1 hm with hm | hm
  ·exact this.2.2 i hm i (by simp) rfl
  ·exact (List.nodup_cons.1 this.2.1).1 hm
 refine ⟨hnd.sublist (ZnR pre post i), fun j => ?_, fun k j hs => h.mask k j (hs.trans (ZnR pre post i))⟩
 by_cases hji : j = i
 ·subst hji
  refine ⟨fun hm => (hni hm).elim, fun hm => ?_⟩
  have := (Zda.1 hm).2
  simp [hsz, hi] at this
 ·have e1 : j ∈ pre ++ post ↔ j ∈ pre ++ i :: post := by simp [hji]
  rw [e1, h.mem j, Zda, Zda, getD_set_ne true (Ne.symm hji)]
theorem Zfl {listed : Array Bool} (hok : ZfL E ops (Zcn ops []) sk ops 0 = true) (hsz : listed.size = ops.length) (hcl : Zgc ops listed) {i : Nat} {o : Oper} (ho : ops[i]? = some o) (hall : ∀ e ∈ o.after, Region.binds .any e = true → listed.getD e.on false = true) {k : Nat} (hk : k ∈ rest ops listed) :
  Nat.testBit ((Zcn ops []).getD i 0) k = false := by
 cases e : Nat.testBit ((Zcn ops []).getD i 0) k with
 | false => rfl
 | true =>
  have := Zlk hok hcl i o ho hall k e
  have hk2 := Zda.1 hk
  have hsz' : k < listed.size := by omega
  simp [hsz'] at this hk2
  rw [this] at hk2
  exact absurd hk2.2 (by simp)
theorem ZoJ {dx dy : Option Nat} {lx ly : List Nat} (h : apart dx lx dy ly = true) : apart dy ly dx lx = true := by
 unfold apart at h ⊢
 cases dx with
 | none => cases dy with
  | none => rfl
  | some e => simpa using h
 | some d => cases dy with
  | none => simpa using h
  | some e =>
   simp only [Bool.and_eq_true, Bool.not_eq_true'] at h ⊢
   refine ⟨⟨h.2, ?_⟩, h.1.1⟩
   have := h.1.2
   cases hb : Nat.beq e d with
   | false => rfl
   | true => rw [Nat.eq_of_beq_eq_true hb, Nat.beq_refl] at this; cases this
theorem Zio {listed : Array Bool} (hskip : sk ∉ rest ops listed) (hok : ZfL E ops (Zcn ops []) sk ops 0 = true) (hsz : listed.size = ops.length) (hcl : Zgc ops listed) {i : Nat} {o : Oper} (ho : ops[i]? = some o) (hall : ∀ e ∈ o.after, Region.binds .any e = true → listed.getD e.on false = true) {pre post : List Nat} (hord : Ord ops listed (pre ++ i :: post)) :
  ∀ k ∈ pre, Free E ops k i := fun k hk x y hx hy => by
 have hkr : k ∈ rest ops listed := (hord.mem k).1 (by simp [hk])
 have h1 := Zfl hok hsz hcl ho hall hkr
 have h2 := hord.mask k i (ZiY hk)
 have hne : k ≠ i := fun e => by
  subst e
  exact (List.nodup_append.1 hord.nd).2.2 k hk k (by simp) rfl
 have lt2 : ∀ z, Nat.ble 2 z = false → z < 2 := fun z hz => by
  rcases Nat.lt_or_ge z 2 with h | h
  ·exact h
  ·rw [ZeG h] at hz; cases hz
 have hir : i ∈ rest ops listed := (hord.mem i).1 (by simp)
 have hks : k ≠ sk := fun e => hskip (e ▸ hkr)
 have his : i ≠ sk := fun e => hskip (e ▸ hir)
 rcases Nat.lt_or_ge k i with hlt | hge
 ·have := ZgO (((ZdQ hok i y hy).2).resolve_left (by rw [Nat.zero_add]; exact his)) k x (by rw [Nat.zero_add, List.getElem?_take, if_pos hlt]; exact hx)
  rw [Nat.zero_add, Nat.zero_add, h1] at this
  rcases this with (h | h) | ⟨q1, q2, q3⟩
  ·cases h
  ·exact (hks h).elim
  ·exact ⟨lt2 _ q2, lt2 _ q1, q3⟩
 ·have hlt : i < k := by omega
  have := ZgO (((ZdQ hok k x hx).2).resolve_left (by rw [Nat.zero_add]; exact hks)) i y (by rw [Nat.zero_add, List.getElem?_take, if_pos hlt]; exact hy)
  rw [Nat.zero_add, Nat.zero_add, h2] at this
  rcases this with (h | h) | ⟨q1, q2, q3⟩
  ·cases h
  ·exact (his h).elim
  ·exact ⟨lt2 _ q1, lt2 _ q2, ZoJ q3⟩
theorem ZjT {listed : Array Bool} (hok : ZfL E ops (Zcn ops []) sk ops 0 = true) (hsz : listed.size = ops.length) (hne : rest ops listed ≠ []) : Region.ready .any ops.toArray listed ≠ [] := by
 cases hr : rest ops listed with
 | nil => exact absurd hr hne
 | cons i0 r =>
  have hi0 : i0 ∈ rest ops listed := by rw [hr]; simp
  obtain ⟨hlt, hun⟩ := Zda.1 hi0
  have hmin : ∀ j, j < i0 → listed.getD j false = true := fun j hj => by
   cases e : listed.getD j true with
   | true =>
    have : j < listed.size := by omega
    simpa [this] using e
   | false =>
    have hj' : j ∈ rest ops listed := Zda.2 ⟨by omega, e⟩
    obtain ⟨pre, post, h1, h2, _⟩ := Zhp (p := fun i => !listed.getD i true) (n := ops.length) (i := j) hj'
    have h1 : rest ops listed = pre ++ j :: post := h1
    have hi0' : i0 ∈ pre ++ j :: post := h1 ▸ hi0
    cases pre with
    | nil =>
     rw [hr] at h1
     injection h1 with h1 _
     omega
    | cons x pre =>
     rw [hr] at h1
     injection h1 with h1 _
     have := h2 x (by simp)
     omega
  have ho : ops[i0]? = some (ops[i0]'hlt) := List.getElem?_eq_getElem _
  have : i0 ∈ Region.ready .any ops.toArray listed := mem_ready.2 ⟨hun, _, by rw [List.getElem?_toArray]; exact ho, fun e he hb => by
   have := Zel ((ZdQ hok i0 _ ho).1) e (by simpa using he) hb
   exact hmin _ (by omega)⟩
  intro hnil
  rw [hnil] at this
  cases this
theorem ZjS {listed : Array Bool} (h : rest ops listed = []) : Region.ready .any ops.toArray listed = [] := by
 apply List.eq_nil_iff_forall_not_mem.2
 intro j hj
 obtain ⟨h0, o, ho, _⟩ := mem_ready.1 hj
 have : j ∈ rest ops listed := Zda.2 ⟨by rw [List.getElem?_toArray] at ho; exact (List.getElem?_eq_some_iff.1 ho).1, h0⟩
 rw [h] at this
 cases this
theorem Zoy {listed : Array Bool} {l : List Nat} (h : Ord ops listed l) (hl : l = []) : rest ops listed = [] := by
 apply List.eq_nil_iff_forall_not_mem.2
 intro j hj
 have := (h.mem j).2 hj
 rw [hl] at this
 cases this
theorem ZdR {listed : Array Bool} {i : Nat} {o : Oper} (ho : ops[i]? = some o) (hcl : Zgc ops listed) (hall : ∀ e ∈ o.after, Region.binds .any e = true → listed.getD e.on false = true) : Zgc ops (listed.setIfInBounds i true) := by
 intro j oj hj hl e he hb
 by_cases hji : j = i
 ·subst hji
  obtain rfl : o = oj := by rw [ho] at hj; exact Option.some.inj hj
  exact getD_set_true (hall e he hb)
 ·rw [getD_set_ne false (Ne.symm hji)] at hl
  exact getD_set_true (hcl j oj hj hl e he hb)
theorem Zjf.out {ex : Nat × Nat} {i : Nat} {pre post : List Nat} {fs fs' : List (Nat × Ft)} (h : Zjf ops ex (pre ++ i :: post) fs) (hs : ∀ q ∈ fs', q ∈ fs) : Zjf ops ex (pre ++ post) fs' :=
 fun k j hk F G hF hG => h k j (hk.trans (ZnR pre post i)) F G (hs _ hF) (hs _ hG)
theorem Zjf.all {ex ex' : Nat × Nat} {l : List Nat} {fs : List (Nat × Ft)} (h : Zjf ops ex l fs) (hn : ex.1 ∉ l ∨ ex.2 ∉ l) : Zjf ops ex' l fs := fun k i hk F G hF hG => by
 rcases h k i hk F G hF hG with q | ⟨rfl, rfl⟩ | q
 ·exact .inl q
 ·exfalso
  rcases hn with hn | hn
  ·exact hn (hk.subset (by simp))
  ·exact hn (hk.subset (by simp))
 ·exact .inr (.inr q)
theorem Zfo {sk : Nat} {listed : Array Bool} {i : Nat} (hsz : listed.size = ops.length) (hi : i < ops.length) (h : sk ∉ rest ops listed) : sk ∉ rest ops (listed.setIfInBounds i true) := fun hm => by
 refine h ?_
 rw [Zoz (by omega)] at hm
 have := List.mem_filter.1 hm
 rw [Bool.and_eq_true] at this
 exact List.mem_filter.2 ⟨this.1, this.2.1⟩
theorem Zll (hE : ZdW P E R0 p) (hok : ZfL E ops (Zcn ops []) sk ops 0 = true) {s' : St} (hQ : ∀ a' w' g', Inv w0 R0 p g' s' a' w' → Q .normal a' w') :
  ∀ (fuel : Nat) {listed : Array Bool} {l : List Nat} {fs : List (Nat × Ft)} {s : St} {g : Gh} {a : Act} {w : World}, sk ∉ rest ops listed → listed.size = ops.length → Zgc ops listed → Ord ops listed l → l.length = fuel → Inv w0 R0 p g s a w →
   RunI E n ops l s fs s' → Zjf ops (0, 0) l fs → wpAny P .any ops.toArray Q fuel listed a w := by
 intro fuel
 induction fuel with
 | zero =>
  intro listed l fs s g a w hskip hsz hcl hord hlen hI hrun hfeet
  have hnil : l = [] := List.length_eq_zero_iff.1 hlen
  rw [hnil] at hrun
  obtain ⟨_, rfl⟩ := hrun
  exact ⟨ZjS (Zoy hord hnil), hQ _ _ g hI⟩
 | succ fuel ih =>
  intro listed l fs s g a w hskip hsz hcl hord hlen hI hrun hfeet
  refine ⟨fun hno => absurd hno (ZjT hok hsz fun hnil => ?_), fun i hi => ?_⟩
  ·cases l with
   | nil => cases hlen
   | cons x r =>
    have := (hord.mem x).1 (by simp)
    rw [hnil] at this; cases this
  ·obtain ⟨hun, o, ho, hall⟩ := mem_ready.1 hi
   rw [List.getElem?_toArray] at ho
   have hlt := (List.getElem?_eq_some_iff.1 ho).1
   have hir : i ∈ rest ops listed := Zda.2 ⟨hlt, hun⟩
   obtain ⟨pre, post, rfl⟩ := List.append_of_mem ((hord.mem i).2 hir)
   have hfree := Zio hskip hok hsz hcl ho hall hord
   obtain ⟨o', s1, m, fs', ho', k1, _, k2, k3, k4⟩ := Zpf pre hrun hfree (fun k hk F G hF hG => by
    have hkr : k ∈ rest ops listed := (hord.mem k).1 (by simp [hk])
    have hne : k ≠ i := fun e => by
     subst e
     exact (List.nodup_append.1 hord.nd).2.2 k hk k (by simp) rfl
    rcases hfeet k i (ZiY hk) F G hF hG with q | ⟨rfl, rfl⟩ | q
    ·rw [Zfl hok hsz hcl ho hall hkr] at q; cases q
    ·exact (hne rfl).elim
    ·exact q)
   obtain rfl : o = o' := by rw [ho] at ho'; exact Option.some.inj ho'
   refine Zgx hE hI ho k1 fun a' w' g' hI' => ih (listed := listed.setIfInBounds i true) (l := pre ++ post) (fs := fs') (Zfo hsz hlt hskip) (by simpa using hsz) (ZdR ho hcl hall) (hord.out hsz) ?_ hI' k2 (hfeet.out k3)
   simp only [List.length_append, List.length_cons] at hlen ⊢
   omega
theorem Ztr (hE : ZdW P E R0 p) (hok : ZfL E ops (Zcn ops []) sk ops 0 = true) {x y : Nat} {s1' s2' : St} (hQ1 : ∀ a' w' g', Inv w0 R0 p g' s1' a' w' → Q .normal a' w') (hQ2 : ∀ a' w' g', Inv w0 R0 p g' s2' a' w' → Q .normal a' w') :
  ∀ (fuel : Nat) {listed : Array Bool} {l1 l2 : List Nat} {fs1 fs2 : List (Nat × Ft)} {s : St} {g : Gh} {a : Act} {w : World}, sk ∉ rest ops listed → listed.size = ops.length → Zgc ops listed → Ord ops listed l1 → Ord ops listed l2 → l1.length = fuel → l2.length = fuel → Inv w0 R0 p g s a w →
   RunI E n ops l1 s fs1 s1' → RunI E n ops l2 s fs2 s2' → Zjf ops (x, y) l1 fs1 → Zjf ops (y, x) l2 fs2 → wpAny P .any ops.toArray Q fuel listed a w := by
 intro fuel
 induction fuel with
 | zero =>
  intro listed l1 l2 fs1 fs2 s g a w hskip hsz hcl ho1 ho2 hlen1 hlen2 hI hrun1 hrun2 hf1 hf2
  have hnil : l1 = [] := List.length_eq_zero_iff.1 hlen1
  rw [hnil] at hrun1
  obtain ⟨_, rfl⟩ := hrun1
  exact ⟨ZjS (Zoy ho1 hnil), hQ1 _ _ g hI⟩
 | succ fuel ih =>
  intro listed l1 l2 fs1 fs2 s g a w hskip hsz hcl ho1 ho2 hlen1 hlen2 hI hrun1 hrun2 hf1 hf2
  refine ⟨fun hno => absurd hno (ZjT hok hsz fun hnil => ?_), fun i hi => ?_⟩
  ·cases l1 with
   | nil => cases hlen1
   | cons x r =>
    have := (ho1.mem x).1 (by simp)
    rw [hnil] at this; cases this
  ·obtain ⟨hun, o, ho, hall⟩ := mem_ready.1 hi
   rw [List.getElem?_toArray] at ho
   have hlt := (List.getElem?_eq_some_iff.1 ho).1
   have hir : i ∈ rest ops listed := Zda.2 ⟨hlt, hun⟩
   obtain ⟨pre1, post1, rfl⟩ := List.append_of_mem ((ho1.mem i).2 hir)
   obtain ⟨pre2, post2, rfl⟩ := List.append_of_mem ((ho2.mem i).2 hir)
   have c1 : i ≠ y → ∀ k ∈ pre1, ∀ F G, (k, F) ∈ fs1 → (i, G) ∈ fs1 → F.clash G = false := fun hne k hk F G hF hG => by
    have hkr : k ∈ rest ops listed := (ho1.mem k).1 (by simp [hk])
    rcases hf1 k i (ZiY hk) F G hF hG with q | ⟨_, q⟩ | q
    ·rw [Zfl hok hsz hcl ho hall hkr] at q; cases q
    ·exact (hne q).elim
    ·exact q
   have c2 : i ≠ x → ∀ k ∈ pre2, ∀ F G, (k, F) ∈ fs2 → (i, G) ∈ fs2 → F.clash G = false := fun hne k hk F G hF hG => by
    have hkr : k ∈ rest ops listed := (ho2.mem k).1 (by simp [hk])
    rcases hf2 k i (ZiY hk) F G hF hG with q | ⟨_, q⟩ | q
    ·rw [Zfl hok hsz hcl ho hall hkr] at q; cases q
    ·exact (hne q).elim
    ·exact q
   have hsz' : (listed.setIfInBounds i true).size = ops.length := by simpa using hsz
   have hl1 : (pre1 ++ post1).length = fuel := by simp only [List.length_append, List.length_cons] at hlen1 ⊢; omega
   have hl2 : (pre2 ++ post2).length = fuel := by simp only [List.length_append, List.length_cons] at hlen2 ⊢; omega
   have gone : ∀ {pre post : List Nat}, Ord ops listed (pre ++ i :: post) → i ∉ pre ++ post := fun {pre post} h hm => by
    have hnd := List.nodup_append.1 h.nd
    rcases List.mem_append.1 hm with hm | hm
    ·exact hnd.2.2 i hm i (by simp) rfl
    ·exact (List.nodup_cons.1 hnd.2.1).1 hm
   by_cases hy : i = y
   ·by_cases hx : i = x
    ·
     subst hy
     subst hx
     obtain ⟨o', s1, m, fs', ho', k1, _, k2, k3, k4⟩ := Zpf pre1 hrun1 (Zio hskip hok hsz hcl ho hall ho1) (fun k hk F G hF hG => by
      have hkr : k ∈ rest ops listed := (ho1.mem k).1 (by simp [hk])
      have hne : k ≠ i := fun e => by
       subst e
       exact (List.nodup_append.1 ho1.nd).2.2 k hk k (by simp) rfl
      rcases hf1 k i (ZiY hk) F G hF hG with q | ⟨q, _⟩ | q
      ·rw [Zfl hok hsz hcl ho hall hkr] at q; cases q
      ·exact (hne q).elim
      ·exact q)
     obtain rfl : o = o' := by rw [ho] at ho'; exact Option.some.inj ho'
     exact Zgx hE hI ho k1 fun a' w' g' hI' => Zll hE hok hQ1 fuel (Zfo hsz hlt hskip) hsz' (ZdR ho hcl hall) (ho1.out hsz) hl1 hI' k2 ((hf1.out k3).all (.inl (gone ho1)))
    ·
     obtain ⟨o', s1, m, fs', ho', k1, _, k2, k3, k4⟩ := Zpf pre2 hrun2 (Zio hskip hok hsz hcl ho hall ho2) (c2 hx)
     obtain rfl : o = o' := by rw [ho] at ho'; exact Option.some.inj ho'
     exact Zgx hE hI ho k1 fun a' w' g' hI' => Zll hE hok hQ2 fuel (Zfo hsz hlt hskip) hsz' (ZdR ho hcl hall) (ho2.out hsz) hl2 hI' k2 ((hf2.out k3).all (.inl (hy ▸ gone ho2)))
   ·obtain ⟨o', s1, m, fs', ho', k1, _, k2, k3, k4⟩ := Zpf pre1 hrun1 (Zio hskip hok hsz hcl ho hall ho1) (c1 hy)
    obtain rfl : o = o' := by rw [ho] at ho'; exact Option.some.inj ho'
    by_cases hx : i = x
    ·exact Zgx hE hI ho k1 fun a' w' g' hI' => Zll hE hok hQ1 fuel (Zfo hsz hlt hskip) hsz' (ZdR ho hcl hall) (ho1.out hsz) hl1 hI' k2 ((hf1.out k3).all (.inl (hx ▸ gone ho1)))
    ·obtain ⟨o', t1, m', fs2', ho', j1, _, j2, j3, j4⟩ := Zpf pre2 hrun2 (Zio hskip hok hsz hcl ho hall ho2) (c2 hx)
     obtain rfl : o = o' := by rw [ho] at ho'; exact Option.some.inj ho'
     obtain rfl : s1 = t1 := by rw [k1] at j1; exact Option.some.inj j1
     exact Zgx hE hI ho k1 fun a' w' g' hI' => ih (Zfo hsz hlt hskip) hsz' (ZdR ho hcl hall) (ho1.out hsz) (ho2.out hsz) hl1 hl2 hI' k2 j2 (hf1.out k3) (hf2.out j3)
theorem ZjI {ms : List Nat} {ex : Nat × Nat} : ∀ {fs : List (Nat × Ft)}, ZmS ms ex fs = true → fs.Pairwise fun q r => Nat.testBit (ms.getD q.1 0) r.1 = true ∨ (r.1 = ex.1 ∧ q.1 = ex.2) ∨ r.2.clash q.2 = false
 | [], _ => .nil
 | (i, F) :: r, h => by
  unfold ZmS at h
  rw [Bool.and_eq_true] at h
  refine .cons (fun q hq => ?_) (ZjI h.2)
  have := Zdy h.1 q hq
  simp only [Bool.or_eq_true, Bool.and_eq_true, Bool.not_eq_true'] at this
  rcases this with q | ⟨q1, q2⟩ | q
  ·exact .inl q
  ·exact .inr (.inl ⟨Nat.eq_of_beq_eq_true q1, Nat.eq_of_beq_eq_true q2⟩)
  ·exact .inr (.inr q)
theorem RunI.fst : ∀ {l : List Nat} {s s' : St} {fs : List (Nat × Ft)}, RunI E n ops l s fs s' → fs.map Prod.fst = l
 | [], s, s', fs, h => by rw [h.1]; rfl
 | i :: l, s, s', fs, ⟨o, F, fs', s1, _, e, _, _, h⟩ => by rw [e, List.map_cons, RunI.fst h]
theorem Zjz {R : Nat × Ft → Nat × Ft → Prop} : ∀ {fs : List (Nat × Ft)}, (fs.map Prod.fst).Nodup → fs.Pairwise R → ∀ k i, [k, i].Sublist (fs.map Prod.fst) → ∀ F G, (k, F) ∈ fs → (i, G) ∈ fs → R (k, F) (i, G)
 | [], _, _, k, i, hs, F, G, hF, _ => by cases hF
 | (a, A) :: r, hn, hp, k, i, hs, F, G, hF, hG => by
  rw [List.map_cons] at hn hs
  obtain ⟨hn1, hn2⟩ := List.nodup_cons.1 hn
  obtain ⟨hp1, hp2⟩ := List.pairwise_cons.1 hp
  have inr : ∀ {j : Nat} {H : Ft}, j ∈ r.map Prod.fst → (j, H) ∈ (a, A) :: r → (j, H) ∈ r := fun {j H} hj hm => by
   rcases List.mem_cons.1 hm with e | hm
   ·cases e; exact (hn1 hj).elim
   ·exact hm
  cases hs with
  | cons _ hs => exact Zjz hn2 hp2 k i hs F G (inr (hs.subset (by simp)) hF) (inr (hs.subset (by simp)) hG)
  | cons_cons _ hs =>
   have hi : i ∈ r.map Prod.fst := hs.subset (by simp)
   rcases List.mem_cons.1 hF with e | hF
   ·cases e; exact hp1 _ (inr hi hG)
   ·exact (hn1 (List.mem_map.2 ⟨_, hF, rfl⟩)).elim
theorem Zex {β : Type} {r : β} {K : St → Option β} {ex : Nat × Nat} : ∀ (l : List (Nat × Oper)) {s : St} {fs : List (Nat × Ft)}, (∀ q ∈ l, ops[q.1]? = some q.2) → Zem E n ops (Zcn ops []) ex l s fs K = some r →
  ∃ s' fs', RunI E n ops (l.map Prod.fst) s fs' s' ∧ K s' = some r ∧ ZmS (Zcn ops []) ex (fs'.reverse ++ fs) = true
 | [], s, fs, hd, he => by
  unfold Zem at he
  split at he
  ·rename_i hf
   exact ⟨s, [], ⟨rfl, rfl⟩, he, hf⟩
  ·cases he
 | (i, o) :: l, s, fs, hd, he => by
  have hi : ops[i]? = some o := hd (i, o) (by simp)
  have hd' : ∀ q ∈ l, ops[q.1]? = some q.2 := fun q hq => hd q (by simp [hq])
  have go : ∀ {s1 : St} {F : Ft}, Zmt E n ops o s = some (s1, F) → Zem E n ops (Zcn ops []) ex l s1 ((i, F) :: fs) K = some r →
    ∃ s' fs', RunI E n ops (((i, o) :: l).map Prod.fst) s fs' s' ∧ K s' = some r ∧ ZmS (Zcn ops []) ex (fs'.reverse ++ fs) = true := by
   intro s1 F hst hrest
   obtain ⟨s', fs', k1, k2, k3⟩ := Zex l hd' hrest
   refine ⟨s', (i, F) :: fs', ⟨o, F, fs', s1, hi, rfl, Zug hst, fun hl => Ztx hl hst, k1⟩, k2, ?_⟩
   rw [List.reverse_cons, List.append_assoc]
   exact k3
  have doit : ∀ {s : St}, (evDo E n o s fun s1 => Zem E n ops (Zcn ops []) ex l s1 ((i, foot E ops o s s1) :: fs) K) = some r → ∃ s1, opD E n o s = some s1 ∧ Zem E n ops (Zcn ops []) ex l s1 ((i, foot E ops o s s1) :: fs) K = some r := fun he => by
   rw [Zqg] at he
   exact Option.bind_eq_some_iff.1 he
  unfold Zem at he
  cases hg : o.guard with
  | none =>
   rw [hg] at he
   obtain ⟨s1, h1, h2⟩ := doit he
   exact go (F := foot E ops o s s1) (by unfold Zmt; rw [hg]; simp only [h1, Option.map_some]) h2
  | some q =>
   obtain ⟨j, want⟩ := q
   rw [hg] at he
   simp only [] at he
   cases hd0 : ZcM ops j with
   | none => rw [hd0] at he; cases he
   | some d =>
    rw [hd0] at he
    simp only [] at he
    unfold Zkp at he
    rw [hd0] at he
    simp only [] at he
    have hst : ∀ {b' : Option Bool}, Zhg (getN s.slots d) = some b' → Zmt E n ops o s = cond (b' == some want) ((opD E n o s).map fun s1 => (s1, foot E ops o s s1)) (some (s.put o.dst Zjx, Zro s d o.dst)) := fun {b'} e => by
     unfold Zmt
     rw [hg]
     simp only [hd0, e, Option.bind_some]
    split at he
    ·cases he
    ·rename_i hb
     simp only [Zbn] at he
     exact go (by rw [hst hb]; rfl) he
    ·rename_i b hb
     have hst := hst hb
     have hb := ZfT hb
     split at he
     ·rw [Zbn, Zkz hb] at he
      split at he
      ·obtain ⟨s1, h1, h2⟩ := doit he
       exact go (by rw [hst, h1]; rfl) h2
      ·simp only [Zbn] at he
       exact go (by rw [hst]; rfl) he
     ·rw [Zbn, Zkz hb] at he
      split at he
      ·simp only [Zbn] at he
       exact go (by rw [hst]; rfl) he
      ·obtain ⟨s1, h1, h2⟩ := doit he
       exact go (by rw [hst, h1]; rfl) h2
theorem ZiJ : ∀ (l : List Oper) (i : Nat), ops.drop i = l → (∀ q ∈ Zhw l i, ops[q.1]? = some q.2) ∧ (Zhw l i).map Prod.fst = List.range' i l.length
 | [], i, _ => ⟨(fun q hq => by cases hq), rfl⟩
 | o :: l, i, hd => by
  have hi : ops[i]? = some o := by
   have := congrArg (·[0]?) hd
   simpa using this
  have hd' : ops.drop (i + 1) = l := by
   have := congrArg (List.drop 1) hd
   simpa [List.drop_drop] using this
  obtain ⟨h1, h2⟩ := ZiJ l (i + 1) hd'
  refine ⟨fun q hq => ?_, ?_⟩
  ·rcases List.mem_cons.1 hq with rfl | hq
   ·exact hi
   ·exact h1 q hq
  ·show i :: (Zhw l (i + 1)).map Prod.fst = _
   rw [h2]; rfl
theorem Zhh : ∀ (l : List Nat), (∀ i ∈ l, i < ops.length) → (∀ q ∈ Zes ops l, ops[q.1]? = some q.2) ∧ (Zes ops l).map Prod.fst = l
 | [], _ => ⟨(fun q hq => by cases hq), rfl⟩
 | i :: l, h => by
  obtain ⟨h1, h2⟩ := Zhh l fun j hj => h j (by simp [hj])
  have hi : ops[i]? = some (ops[i]'(h i (by simp))) := List.getElem?_eq_getElem _
  have e : Zes ops (i :: l) = (i, ops[i]'(h i (by simp))) :: Zes ops l := by
   show (match ops[i]? with | some o => (i, o) :: Zes ops l | none => Zes ops l) = _
   rw [hi]
  rw [e]
  refine ⟨fun q hq => ?_, by rw [List.map_cons, h2]⟩
  rcases List.mem_cons.1 hq with rfl | hq
  ·exact hi
  ·exact h1 q hq
theorem Zma {ms : List Nat} : ∀ {l : List Nat}, ordB ms l = true → l.Nodup ∧ ∀ k i, [k, i].Sublist l → Nat.testBit (ms.getD k 0) i = false
 | [], _ => ⟨.nil, (fun k i h => by cases h)⟩
 | a :: r, h => by
  unfold ordB at h
  rw [Bool.and_eq_true] at h
  obtain ⟨h1, h2⟩ := Zma h.2
  have ha : ∀ i ∈ r, Nat.testBit (ms.getD a 0) i = false ∧ a ≠ i := fun i hi => by
   have := Zdy h.1 i hi
   simp only [Bool.and_eq_true, Bool.not_eq_true'] at this
   exact ⟨this.1, fun e => by rw [e, Nat.beq_refl] at this; cases this.2⟩
  refine ⟨List.nodup_cons.2 ⟨fun hm => (ha a hm).2 rfl, h1⟩, fun k i hs => ?_⟩
  cases hs with
  | cons _ hs => exact h2 k i hs
  | cons_cons _ hs => exact (ha i (hs.subset (by simp))).1
theorem Zok : ∀ {l : List Nat} {d : Nat}, isIn d l = true → d ∈ l
 | [], d, h => by cases h
 | x :: r, d, h => by
  have h : cond (Nat.beq d x) true (isIn d r) = true := h
  cases e : Nat.beq d x with
  | true => rw [Nat.eq_of_beq_eq_true e]; simp
  | false => rw [e] at h; exact List.mem_cons_of_mem _ (Zok h)
theorem ZiH : ∀ {n : Nat} {l : List Nat}, l.length = n → (∀ i, i < n → i ∈ l) → ∀ i ∈ l, i < n
 | 0, l, h, _, i, hi => by rw [List.length_eq_zero_iff.1 h] at hi; cases hi
 | n + 1, l, h, hall, i, hi => by
  obtain ⟨pre, post, rfl⟩ := List.append_of_mem (hall n (Nat.lt_succ_self n))
  have hlen : (pre ++ post).length = n := by simp only [List.length_append, List.length_cons] at h ⊢; omega
  have hall' : ∀ j, j < n → j ∈ pre ++ post := fun j hj => by
   have := hall j (by omega)
   simp only [List.mem_append, List.mem_cons] at this ⊢
   rcases this with h | rfl | h
   ·exact .inl h
   ·omega
   ·exact .inr h
  have := ZiH hlen hall'
  simp only [List.mem_append, List.mem_cons] at hi
  rcases hi with hi | rfl | hi
  ·have := this i (by simp [hi]); omega
  ·omega
  ·have := this i (by simp [hi]); omega
theorem Zrb (hok : ZfL E ops (Zcn ops []) sk ops 0 = true) : ∀ k i, [k, i].Sublist (List.range' 0 ops.length) → k < i := by
 intro k i h
 have hp : (List.range' 0 ops.length).Pairwise (· < ·) := List.pairwise_lt_range'
 exact (List.pairwise_cons.1 (hp.sublist h)).1 i (by simp)
theorem ZtM (hok : ZfL E ops (Zcn ops []) sk ops 0 = true) : ∀ (i : Nat) (o : Oper), ops[i]? = some o → ∀ k, Nat.testBit ((Zcn ops []).getD i 0) k = true → k < i := by
 intro i
 induction i using Nat.strongRecOn with
 | ind i ih =>
  intro o ho k hk
  have hs := (ZgN ops []).2 i o ho
  simp only [List.length_nil, Nat.zero_add] at hs
  rw [hs] at hk
  obtain ⟨e, he, hb, h⟩ := Zfy hk
  have hlt := Zel ((ZdQ hok i o ho).1) e he hb
  rw [Nat.zero_add] at hlt
  rcases h with rfl | h
  ·exact hlt
  ·have hget : ((Zcn ops []).take i).getD e.on 0 = (Zcn ops []).getD e.on 0 := by
    rw [List.getD_eq_getElem?_getD, List.getD_eq_getElem?_getD, List.getElem?_take, if_pos hlt]
   rw [hget] at h
   obtain ⟨o', ho'⟩ : ∃ o', ops[e.on]? = some o' := ⟨ops[e.on]'(by have := (List.getElem?_eq_some_iff.1 ho).1; omega), List.getElem?_eq_getElem _⟩
   have := ih e.on hlt o' ho' k h
   omega
theorem Zox {arr : Array Oper} : rest arr.toList (Array.replicate arr.size false) = List.range' 0 arr.toList.length := by
 unfold rest
 rw [List.range_eq_range', List.filter_eq_self.2]
 intro x hx
 have : x < arr.size := by simpa using hx
 simp [this]
theorem Zlg {arr : Array Oper} (hok : ZfL E arr.toList (Zcn arr.toList []) sk arr.toList 0 = true) : Ord arr.toList (Array.replicate arr.size false) (List.range' 0 arr.toList.length) := by
 refine ⟨List.nodup_range', fun i => by rw [Zox], fun k i hs => ?_⟩
 have hlt := Zrb hok k i hs
 have hk : k < arr.toList.length := by
  have : k ∈ List.range' 0 arr.toList.length := hs.subset (by simp)
  simpa using this
 cases e : Nat.testBit ((Zcn arr.toList []).getD k 0) i with
 | false => rfl
 | true =>
  have := ZtM hok k _ (List.getElem?_eq_getElem hk) i e
  omega
theorem Zgu {β : Type} {l : List Nat} {s s' : St} {fs : List (Nat × Ft)} {ex : Nat × Nat} (hr : RunI E n ops l s fs s') (hn : l.Nodup) (hf : ZmS (Zcn ops []) ex (fs.reverse ++ []) = true) : Zjf ops ex l fs := by
 rw [List.append_nil] at hf
 have hp := List.pairwise_reverse.1 (ZjI hf)
 have he := hr.fst
 intro k i hs F G hF hG
 exact Zjz (by rw [he]; exact hn) hp k i (by rw [he]; exact hs) F G hF hG
theorem Zrs {i a b : Nat} (h : ZcH i a = ZcH i b) : a = b := by
 unfold ZcH at h
 have e : ∀ x y : Nat, Nat.beq x y = decide (x = y) := fun x y => by
  cases hb : Nat.beq x y with
  | true => rw [Nat.eq_of_beq_eq_true hb]; simp
  | false =>
   refine (decide_eq_false fun hh => ?_).symm
   rw [hh, Nat.beq_refl] at hb; cases hb
 simp only [e, cond_eq_ite, decide_eq_true_eq] at h
 split at h <;> split at h <;> (try split at h) <;> (try split at h) <;> omega
theorem ZcS {i b n : Nat} (hi : i + 1 < n) (hb : b < n) : ZcH i b < n := by
 unfold ZcH
 cases Nat.beq b i with
 | true => exact hi
 | false => cases Nat.beq b (i + 1) with
  | true => exact Nat.lt_of_succ_lt hi
  | false => exact hb
theorem ZeC (i b : Nat) : ZcH i (ZcH i b) = b := by
 have e : ∀ x y : Nat, Nat.beq x y = decide (x = y) := fun x y => by
  cases hb : Nat.beq x y with
  | true => rw [Nat.eq_of_beq_eq_true hb]; simp
  | false =>
   refine (decide_eq_false fun hh => ?_).symm
   rw [hh, Nat.beq_refl] at hb; cases hb
 unfold ZcH
 simp only [e, cond_eq_ite, decide_eq_true_eq]
 split <;> (try split) <;> (try split) <;> (try split) <;> omega
theorem Zrt {i b : Nat} (h : b < i) : ZcH i b = b := by
 have e : ∀ x y : Nat, x ≠ y → Nat.beq x y = false := fun x y hne => by
  cases hb : Nat.beq x y with
  | true => exact (hne (Nat.eq_of_beq_eq_true hb)).elim
  | false => rfl
 unfold ZcH
 rw [e b i (by omega), e b (i + 1) (by omega)]; rfl
theorem Zhi : ∀ (i : Nat) (l : List Blk), (Zmv i l).length = l.length
 | 0, [] => rfl
 | 0, [_] => rfl
 | 0, _ :: _ :: _ => rfl
 | i + 1, [] => rfl
 | i + 1, _ :: r => by show (Zmv i r).length + 1 = _; rw [Zhi i r]; rfl
theorem ZjM : ∀ (i : Nat) (l : List Blk) (j : Nat), i + 1 < l.length → getB (Zmv i l) j = getB l (ZcH i j)
 | 0, [], j, h => by simp at h
 | 0, [_], j, h => by simp at h
 | 0, x :: y :: r, j, _ => by
  cases j with
  | zero => rfl
  | succ j => cases j with
   | zero => rfl
   | succ j => rfl
 | i + 1, [], j, h => by simp at h
 | i + 1, x :: r, j, h => by
  cases j with
  | zero => rfl
  | succ j =>
   have := ZjM i r j (by simpa using h)
   show getB (Zmv i r) j = getB (x :: r) (ZcH (i + 1) (j + 1))
   rw [this]
   have e : ZcH (i + 1) (j + 1) = ZcH i j + 1 := by
    unfold ZcH
    show cond (Nat.beq j i) (i + 1 + 1) (cond (Nat.beq j (i + 1)) (i + 1) (j + 1)) = _
    cases Nat.beq j i <;> cases Nat.beq j (i + 1) <;> rfl
   rw [e]; rfl
def Gh.swap (g : Gh) (i : Nat) : Gh := { g with β := fun b => g.β (ZcH i b) }
theorem CRep.swap {g : Gh} {i : Nat} (hi : i + 1 < g.N) {s : SV} {v : Value} (h : CRep g s v) : CRep (g.swap i) (s.swap1 i) v := by
 cases s with
 | ptr b o =>
  obtain ⟨rfl, hb⟩ := h
  refine ⟨?_, ZcS hi hb⟩
  show _ = Value.pointer (some ⟨g.β (ZcH i (ZcH i b)), o, none⟩)
  rw [ZeC]
 | _ => exact h
theorem QRep.swap {g : Gh} {i : Nat} (hi : i + 1 < g.N) {s : SV} {v : Value} (h : QRep g s v) : QRep (g.swap i) (s.swap1 i) v := by
 cases s with
 | ptr b o => exact CRep.swap (s := .ptr b o) hi h
 | rm b k n c =>
  obtain ⟨e, hb, hn⟩ := h
  refine ⟨?_, ZcS hi hb, hn⟩
  show _ = Value.slice (some ⟨g.β (ZcH i (ZcH i b)), 0, none⟩) n c
  rw [ZeC]; exact e
 | agg _ => obtain ⟨vs, e, k⟩ := h; exact ⟨vs, e, k.imp fun _ _ q => q.of (g := g) (g' := g.swap i) (RO.le_refl _) (fun _ _ q => q)⟩
 | _ => exact h
theorem PRep.swap {g : Gh} {i : Nat} (hi : i + 1 < g.N) {s : SV} {v : Value} (h : PRep g s v) : PRep (g.swap i) (s.swap1 i) v := by
 refine ⟨?_, CRep.swap hi h.2⟩
 cases s <;> exact h.1
theorem SRep.swap {g : Gh} {i : Nat} (hi : i + 1 < g.N) {s : SV} {v : Value} (h : SRep g s v) : SRep (g.swap i) (s.swap i) v := by
 cases s with
 | ptr b o => exact CRep.swap (s := .ptr b o) hi h
 | sl b k n =>
  obtain ⟨c, e, hb, hn⟩ := h
  refine ⟨c, ?_, ZcS hi hb, hn⟩
  show _ = Value.slice (some ⟨g.β (ZcH i (ZcH i b)), 0, none⟩) n c
  rw [ZeC]; exact e
 | eptr b k n q =>
  obtain ⟨e, hb, hn⟩ := h
  refine ⟨?_, ZcS hi hb, hn⟩
  show _ = Value.pointer (some ⟨g.β (ZcH i (ZcH i b)), q.toNat * k.size, none⟩)
  rw [ZeC]; exact e
 | mp b =>
  obtain ⟨e, hb⟩ := h
  refine ⟨?_, ZcS hi hb⟩
  show _ = Value.map (some (g.β (ZcH i (ZcH i b))))
  rw [ZeC]; exact e
 | rm b k n c =>
  obtain ⟨e, hb, hn⟩ := h
  refine ⟨?_, ZcS hi hb, hn⟩
  show _ = Value.slice (some ⟨g.β (ZcH i (ZcH i b)), 0, none⟩) n c
  rw [ZeC]; exact e
 | tup l => obtain ⟨vs, e, k⟩ := h; exact ⟨vs, e, All2.mapL k fun _ _ q => QRep.swap hi q⟩
 | agg l => obtain ⟨vs, e, k⟩ := h; exact ⟨vs, e, All2.mapL k fun _ _ q => PRep.swap hi q⟩
 | func f l => obtain ⟨vs, e, k⟩ := h; exact ⟨vs, e, All2.mapL k fun _ _ q => PRep.swap hi q⟩
 | _ => exact h
theorem Inv.swap {s : St} {g : Gh} {a : Act} {w : World} (h : Inv w0 R0 p g s a w) {i : Nat} (hi : i + 1 < s.heap.length) (hp : p.M ≤ i) : Inv w0 R0 p (g.swap i) (s.swap i) a w := by
 have hN : i + 1 < g.N := by rw [h.n]; exact hi
 refine ⟨?_, h.defers, fun j => ?_, by show _ = (s.slots.map (SV.swap i)).length; rw [List.length_map]; exact h.len⟩
 ·constructor
  ·show g.N = ((Zmv i s.heap).map (Blk.swap i)).length
   rw [List.length_map, Zhi]; exact h.n
  ·exact h.ro
  ·intro j b hj
   replace hj : getB ((Zmv i s.heap).map (Blk.swap i)) j = some b := hj
   have hm : ∀ (l : List Blk) (j : Nat), getB (l.map (Blk.swap i)) j = (getB l j).map (Blk.swap i) := by
    intro l
    induction l with
    | nil => intro j; rfl
    | cons x l ih => intro j; cases j with
     | zero => rfl
     | succ j => exact ih j
   rw [hm, ZjM i s.heap j hi] at hj
   obtain ⟨b', hb', rfl⟩ := Option.map_eq_some_iff.1 hj
   refine ARep.imp (g := g) (h.blk _ b' hb') (fun vs h2 => ?_) fun _ _ e => by subst e; rfl
   cases b' with
   | cells cs =>
    refine All2.mapL (f := SV.swap1 i) (show All2 _ cs vs from h2) fun s v q => ?_
    rcases q with rfl | q
    ·exact .inl rfl
    ·exact .inr (CRep.swap hN q)
   | arr _ _ => exact h2
   | mp _ _ => exact h2
  ·intro j hj o; exact h.sepB _ (ZcS hN hj) o
  ·intro j k hj hk e; exact Zrs (h.inj _ _ (ZcS hN hj) (ZcS hN hk) e)
  ·intro t
   rcases h.tok t with k | ⟨b, n, c, cur, ty, z, e, h1, h2, h3, h4, h5, h6, h7⟩
   ·exact .inl k
   ·exact .inr ⟨b, n, c, cur, ty, z, e, h1, h2, h3, h4, h5, fun j hj => h6 _ (ZcS hN hj), h7⟩
  ·exact h.tokInj
  ·intro j hj; exact h.np _ (ZcS hN hj)
  ·intro b hf
   obtain ⟨k1, k2, k3, k4⟩ := h.fr b hf
   exact ⟨k1, k2, fun j hj => k3 _ (ZcS hN hj), k4⟩
  ·exact h.old
  ·exact h.oldR
  ·exact h.leR
  ·exact h.size
  ·exact h.os
  ·exact h.tape
  ·exact h.output
  ·intro j hj
   obtain ⟨k1, k2⟩ := h.keep j hj
   exact ⟨k1, by show g.β (ZcH i j) = _; rw [Zrt (by omega)]; exact k2⟩
  ·exact h.jk
  ·intro q hq
   have k := h.mo q hq
   exact k.mono rfl k.R (fun j hj => k.β _ (ZcS hN hj)) k.np k.nl k.nφ k.nψ
 ·show SRep _ (getN (s.slots.map (SV.swap i)) j) _
  rw [ZeM _ (show SV.swap i .undef = .undef from rfl)]
  exact (h.slots j).swap hN
theorem ZgB {j : Nat} : ∀ (l : List (Nat × Oper)), (∀ q ∈ ZdF j l, q ∈ l) ∧ (ZdF j l).map Prod.fst = (l.map Prod.fst).filter (fun i => !(Nat.beq i j))
 | [] => ⟨(fun q hq => by cases hq), rfl⟩
 | x :: l => by
  obtain ⟨h1, h2⟩ := ZgB (j := j) l
  have e0 : ZdF j (x :: l) = cond (Nat.beq x.1 j) (ZdF j l) (x :: ZdF j l) := rfl
  cases e : Nat.beq x.1 j with
  | true =>
   rw [e0, e, cond_true]
   refine ⟨fun q hq => List.mem_cons_of_mem _ (h1 q hq), ?_⟩
   rw [h2, List.map_cons, List.filter_cons, e]; rfl
  | false =>
   rw [e0, e, cond_false]
   refine ⟨fun q hq => ?_, ?_⟩
   ·rcases List.mem_cons.1 hq with rfl | hq
    ·exact List.mem_cons_self
    ·exact List.mem_cons_of_mem _ (h1 q hq)
   ·rw [List.map_cons, List.map_cons, List.filter_cons, e, h2]; rfl
theorem Zno {listed : Array Bool} {l : List Nat} {j : Nat} (hsz : listed.size = ops.length) (hj : j < ops.length) (h : Ord ops listed l) : Ord ops (listed.setIfInBounds j true) (l.filter (fun i => !(Nat.beq i j))) := by
 have hsub : (l.filter (fun i => !(Nat.beq i j))).Sublist l := List.filter_sublist
 refine ⟨h.nd.sublist hsub, fun i => ?_, fun k i hs => h.mask k i (hs.trans hsub)⟩
 rw [Zoz (by omega), List.mem_filter, h.mem i]
 unfold rest
 rw [List.mem_filter, List.mem_filter, Bool.and_eq_true]
 exact ⟨fun ⟨⟨a, b⟩, c⟩ => ⟨a, b, c⟩, fun ⟨a, b, c⟩ => ⟨⟨a, b⟩, c⟩⟩
theorem ZgG {j d : Nat} : ∀ {l : List Oper} {i : Nat}, ZrJ ops j d l i = true → ∀ k o, l[k]? = some o → (i + k ≠ j → d ∉ ZcG ops o ∧ o.dst ≠ some d) ∧ ZiI o = true
 | [], i, _, k, o, hk => by simp at hk
 | y :: r, i, h, k, o, hk => by
  unfold ZrJ at h
  simp only [Bool.and_eq_true, Bool.or_eq_true, Bool.not_eq_true'] at h
  obtain ⟨h1, h2, h3⟩ := h
  cases k with
  | zero =>
   obtain rfl : y = o := by simpa using hk
   refine ⟨fun hne => ?_, h2⟩
   rcases h1 with h1 | ⟨h4, h5⟩
   ·exact (hne (Nat.eq_of_beq_eq_true h1)).elim
   ·refine ⟨fun hm => ?_, fun he => ?_⟩
    ·have : isIn d (ZcG ops y) = true := ZdC.2 hm
     rw [this] at h4; cases h4
    ·rw [he] at h5
     simp at h5
  | succ k =>
   have := ZgG h3 k o (by simpa using hk)
   rwa [show i + (k + 1) = i + 1 + k by omega]
theorem ZiE : ∀ {l : List Edge}, Zos l = true → ∀ e ∈ l, Region.binds .any e = false
 | [], _, e, he => by cases he
 | x :: l, h, e, he => by
  unfold Zos at h
  rw [Bool.and_eq_true, Bool.not_eq_true'] at h
  rcases List.mem_cons.1 he with rfl | he
  ·exact h.1
  ·exact ZiE h.2 e he
theorem ZrV {β : Type} {r : β} {K : St → Option β} (hE : ZdW P E R0 p) {id : Nat} {arr : Array Oper} {s : St} {g : Gh} {a : Act} {w : World} (h : Inv w0 R0 p g s a w) {q : First} (hq : ZmT E id arr.toList = some q)
  (hok : ZfL E arr.toList (Zcn arr.toList []) q.j arr.toList 0 = true) (he : Zem E n arr.toList (Zcn arr.toList []) (0, 0) (ZdF q.j (Zhw arr.toList 0)) (s.put (some q.d) ((SV.cst q.c).typed (E.ty q.t))) [] K = some r)
  (hQ : ∀ a' w', On w0 R0 p K r a' w' → Q .normal a' w') : (Code.region id arr true).wp P Q a w := by
 unfold ZmT at hq
 split at hq
 ·cases hq
 rename_i j hj
 split at hq
 ·cases hq
 rename_i o ho
 split at hq
 rotate_left
 ·cases hq
 rename_i c d hop hg hd
 split at hq
 rotate_left
 ·cases hq
 rename_i hck
 cases hq
 simp only [] at hok he
 rw [Bool.and_eq_true] at hck
 obtain ⟨hne, haw⟩ := hck
 have hlt : j < arr.toList.length := (List.getElem?_eq_some_iff.1 ho).1
 have hsz : arr.size = (arr.size - 1) + 1 := by simp at hlt; omega
 have hI : Inv w0 R0 p g s a { w with drawn := w.drawn + 1 } := h.drew
 have hI2 : Inv w0 R0 p g (s.put (some d) ((SV.cst c).typed (E.ty o.type))) (a.put (some d) c) { w with drawn := w.drawn + 1 } := hI.put (SRep.typed (by show c = c; rfl) _) (some d)
 obtain ⟨n1, n2⟩ := ZiJ (ops := arr.toList) arr.toList 0 rfl
 obtain ⟨m1, m2⟩ := ZgB (j := j) (Zhw arr.toList 0)
 have hclosed0 : Zgc arr.toList (Array.replicate arr.size false) := fun i o _ hl => by
  exfalso
  by_cases hi : i < arr.size
  ·simp [hi] at hl
  ·simp [hi] at hl
 have hall : ∀ e ∈ o.after, Region.binds .any e = true → (Array.replicate arr.size false).getD e.on false = true := fun e hem hb => by
  have := ZiE hne e (by simpa using hem)
  rw [this] at hb; cases hb
 have hclosed := ZdR ho hclosed0 hall
 have hord := Zno (by simp) hlt (Zlg hok)
 obtain ⟨s', fs, hrun, hk, hfeet⟩ := Zex (ops := arr.toList) (ZdF j (Zhw arr.toList 0)) (fun q hq => n1 q (m1 q hq)) he
 rw [m2, n2] at hrun
 have hskip : j ∉ rest arr.toList ((Array.replicate arr.size false).setIfInBounds j true) := fun hm => by
  have := (Zda.1 hm).2
  have hj' : j < arr.size := by simpa using hlt
  simp [hj'] at this
 have hlen : ((List.range' 0 arr.toList.length).filter (fun i => !(Nat.beq i j))).length = arr.size - 1 := by
  have h1 : ∀ n, j < n → ((List.range n).filter (fun i => !(Nat.beq i j))).length = n - 1 := by
   intro n hn
   have hmem : j ∈ (List.range n).filter (fun _ => true) := by simp [hn]
   obtain ⟨pre, post, e1, _, e3⟩ := Zhp hmem
   have e4 : (List.range n).filter (fun _ => true) = List.range n := List.filter_eq_self.2 fun _ _ => rfl
   rw [e4] at e1
   have e5 : (List.range n).filter (fun i => !(Nat.beq i j)) = pre ++ post := by rw [← e3]; simp
   have := congrArg List.length e1
   rw [e5]
   simp at this ⊢
   omega
  rw [← List.range_eq_range']
  have := h1 arr.toList.length hlt
  simpa using this
 have key : (Code.region id arr true).wp P (fun e a w => e = .normal ∧ Q .normal a w) a w := by
  refine wp_region_any hE.mixed ?_
  have hoa : arr[j]? = some o := by simpa using ho
  suffices big : wpAny P .any arr (fun e a w => e = .normal ∧ Q .normal a w) (arr.size - 1 + 1) (Array.replicate arr.size false) a { w with drawn := w.drawn + 1 } by
   rw [show arr.size - 1 + 1 = arr.size from hsz.symm] at big; exact big
  refine wpAny_first (i := j) (oi := o) (v := c) hoa (fun k x cs b hx hsel => ?_) (fun c a w hp => by cases hp.1) _ _ _ _ ?_ ?_ (.inl ⟨?_, fun w => ?_⟩) ?_
  ·have := (ZgG haw k x (by simpa using hx)).2
   unfold ZiI at this
   rw [hsel] at this
   cases this
  ·intro k x hx hkj _ _
   obtain ⟨h1, h2⟩ := (ZgG haw k x (by simpa using hx)).1 (by omega)
   have hlk : o.looksAt arr = [] := by
    unfold Oper.looksAt
    rw [hop, hg]
    simp [Op.operands]
   have hlx : d ∉ x.looksAt arr := fun hm => h1 (by
    unfold Oper.looksAt at hm
    unfold ZcG
    rcases List.mem_append.1 hm with hm | hm
    ·refine List.mem_append_left _ ?_
     obtain ⟨y, hy, hyd⟩ := List.mem_filterMap.1 hm
     cases y with
     | tmp t => simp at hyd; subst hyd; exact List.mem_flatMap.2 ⟨.tmp t, hy, by simp [ZtS]⟩
     | _ => cases hyd
    ·refine List.mem_append_right _ ?_
     cases hgx : x.guard with
     | none => rw [hgx] at hm; cases hm
     | some q =>
      obtain ⟨gi, b⟩ := q
      rw [hgx] at hm
      simp only [] at hm ⊢
      unfold ZcM
      have : arr.toList[gi]? = arr[gi]? := by simp
      rw [this]
      cases hax : arr[gi]? with
      | none => rw [hax] at hm; cases hm
      | some z => rw [hax] at hm; exact hm)
   unfold Oper.apart
   rw [hd, hlk]
   simp only [Bool.and_eq_true, Bool.not_eq_true', List.contains_eq_mem]
   refine ⟨⟨by simpa using hlx, by simpa using h2⟩, ?_⟩
   cases x.dst <;> simp
  ·refine mem_ready.2 ⟨by simp [show j < arr.size by simpa using hlt], o, hoa, hall⟩
  ·simp [Region.wanted, hg]
  ·unfold execOp
   simp only [hop]
   rfl
  ·rw [hd]
   have := Zll (n := n) (Q := fun e a w => e = .normal ∧ Q .normal a w) (ops := arr.toList) hE hok (s' := s') (fun a' w' g' hI' => ⟨rfl, hQ a' w' ⟨s', g', hk, hI'⟩⟩) (arr.size - 1) (fs := fs) hskip (by simp) hclosed hord hlen hI2 hrun (Zgu (β := Unit) hrun hord.nd hfeet)
   simpa using this
 exact wp_mono key fun e a w hp => by obtain ⟨rfl, hp⟩ := hp; exact hp
theorem ZmP {β : Type} {r : β} {K : St → Option β} (hE : ZdW P E R0 p) {id : Nat} {arr : Array Oper} {draw : Bool} {s : St} {g : Gh} {a : Act} {w : World} (h : Inv w0 R0 p g s a w) (he : Zkq E n id arr.toList draw s K = some r)
  (hQ : ∀ a' w', On w0 R0 p K r a' w' → Q .normal a' w') : (Code.region id arr draw).wp P Q a w := by
 cases draw with
 | false =>
  refine wp_region_list ?_
  have := ZeJ (Q := Q) (ops := arr.toList) hE arr.toList h he hQ
  simpa using this
 | true =>
  unfold Zkq at he
  simp only [] at he
  split at he
  ·rename_i q hq
   split at he
   ·rename_i hok
    exact ZrV hE h hq hok he hQ
   ·cases he
  split at he
  ·rename_i hok
   have hI : Inv w0 R0 p g s a { w with drawn := w.drawn + 1 } := h.drew
   obtain ⟨n1, n2⟩ := ZiJ (ops := arr.toList) arr.toList 0 rfl
   have hclosed : Zgc arr.toList (Array.replicate arr.size false) := fun j o _ hl => by
    exfalso
    by_cases hj : j < arr.size
    ·simp [hj] at hl
    ·simp [hj] at hl
   have hskip : arr.toList.length ∉ rest arr.toList (Array.replicate arr.size false) := fun hm => by
    have := (Zda.1 hm).1
    omega
   split at he
   ·obtain ⟨s', fs, hrun, hk, hfeet⟩ := Zex (ops := arr.toList) (Zhw arr.toList 0) n1 he
    rw [n2] at hrun
    refine wp_region_any hE.mixed ?_
    have hord := Zlg hok
    have := Zll (n := n) (Q := Q) (ops := arr.toList) hE hok (s' := s') (fun a' w' g' hI' => hQ a' w' ⟨s', g', hk, hI'⟩) arr.size (listed := Array.replicate arr.size false) (fs := fs) hskip (by simp) hclosed hord (by simp) hI hrun (Zgu (β := Unit) hrun hord.nd hfeet)
    simpa using this
   ·rename_i x y ib l hl
    split at he
    ·rename_i hlo
     rw [Bool.and_eq_true] at hlo
     obtain ⟨hlo, hbase⟩ := hlo
     unfold ordOk at hlo
     simp only [Bool.and_eq_true] at hlo
     obtain ⟨l1, l2, l3⟩ := hlo
     replace l1 := Nat.eq_of_beq_eq_true l1
     obtain ⟨l4, l5⟩ := Zma l3
     have l6 : ∀ i, i < arr.toList.length → i ∈ l := fun i hi => Zok (Zdy l2 i (by simpa using hi))
     have l7 := ZiH l1 l6
     obtain ⟨e1, e2⟩ := Zlq he
     obtain ⟨m1, m2⟩ := Zhh (ops := arr.toList) l l7
     obtain ⟨s1, fs1, hrun1, hk1, hfeet1⟩ := Zex (ops := arr.toList) (Zhw arr.toList 0) n1 e1
     obtain ⟨s2, fs2, hrun2, hk2, hfeet2⟩ := Zex (ops := arr.toList) (Zes arr.toList l) m1 e2
     rw [n2] at hrun1
     rw [m2] at hrun2
     have hord := Zlg hok
     have hord2 : Ord arr.toList (Array.replicate arr.size false) l := ⟨l4, fun i => by
      rw [Zox]
      exact ⟨fun hi => by simpa using l7 i hi, fun hi => l6 i (by simpa using hi)⟩, l5⟩
     refine wp_region_any hE.mixed ?_
     have := Ztr (n := n) (Q := Q) (ops := arr.toList) hE hok (s1' := s1) (s2' := s2) (fun a' w' g' hI' => hQ a' w' ⟨s1, g', hk1, hI'⟩) (fun a' w' g' hI' => by
      split at hk2
      ·rename_i hib
       rw [Zbn] at hk2
       exact hQ a' w' ⟨s2.swap ib, _, hk2, hI'.swap (Nat.le_of_ble_eq_true hib) (Nat.le_trans hE.base (Nat.le_of_ble_eq_true hbase))⟩
      ·cases hk2) arr.size (listed := Array.replicate arr.size false) (fs1 := fs1) (fs2 := fs2) hskip (by simp) hclosed hord hord2 (by simp) (by rw [l1]; simp) hI hrun1 hrun2 (Zgu (β := Unit) hrun1 hord.nd hfeet1) (Zgu (β := Unit) hrun2 l4 hfeet2)
     simpa using this
    ·cases he
  ·cases he
end
end Go.Shal
set_option linter.unusedVariables false
namespace Go.Shal
open Go.RowKit
section
variable {P : Program} {E : Env} {w0 : World} {R0 : RO} {p : Pr}
variable {g : Gh} {s : St} {a : Act} {w : World} {β : Type} {r : β}
theorem Zgi (m : Nat) (keep : List Nat) : ∀ (l : List SV) (k i : Nat), getN (ZdD m keep k l) i = .undef ∨ getN (ZdD m keep k l) i = (getN l i).cut m
 | [], k, i => .inl rfl
 | v :: l, k, 0 => by
  show (match keep.any (Nat.beq k) with | true => v.cut m | false => .undef) = _ ∨ (match keep.any (Nat.beq k) with | true => v.cut m | false => .undef) = _
  cases keep.any (Nat.beq k) with
  | true => exact .inr rfl
  | false => exact .inl rfl
 | v :: l, k, i + 1 => Zgi m keep l (k + 1) i
theorem Zfj (m : Nat) (keep : List Nat) : ∀ (l : List SV) (k : Nat), (ZdD m keep k l).length = l.length
 | [], k => rfl
 | v :: l, k => by show (ZdD m keep (k + 1) l).length + 1 = _; rw [Zfj m keep l (k + 1)]; rfl
theorem Inv.cutDown (h : Inv w0 R0 p g s a w) (m : Nat) (hm : p.M ≤ m) (keep : List Nat) :
  Inv w0 R0 p (g.keepN (min m g.N)) { slots := ZdD m keep 0 s.slots, heap := (ZeD m s.heap).map (·.cut m) } a w := by
 have hle : ∀ i, i < (g.keepN (min m g.N)).N → i < g.N := fun i hi => by have : i < min m g.N := hi; omega
 refine ⟨?_, h.defers, fun i => ?_, by show _ = (ZdD m keep 0 s.slots).length; rw [Zfj]; exact h.len⟩
 ·constructor
  ·show min m g.N = ((ZeD m s.heap).map (·.cut m)).length
   rw [List.length_map, ZdI, h.n]
  ·exact h.ro
  ·exact h.cutBlocks m
  ·intro i hi; exact h.sepB i (hle i hi)
  ·intro i j hi hj e; exact h.inj i j (hle i hi) (hle j hj) e
  ·intro t
   rcases h.tok t with k | ⟨b, n, c, cur, ty, z, e, h1, h2, h3, h4, h5, h6, h7⟩
   ·exact .inl k
   ·exact .inr ⟨b, n, c, cur, ty, z, e, h1, h2, h3, h4, h5, fun i hi => h6 i (hle i hi), h7⟩
  ·exact h.tokInj
  ·intro i hi; exact h.np i (hle i hi)
  ·intro b hf
   obtain ⟨k1, k2, k3, k4⟩ := h.fr b hf
   exact ⟨k1, k2, fun i hi => k3 i (hle i hi), k4⟩
  ·exact h.old
  ·exact h.oldR
  ·exact h.leR
  ·exact h.size
  ·exact h.os
  ·exact h.tape
  ·exact h.output
  ·intro i hi; obtain ⟨h1, h2⟩ := h.keep i hi; exact ⟨by show i < min m g.N; omega, h2⟩
  ·exact h.jk
  ·intro q hq
   have k := h.mo q hq
   exact k.mono rfl k.R (fun i hi => k.β i (hle i hi)) k.np k.nl k.nφ k.nψ
 ·rcases Zgi m keep s.slots 0 i with e | e
  ·show SRep _ (getN (ZdD m keep 0 s.slots) i) _
   rw [e]; trivial
  ·show SRep _ (getN (ZdD m keep 0 s.slots) i) _
   rw [e]; exact (h.slots i).cut
theorem Inv.clearAll : ∀ (l : List Nat) {s : St}, Inv w0 R0 p g s a w → Inv w0 R0 p g { s with heap := Shal.clearAll l s.heap } a w
 | [], s, h => h
 | b :: r, s, h => by
  unfold Shal.clearAll
  refine Inv.clearAll r (s := { s with heap := match getB s.heap b with | some x => setB s.heap b x.clear | none => s.heap }) ?_
  cases hb : getB s.heap b with
  | none => exact h
  | some x =>
   refine ⟨?_, h.defers, h.slots, h.len⟩
   refine { h.toMem with n := by rw [Zcx]; exact h.n, blk := fun j b' hj => ?_ }
   by_cases hji : j = b
   ·subst hji
    rw [ZcB hb] at hj
    obtain rfl := Option.some.inj hj
    refine (h.blk j _ hb).imp (fun vs q2 => ?_) fun _ _ e => by subst e; rfl
    cases x with
    | arr _ _ => exact q2
    | mp _ _ => exact q2
    | cells cs =>
     show All2 (fun s v => s = SV.undef ∨ CRep g s v) (cs.map fun _ => SV.undef) vs
     replace q2 : All2 (fun s v => s = SV.undef ∨ CRep g s v) cs vs := q2
     clear hb hj
     induction q2 with
     | nil => exact .nil
     | cons _ _ ih => exact .cons (.inl rfl) ih
   ·rw [Zcr hji] at hj
    exact h.blk j b' hj
theorem ZqN : ∀ (l : List Nat) (h : Nat), minL h l ≤ h ∧ ∀ i ∈ l, minL h l ≤ i
 | [], h => ⟨Nat.le_refl _, fun i hi => by cases hi⟩
 | j :: l, h => by
  have ih := ZqN l (cond (Nat.ble j h) j h)
  have hle : cond (Nat.ble j h) j h ≤ h ∧ cond (Nat.ble j h) j h ≤ j := by
   cases e : Nat.ble j h with
   | true => exact ⟨Nat.le_of_ble_eq_true e, Nat.le_refl _⟩
   | false =>
    have : ¬ j ≤ h := fun q => by rw [Nat.ble_eq_true_of_le q] at e; cases e
    exact ⟨Nat.le_refl _, by show h ≤ j; omega⟩
  refine ⟨Nat.le_trans ih.1 hle.1, fun i hi => ?_⟩
  rcases List.mem_cons.1 hi with rfl | hi
  ·exact Nat.le_trans ih.1 hle.2
  ·exact ih.2 i hi
theorem Inv.swapAll : ∀ (l : List Nat) {s : St} {g : Gh}, Inv w0 R0 p g s a w → (∀ i ∈ l, p.M ≤ i) → ∃ g', Inv w0 R0 p g' (s.swapAll l) a w
 | [], s, g, h, _ => ⟨g, h⟩
 | i :: l, s, g, h, hl => by
  unfold St.swapAll
  cases e : Nat.blt (i + 1) s.heap.length with
  | true => exact Inv.swapAll l (h.swap (Nat.le_of_ble_eq_true e) (hl i (List.mem_cons_self ..))) fun j hj => hl j (List.mem_cons_of_mem _ hj)
  | false => exact Inv.swapAll l h fun j hj => hl j (List.mem_cons_of_mem _ hj)
theorem Inv.apply {nm : Cut} {s' : St} (h : Inv w0 R0 p g s a w) (hm : p.M ≤ nm.floor) (he : nm.apply s = some s') : ∃ g', Inv w0 R0 p g' s' a w := by
 have hml := ZqN nm.swaps nm.heap
 obtain ⟨g, h⟩ := Inv.swapAll nm.swaps h fun i hi => Nat.le_trans hm (hml.2 i hi)
 have hm : p.M ≤ nm.heap := Nat.le_trans hm hml.1
 unfold Cut.apply Cut.apply1 at he
 split at he
 ·rename_i s1 h1
  exact Inv.retags _ (Inv.shuts _ (Inv.clearAll nm.dead (h.cutDown nm.heap hm nm.keep)) h1) he
 ·cases he
def Ex.exit' : Ex → Exit
 | .normal => .normal
 | .exit id => .exit id
 | .ret => .ret
def OnE (w0 : World) (R0 : RO) (p : Pr) (K : Ex → St → Option β) (r : β) (e : Exit) (a : Act) (w : World) : Prop := ∃ x s g, e = Ex.exit' x ∧ K x s = some r ∧ Inv w0 R0 p g s a w
theorem ZhE {nm : Cut} {K : St → Option β} (h : Inv w0 R0 p g s a w) (hm : p.M ≤ nm.floor) (he : ZoV nm s K = some r) : ∃ s' g', K s' = some r ∧ Inv w0 R0 p g' s' a w := by
 unfold ZoV at he
 split at he
 ·rename_i s1 h1
  rw [Zbn] at he
  obtain ⟨g1, i1⟩ := h.apply hm h1
  exact ⟨s1, g1, he, i1⟩
 ·cases he
theorem ZkA {nm : Norm} {e : Ex} {K : Ex → St → Option β} (h : Inv w0 R0 p g s a w) (hm : ∀ t c, look nm.outs t = some c → p.M ≤ c.floor) (he : Zpm nm e s K = some r) : ∃ s' g', K e s' = some r ∧ Inv w0 R0 p g' s' a w := by
 unfold Zpm at he
 split at he
 ·rename_i hc; exact ZhE h (hm _ _ hc) he
 ·cases he
def loops (n : Nat) (β : Type) : LP β := fun lo _ body nm K s => match lo with
 | true => Zij body nm K n s
 | false => s.force fun s => body s fun e s => Zpm nm e s K
def Right (P : Program) (E : Env) (n : Nat) (c : Code) : Prop :=
 ∀ {β : Type} {w0 : World} {R0 : RO} {p : Pr} {s : St} {g : Gh} {a : Act} {w : World} {K : Ex → St → Option β} {r : β}, ZdW P E R0 p → Inv w0 R0 p g s a w → evK E (loops n β) n c s K = some r →
  ∀ Q : Exit → Act → World → Prop, (∀ e a' w', OnE w0 R0 p K r e a' w' → Q e a' w') → c.wp P Q a w
theorem ZlD {E : Env} {n0 : Nat} {c : Code} (hc : Right P E n0 c) (hE : ZdW P E R0 p) {nm : Norm} (hm1 : p.M ≤ nm.into.floor) (hm2 : ∀ t c, look nm.outs t = some c → p.M ≤ c.floor) {K : Ex → St → Option β} {Q : Exit → Act → World → Prop} (hQ : ∀ e a' w', OnE w0 R0 p K r e a' w' → Q e a' w') :
  ∀ (n : Nat) {s : St} {g : Gh} {a : Act} {w : World}, Inv w0 R0 p g s a w → Zij (evK E (loops n0 β) n0 c) nm K n s = some r → Code.rounds P c Q n a w
 | 0, s, g, a, w, h, he => by cases he
 | n + 1, s, g, a, w, h, he => by
  unfold Zij at he
  rw [Zbn] at he
  rw [rounds_succ]
  refine hc hE h he _ fun e a' w' ⟨x, s2, g2, hx, hk, hI⟩ => ?_
  subst hx
  cases x with
  | normal =>
   obtain ⟨s3, g3, hk3, hI3⟩ := ZhE hI hm1 hk
   exact ZlD hc hE hm1 hm2 hQ n hI3 hk3
  | exit id =>
   obtain ⟨s3, g3, hk3, hI3⟩ := ZkA hI hm2 hk
   exact hQ _ _ _ ⟨.exit id, _, _, rfl, hk3, hI3⟩
  | ret =>
   obtain ⟨s3, g3, hk3, hI3⟩ := ZkA hI hm2 hk
   exact hQ _ _ _ ⟨.ret, _, _, rfl, hk3, hI3⟩
theorem ZsW (n : Nat) : ∀ c : Code, Right P E n c := by
 intro c
 induction c with
 | skip =>
  intro β w0 R0 p s g a w K r hE h he Q hQ
  exact wp_skip (hQ _ _ _ ⟨.normal, s, g, rfl, he, h⟩)
 | region id ops draw =>
  intro β w0 R0 p s g a w K r hE h he Q hQ
  exact ZmP hE h (by simpa [evK] using he) fun a' w' ⟨s', g', hk, hI⟩ => hQ _ _ _ ⟨.normal, s', g', rfl, hk, hI⟩
 | seq x y ihx ihy =>
  intro β w0 R0 p s g a w K r hE h he Q hQ
  simp only [evK] at he
  refine wp_seq (ihx hE h he _ fun e a' w' ⟨ex, s', g', hx, hk, hI⟩ => ?_)
  subst hx
  cases ex with
  | normal =>
   simp only [] at hk
   split at hk
   ·exact ihy hE hI hk Q hQ
   ·rename_i nm hnm
    obtain ⟨hm1, hm2⟩ := hE.normAt (.inr hnm)
    obtain ⟨s2, g2, hk2, hI2⟩ := ZhE hI hm1 hk
    replace hk2 : evK E (loops n β) n y s2 (fun e s => Zpm nm e s K) = some r := by simpa only [loops, Zbn] using hk2
    refine ihy hE hI2 (K := fun e s => Zpm nm e s K) hk2 Q fun e a'' w'' ⟨x, s3, g3, hx, hk3, hI3⟩ => ?_
    subst hx
    obtain ⟨s4, g4, hk4, hI4⟩ := ZkA hI3 hm2 hk3
    exact hQ _ _ _ ⟨x, s4, g4, rfl, hk4, hI4⟩
  | exit id => exact hQ _ _ _ ⟨.exit id, s', g', rfl, hk, hI⟩
  | ret => exact hQ _ _ _ ⟨.ret, s', g', rfl, hk, hI⟩
 | cond c x y ihx ihy =>
  intro β w0 R0 p s g a w K r hE h he Q hQ
  simp only [evK] at he
  split at he
  ·cases he
  ·rename_i t hb
   have hv := (h.eval c).asBool hb
   split at he
   ·exact wp_cond_true hv (ihx hE h he Q hQ)
   ·exact wp_cond_false hv (ihy hE h he Q hQ)
 | block id c ih =>
  intro β w0 R0 p s g a w K r hE h he Q hQ
  simp only [evK] at he
  refine wp_block (ih hE h he _ fun e a' w' ⟨ex, s', g', hx, hk, hI⟩ => ?_)
  subst hx
  cases ex with
  | normal => exact hQ _ _ _ ⟨.normal, s', g', rfl, hk, hI⟩
  | ret => exact hQ _ _ _ ⟨.ret, s', g', rfl, hk, hI⟩
  | exit j =>
   show (if j = id then Q .normal a' w' else Q (.exit j) a' w')
   simp only [] at hk
   split at hk
   ·rename_i hb
    rw [if_pos (Nat.eq_of_beq_eq_true hb)]
    exact hQ _ _ _ ⟨.normal, s', g', rfl, hk, hI⟩
   ·rename_i hb
    rw [if_neg (fun e => by subst e; simp at hb)]
    exact hQ _ _ _ ⟨.exit j, s', g', rfl, hk, hI⟩
 | loop c ih =>
  intro β w0 R0 p s g a w K r hE h he Q hQ
  simp only [evK] at he
  split at he
  ·rename_i nm hnm
   obtain ⟨hm1, hm2⟩ := hE.normAt (.inl hnm)
   obtain ⟨s2, g2, hk2, hI2⟩ := ZhE h hm1 he
   exact wp_loop_rounds n (ZlD ih hE hm1 hm2 hQ n hI2 hk2)
  ·cases he
 | exit id =>
  intro β w0 R0 p s g a w K r hE h he Q hQ
  simp only [evK] at he
  exact wp_exit (hQ _ _ _ ⟨.exit id, s, g, rfl, he, h⟩)
 | ret =>
  intro β w0 R0 p s g a w K r hE h he Q hQ
  simp only [evK] at he
  exact wp_ret (hQ _ _ _ ⟨.ret, s, g, rfl, he, h⟩)
 | rangeFunc _ _ _ _ => intro β w0 R0 p s g a w K r hE h he; simp [evK] at he
 | scope c ih =>
  intro β w0 R0 p s g a w K r hE h he Q hQ
  simp only [evK] at he
  refine wp_scope_straight (ih hE h he (Exit.noGoto Q) fun e a' w' ho => ?_)
  obtain ⟨ex, s', g', hx, hk, hI⟩ := ho
  have hq := hQ e a' w' ⟨ex, s', g', hx, hk, hI⟩
  subst hx
  cases ex <;> exact hq
 | label _ =>
  intro β w0 R0 p s g a w K r hE h he Q hQ
  simp only [evK] at he
  exact wp_label (hQ _ _ _ ⟨.normal, s, g, rfl, he, h⟩)
 | goto _ => intro β w0 R0 p s g a w K r hE h he; simp [evK] at he
 | refuse _ => intro β w0 R0 p s g a w K r hE h he; simp [evK] at he
end
end Go.Shal
set_option linter.unusedVariables false
namespace Go.Shal
open Go.RowKit
section
variable {P : Program} {E : Env}
theorem Zgd : ∀ (ks : List Kd) (x : (Kd.struct ks).T), (ZeW ks x).length = ks.length
 | [], _ => rfl
 | k :: ks, x => by show (ZeW ks x.2).length + 1 = _; rw [Zgd ks x.2]; rfl
theorem ZjC {R : RO} {g : Gh} (hR : g.R = R) : ∀ {ks : List Kd} {x : (Kd.struct ks).T} {vs : List Value} (m : Nat), TRep R ks x vs → ∀ i, SRep g (getN (ZeW ks x ++ List.replicate m .undef) i) ((vs ++ List.replicate m undef)[i]?.getD undef)
 | [], x, _, m, rfl, i => by
  have : ∀ (m i : Nat), getN (List.replicate m .undef) i = .undef := by
   intro m
   induction m with
   | zero => intro i; rfl
   | succ m ih => intro i; cases i with
    | zero => rfl
    | succ i => exact ih i
  show SRep g (getN (List.replicate m .undef) i) _
  rw [this]; trivial
 | k :: ks, x, _, m, ⟨v, r, rfl, h1, h2⟩, 0 => by subst hR; exact h1
 | k :: ks, x, _, m, ⟨v, r, rfl, h1, h2⟩, i + 1 => by
  have := ZjC hR m h2 i
  show SRep g (getN (ZeW ks x.2 ++ List.replicate m .undef) i) _
  simpa using this
theorem TRep.length {R : RO} : ∀ {ks : List Kd} {x : (Kd.struct ks).T} {vs : List Value}, TRep R ks x vs → vs.length = ks.length
 | [], _, _, rfl => rfl
 | _ :: _, _, _, ⟨v, r, rfl, _, h⟩ => by simp [TRep.length h]
theorem Zrr {w : World} {R : RO} {fn : Func} {ps : List Kd} {x : (Kd.struct ps).T} {vs : List Value} (hR : ∀ b o v, R b o = some v → w.cell? ⟨b, o, none⟩ = some v) (hx : TRep R ps x vs) :
  Inv w R ⟨fun b => b < w.heap.size, 0, fun _ => 0⟩ { R := R, β := fun _ => 0, ν := fun _ => .slice none 0 0, σ := fun _ => 0, N := 0, φ := fun _ => False, ψ := fun _ _ => False, κ := none } (start fn ps x) { tmps := vs.toArray ++ Array.replicate (fn.ntmps - vs.toArray.size) undef, defers := [] } w := by
 have hlen := hx.length
 refine ⟨⟨rfl, hR, (fun i b h => by cases h), fun i h => absurd h (Nat.not_lt_zero i), fun i j h => absurd h (Nat.not_lt_zero i), fun t => Or.inl ⟨none, 0, rfl⟩, (fun t u b ⟨n, c, z, e, _⟩ => by cases e), fun i h => absurd h (Nat.not_lt_zero i), (fun b h => h.elim False.elim fun ⟨_, h⟩ => h.elim), fun b h => ⟨h, rfl⟩, fun _ _ _ => rfl, RO.le_refl _, Nat.le_refl _, rfl, rfl, rfl, fun i h => absurd h (Nat.not_lt_zero i), fun b m h => h.elim, fun q hq => (nomatch hq)⟩, rfl, fun i => ?_, ?_⟩
 ·show SRep _ (getN (ZeW ps x ++ List.replicate (fn.ntmps - ps.length) SV.undef) i) _
  have := ZjC (g := { R := R, β := fun _ => 0, ν := fun _ => .slice none 0 0, σ := fun _ => 0, N := 0, φ := fun _ => False, ψ := fun _ _ => False, κ := none }) rfl (fn.ntmps - ps.length) hx i
  rw [Array.getD_eq_getD_getElem?]
  have e : (vs.toArray ++ Array.replicate (fn.ntmps - vs.toArray.size) undef)[i]? = (vs ++ List.replicate (fn.ntmps - ps.length) undef)[i]? := by
   rw [← Array.getElem?_toList]
   simp [hlen]
  rw [e]; exact this
 ·show (vs.toArray ++ Array.replicate (fn.ntmps - vs.toArray.size) undef).size = (ZeW ps x ++ List.replicate (fn.ntmps - ps.length) SV.undef).length
  simp [Zgd, hlen]
def Zgp (tmps : Array Value) : ResultVar → Sem Value
 | .tmp t => pure (tmps.getD t undef)
 | .cell a t => do loadVar t (← asAddr (tmps.getD a undef))
theorem Zmo (hE : EnvTy P E) {w0 : World} {R0 : RO} {p : Pr} {g : Gh} {s : St} {a : Act} {w : World} (h : Inv w0 R0 p g s a w) {rv : ResultVar} {sv : SV} (he : ZdL E s rv = some sv) :
  ∃ v, (Zgp a.tmps rv).run P w = .ok v w ∧ SRep g sv v := by
 cases rv with
 | tmp t => cases he; exact ⟨_, rfl, h.slots t⟩
 | cell ad t =>
  obtain ⟨u, hr, hv⟩ := Zii (P := P) hE h.toMem (h.slots ad) he
  refine ⟨u, ?_, hv⟩
  unfold Instr.loadAt at hr
  show (do loadVar t (← asAddr (a.tmps.getD ad undef)) : Sem Value).run P w = _
  generalize a.tmps.getD ad undef = q at *
  cases q with
  | pointer q => cases q with
   | some b => exact hr
   | none => cases hr
  | _ => cases hr
theorem Zmm (hE : EnvTy P E) {w0 : World} {R0 : RO} {p : Pr} {g : Gh} {s : St} {a : Act} {w : World} (h : Inv w0 R0 p g s a w) : ∀ (rs : List Kd) (l : List ResultVar) (x : (Kd.struct rs).T), ZpA E s rs l = some x →
  ∃ vs, (l.mapM (Zgp a.tmps)).run P w = .ok vs w ∧ TRep g.R rs x vs
 | [], [], x, _ => ⟨[], by simp, rfl⟩
 | [], _ :: _, x, he => by cases he
 | _ :: _, [], x, he => by cases he
 | k :: ks, rv :: l, x, he => by
  obtain ⟨sv, e1, he⟩ := Option.bind_eq_some_iff.1 (show ((ZdL E s rv).bind fun v => (v.as k).bind fun x => (ZpA E s ks l).bind fun y => some (x, y)) = some x from he)
  obtain ⟨y, e2, he⟩ := Option.bind_eq_some_iff.1 he
  obtain ⟨z, e3, he⟩ := Option.bind_eq_some_iff.1 he
  cases he
  obtain ⟨v, h1, h2⟩ := Zmo (P := P) hE h e1
  obtain ⟨vs, h3, h4⟩ := Zmm hE h ks l z e3
  refine ⟨v :: vs, ?_, v, vs, rfl, h2.as e2, h4⟩
  rw [List.mapM_cons, Sem.run_bind, h1, Result.andThen_ok, Sem.run_bind, h3]
  rfl
theorem ZnH (hE : EnvTy P E) {w0 : World} {R0 : RO} {p : Pr} {g : Gh} {s : St} {a : Act} {w : World} (h : Inv w0 R0 p g s a w) {fn : Func} {rs : List Kd} {x : (Kd.struct rs).T} (he : ZpA E s rs fn.results.toList = some x) :
  ∃ v, (results fn a.tmps).run P w = .ok v w ∧ RRep g.R rs x v := by
 obtain ⟨vs, h1, h2⟩ := Zmm (P := P) hE h rs _ x he
 have hm : (fn.results.mapM (Zgp a.tmps)).run P w = .ok vs.toArray w := by
  rw [Array.mapM_eq_mapM_toList, Sem.run_map, h1]; rfl
 have hr : (results fn a.tmps).run P w = .ok (if h : vs.toArray.size = 1 then vs.toArray[0] else .tuple vs.toArray) w := by
  have e : results fn a.tmps = (do let vs ← fn.results.mapM (Zgp a.tmps); pure (if h : vs.size = 1 then vs[0] else .tuple vs)) := by
   unfold results
   congr 1
  rw [e, Sem.run_bind, hm]
  rfl
 refine ⟨_, hr, ?_⟩
 have hlen := h2.length
 match rs, x, h2, hlen with
 | [], x, h2, hlen =>
  rw [dif_neg (by rw [List.size_toArray, hlen]; decide)]
  exact ⟨vs, rfl, h2⟩
 | [k], x, ⟨v, r, e, h3, h4⟩, hlen =>
  obtain rfl : r = [] := h4
  subst e
  exact h3
 | k :: k' :: ks, x, h2, hlen =>
  rw [dif_neg (by rw [List.size_toArray, hlen]; simp)]
  exact ⟨vs, rfl, h2⟩
theorem ZsE {f : FuncId} {fn : Func} {c : Code} {C : Con} (hE : EnvOk P E) (hf : P.funcs[f]? = some fn) (hb : fn.body = some c)
  (hC : ∀ n x, ZjG E fn c C.ps C.rs (loops n (Kd.struct C.rs).T) n x = C.f n x) : Zbi P E.globs f C := by
 intro n x r hr w R vs hG hR hx
 rw [← hC] at hr
 unfold ZjG at hr
 rw [Zbn] at hr
 refine calls_of_wp hf hb ?_
 refine ZsW n c ⟨hE, hG, Nat.zero_le _⟩ (Zrr hR hx) hr _ fun e a' w' ⟨ex, s', g', hex, hk, hI⟩ => ?_
 have fin : ZpA E s' C.rs fn.results.toList = some r → a'.defers = [] ∧ ∃ v, (results fn a'.tmps).run P w' = .ok v w' ∧ ∃ (R' : RO) (v' : Value), Ending.returned v = .returned v' ∧ R.le R' ∧ (∀ b o, b < w.heap.size → R' b o = R b o) ∧ (∀ b o v, R' b o = some v → w'.cell? ⟨b, o, none⟩ = some v) ∧
   RRep R' C.rs r v' ∧ Below w.heap.size w w' := by
  intro hres
  obtain ⟨v, h1, h2⟩ := ZnH (P := P) hE.toEnvTy hI hres
  exact ⟨hI.defers, v, h1, g'.R, v, rfl, hI.leR, fun b o hb => hI.oldR b o hb, hI.ro, h2, ⟨hI.os, hI.tape, hI.output, hI.size, fun k hk => (hI.old k hk).2⟩⟩
 subst hex
 cases ex with
 | normal => exact fin hk
 | ret => exact fin hk
 | exit id => cases hk
end
end Go.Shal
set_option linter.unusedVariables false
namespace Go.Shal
open Go.RowKit
theorem ZpP : ∀ {l m : List Nat}, beqN l m = true → l = m
 | [], [], _ => rfl
 | [], _ :: _, h => by cases h
 | _ :: _, [], h => by cases h
 | x :: l, y :: m, h => by
  unfold beqN at h
  rw [Bool.and_eq_true] at h
  rw [Nat.eq_of_beq_eq_true h.1, ZpP h.2]
theorem Zcy : ∀ (n L : Nat), (ZcA L n).length = n
 | 0, _ => rfl
 | n + 1, L => by show (ZcA (L + 1) n).length + 1 = _; rw [Zcy n]
theorem ZeL : ∀ {n L i : Nat}, i < n → (ZcA L n).getD i 0 = L + i
 | 0, _, _, h => absurd h (Nat.not_lt_zero _)
 | n + 1, L, 0, h => rfl
 | n + 1, L, i + 1, h => by
  have := ZeL (n := n) (L := L + 1) (i := i) (by omega)
  show (L :: ZcA (L + 1) n).getD (i + 1) 0 = _
  rw [show (L :: ZcA (L + 1) n).getD (i + 1) 0 = (ZcA (L + 1) n).getD i 0 by simp [List.getD_eq_getElem?_getD], this]; omega
theorem Znf {n L i : Nat} (h : i ∈ ZcA L n) : L ≤ i ∧ i < L + n := by
 induction n generalizing L with
 | zero => cases h
 | succ n ih =>
  rcases List.mem_cons.1 (show i ∈ L :: ZcA (L + 1) n from h) with rfl | h
  ·omega
  ·have := ih h; omega
section
variable {P : Program} {E : Env} {w0 : World} {R0 : RO} {p : Pr}
variable {g : Gh} {s : St} {a : Act} {w : World}
theorem ZdX {ms : List Nat} {tk : Nat → Option Nat} (htm : (tk 1100000000000).isSome = true) (hN : ∀ i ∈ ms, i < g.N) (hb : ZrC g w s.heap) (hbA : ∀ b k xs, getB s.heap b = some (.arr k xs) → ∃ cur ty, w.heap[g.β b]? = some (.cells cur ty (0, 0)) ∧ BRep g (.arr k xs) cur.toList) : ∀ (ps : List Pk), (anyB Pk.inn ps = true → ∀ i pos, i < ms.length → pos < 50 → tk (tokC i pos) = some (tokC (ms.getD i 0) pos)) →
  ∀ {nx : Nat} {b : BT ps}, ZfJ ps s.heap nx = some b → (∀ i, nx ≤ i → i < nx + cntP ps → i < ms.length ∧ ms.getD i 0 = i) →
   ∀ i blk, getB (endB ps b nx) i = some blk → ∃ cur ty, w.heap[g.β (nx + i)]? = some (.cells cur ty (0, 0)) ∧ BRep (g.pick ms tk) blk cur.toList
 | [], _, nx, b, he, _, i, blk, hi => by cases hi
 | .dat _ :: ps, htk, nx, b, he, hm, i, blk, hi => ZdX htm hN hb hbA ps htk he hm i blk hi
 | .own _ :: ps, htk, nx, b, he, hm, i, blk, hi => ZdX htm hN hb hbA ps (fun _ => htk rfl) he hm i blk hi
 | .nil :: ps, htk, nx, b, he, hm, i, blk, hi => ZdX htm hN hb hbA ps htk he hm i blk hi
 | .fn _ :: ps, htk, nx, b, he, hm, i, blk, hi => ZdX htm hN hb hbA ps htk he hm i blk hi
 | .room k :: ps, htk, nx, b, he, hm, i, blk, hi => by
  replace he : (match getB s.heap nx with
   | some (.arr k' xs) => (ZbD (a := .slice k') (b := .slice k) xs).bind fun xs => (ZfJ ps s.heap (nx + 1)).map fun y => (xs, y)
   | _ => none) = some b := he
  have hm : ∀ i, nx ≤ i → i < nx + (1 + cntP ps) → i < ms.length ∧ ms.getD i 0 = i := hm
  split at he
  ·rename_i k' xs hgb
   obtain ⟨xs', e1, he⟩ := Option.bind_eq_some_iff.1 he
   obtain ⟨y, e2, he⟩ := Option.map_eq_some_iff.1 he
   subst he
   obtain ⟨ek, rfl⟩ := Zbr e1
   injection ek with ek
   subst ek
   obtain ⟨cur, ty, hh, hcur⟩ := hbA nx _ _ hgb
   cases i with
   | zero =>
    obtain rfl := Option.some.inj hi
    exact ⟨cur, ty, by simpa using hh, hcur⟩
   | succ i =>
    obtain ⟨cur', ty', k1, k2⟩ := ZdX htm hN hb hbA ps htk e2 (fun j (h1 : nx + 1 ≤ j) (h2 : j < nx + 1 + cntP ps) => hm j (by omega) (show j < nx + (1 + cntP ps) by omega)) i blk hi
    exact ⟨cur', ty', by rw [show nx + (i + 1) = nx + 1 + i by omega]; exact k1, k2⟩
  ·cases he
 | .obj o :: ps, htk, nx, b, he, hm, i, blk, hi => by
  replace he : (match getB s.heap nx with
   | some (.cells cs) => (o.get s.heap cs nx 0).bind fun c => match beqN c.2 (ZcA (nx + 1) o.cnt) && Nat.ble cs.length 50 with
    | true => (ZfJ ps s.heap (nx + (1 + o.cnt))).map fun y => (c.1, y)
    | false => none
   | _ => none) = some b := he
  have hm : ∀ i, nx ≤ i → i < nx + ((1 + o.cnt) + cntP ps) → i < ms.length ∧ ms.getD i 0 = i := hm
  split at he
  ·rename_i cs hgb
   obtain ⟨⟨c, l⟩, e1, he⟩ := Option.bind_eq_some_iff.1 he
   simp only [] at he
   split at he
   ·rename_i hchk
    rw [Bool.and_eq_true] at hchk
    obtain rfl := ZpP hchk.1
    have hle := Nat.le_of_ble_eq_true hchk.2
    obtain ⟨y, e2, he⟩ := Option.map_eq_some_iff.1 he
    subst he
    obtain ⟨hbN, cur, ty, hh, hcur⟩ := hb nx cs hgb
    obtain ⟨m1, m2⟩ := hm nx (Nat.le_refl _) (by omega)
    have hx := Zir hN hb o (fun hh => htk (by show cond o.hasOwn true (anyB Pk.inn ps) = true; rw [hh]; rfl)) (fun _ => htm) e1 hcur (self' := nx) (nx := nx + 1) m1 m2 (by omega) (fun i hi => by
     rw [Zcy] at hi
     obtain ⟨q1, q2⟩ := hm (nx + 1 + i) (by omega) (by omega)
     exact ⟨q1, by rw [q2, ZeL hi]⟩)
    obtain ⟨x1, x2, x3⟩ := hx
    rw [Zcy] at x2
    replace hi : getB ((Blk.cells (o.put c nx 0 (nx + 1)).1 :: (o.put c nx 0 (nx + 1)).2) ++ endB ps y (nx + (1 + (o.put c nx 0 (nx + 1)).2.length))) i = some blk := hi
    rw [x2] at hi
    by_cases hj1 : i < (Blk.cells (o.put c nx 0 (nx + 1)).1 :: (o.put c nx 0 (nx + 1)).2).length
    ·rw [ZbK hj1] at hi
     cases i with
     | zero =>
      obtain rfl := Option.some.inj hi
      exact ⟨cur, ty, by simpa using hh, x1⟩
     | succ i =>
      obtain ⟨cur', ty', k1, k2⟩ := x3 i blk hi
      rw [List.length_cons, x2] at hj1
      rw [ZeL (by omega)] at k1
      exact ⟨cur', ty', by rw [show nx + (i + 1) = nx + 1 + i by omega]; exact k1, k2⟩
    ·obtain ⟨i', rfl⟩ : ∃ i', i = (Blk.cells (o.put c nx 0 (nx + 1)).1 :: (o.put c nx 0 (nx + 1)).2).length + i' := ⟨i - (Blk.cells (o.put c nx 0 (nx + 1)).1 :: (o.put c nx 0 (nx + 1)).2).length, by omega⟩
     rw [ZbJ] at hi
     obtain ⟨cur', ty', k1, k2⟩ := ZdX htm hN hb hbA ps (fun hh => htk (by show cond o.hasOwn true (anyB Pk.inn ps) = true; rw [hh]; cases o.hasOwn <;> rfl)) e2 (fun i h1 h2 => hm i (by omega) (by omega)) i' blk hi
     refine ⟨cur', ty', ?_, k2⟩
     rw [List.length_cons, x2, show nx + (o.cnt + 1 + i') = nx + (1 + o.cnt) + i' by omega]; exact k1
   ·cases he
  ·cases he
theorem Zky {g : Gh} : ∀ (l : List Jc) {cs : List SV} {x : JT l} {vs : List Value}, ZlN l cs = some x → All2 (PRep g) cs vs → All2 (YRep g) (ZlQ l x) vs
 | [], cs, x, vs, he, h => by
  cases cs with
  | nil => cases h; exact .nil
  | cons _ _ => cases he
 | .dat k :: l, cs, x, vs, he, h => by
  cases cs with
  | nil => cases he
  | cons c cs =>
   cases h with
   | cons h1 h2 =>
    cases c with
    | dat k' y =>
     replace he : (match k.agg with
      | true => none
      | false => (ZbD (a := k') (b := k) y).bind fun x => (ZlN l cs).map fun y => (x, y)) = some x := he
     split at he
     ·cases he
     ·rename_i hk
      obtain ⟨y', e1, he⟩ := Option.bind_eq_some_iff.1 he
      obtain ⟨z, e2, he⟩ := Option.map_eq_some_iff.1 he
      cases he
      obtain ⟨rfl, rfl⟩ := Zbr e1
      exact .cons ⟨rfl, h1.2⟩ (Zky l e2 h2)
    | _ => cases he
 | .jk k :: l, cs, x, vs, he, h => by
  cases cs with
  | nil => cases he
  | cons c cs =>
   cases h with
   | cons h1 h2 =>
    cases c with
    | jk k' n =>
     replace he : (match decEq k' k with
      | isTrue _ => (ZlN l cs).map fun y => (n, y)
      | isFalse _ => none) = some x := he
     split at he
     ·rename_i hk _
      subst hk
      obtain ⟨z, e2, he⟩ := Option.map_eq_some_iff.1 he
      cases he
      exact .cons ⟨rfl, h1.2⟩ (Zky l e2 h2)
     ·cases he
    | _ => cases he
def Gh.pickJ (g : Gh) (ms : List Nat) (tk : Nat → Option Nat) : Gh := { g.pick ms tk with ψ := g.ψ }
theorem Zuc (hE : EnvTy P E) (hG : GOk E.globs R0) (h : Inv w0 R0 p g s a w) {ms : List Nat} {tk : Nat → Option Nat} (htm : (tk 1100000000000).isSome = true) (hN : ∀ i ∈ ms, i < g.N) {ms0 : Nat} (hms0 : ∀ i, i < ms0 → i < ms.length ∧ ms.getD i 0 = i) : ∀ (rs : List Rk), (anyB Rk.refOwn rs = true → ∀ i pos, i < ms.length → pos < 50 → tk (tokC i pos) = some (tokC (ms.getD i 0) pos)) → (∀ rk ∈ rs, Rk.inN ms0 rk = true) →
  ∀ {l : List ResultVar} {j nx : Nat} {x : RT rs} {ls : List Nat}, (∀ k, j ≤ k → k < j + rs.length → tk (tokR k) = some (tokR k)) → resG E s rs l j = some (x, ls) → (∀ i, i < ls.length → nx + i < ms.length ∧ ms.getD (nx + i) 0 = ls.getD i 0) →
   ∃ vs, (l.mapM (Zgp a.tmps)).run P w = .ok vs w ∧ All2 (QRep (g.pickJ ms tk)) (resV rs x j nx).1 vs ∧ vs.length = rs.length ∧ (resV rs x j nx).2.length = ls.length ∧ (∀ i ∈ ls, i < s.heap.length) ∧
    ∀ i blk, getB (resV rs x j nx).2 i = some blk → ∃ cur ty, w.heap[g.β (ls.getD i 0)]? = some (.cells cur ty (0, 0)) ∧ BRep (g.pick ms tk) blk cur.toList := by
 intro rs
 induction rs with
 | nil =>
  intro _ _ l j nx x ls _ he _
  cases l with
  | nil => cases he; exact ⟨[], by simp, .nil, rfl, rfl, (fun i hi => by cases hi), fun i blk hi => by cases hi⟩
  | cons _ _ => cases he
 | cons rk rs ih =>
  intro htk hin l j nx x ls htr he hemb
  have htr' : ∀ k, j + 1 ≤ k → k < (j + 1) + rs.length → tk (tokR k) = some (tokR k) := fun k h1 h2 => htr k (by omega) (by simp only [List.length_cons]; omega)
  have step : ∀ {r : ResultVar} {l : List ResultVar} {sv sv' : SV} {vs : List Value}, ZdL E s r = some sv → (l.mapM (Zgp a.tmps)).run P w = .ok vs w → (∀ v, SRep g sv v → QRep (g.pickJ ms tk) sv' v) → ∃ v, ((r :: l).mapM (Zgp a.tmps)).run P w = .ok (v :: vs) w ∧ QRep (g.pickJ ms tk) sv' v := by
   intro r l sv sv' vs h1 h2 h3
   obtain ⟨v, k1, k2⟩ := Zmo (P := P) hE h h1
   refine ⟨v, ?_, h3 v k2⟩
   rw [List.mapM_cons, Sem.run_bind, k1, Result.andThen_ok, Sem.run_bind, h2]
   rfl
  cases l with
  | nil => cases rk <;> cases he
  | cons r l =>
   cases rk with
   | dat k =>
    obtain ⟨sv, e1, he⟩ := Option.bind_eq_some_iff.1 (show (ZdL E s r).bind (fun v => (v.as k).bind fun x => (resG E s rs l (j + 1)).map fun y => ((x, y.1), y.2)) = some (x, ls) from he)
    obtain ⟨y, e2, he⟩ := Option.bind_eq_some_iff.1 he
    obtain ⟨⟨z, ls'⟩, e3, he⟩ := Option.map_eq_some_iff.1 he
    cases he
    obtain ⟨vs, k1, k2, k3, k4, k5, k6⟩ := ih htk (fun rk h => hin rk (List.mem_cons_of_mem _ h)) htr' e3 hemb
    obtain ⟨v, q1, q2⟩ := step (sv' := .dat k y) e1 k1 (fun v hv => hv.as e2)
    exact ⟨v :: vs, q1, .cons q2 k2, by simp [k3], k4, k5, k6⟩
   | own k =>
    replace he : (match ZdL E s r with
     | some (.own t k' xs) => match Nat.beq t (tokR j) with
      | true => (ZbD (a := .slice k') (b := .slice k) xs).bind fun xs => (resG E s rs l (j + 1)).map fun y => ((xs, y.1), y.2)
      | false => none
     | _ => none) = some (x, ls) := he
    split at he
    ·rename_i t k' xs e1
     split at he
     ·rename_i hbeq
      obtain rfl := Nat.eq_of_beq_eq_true hbeq
      obtain ⟨xs', e2, he⟩ := Option.bind_eq_some_iff.1 he
      obtain ⟨⟨z, ls'⟩, e3, he⟩ := Option.map_eq_some_iff.1 he
      cases he
      obtain ⟨ek, rfl⟩ := Zbr e2
      injection ek with ek
      subst ek
      obtain ⟨vs, k1, k2, k3, k4, k5, k6⟩ := ih htk (fun rk h => hin rk (List.mem_cons_of_mem _ h)) htr' e3 hemb
      have htj := htr j (Nat.le_refl _) (by simp only [List.length_cons]; omega)
      obtain ⟨v, q1, q2⟩ := step (sv' := .own (tokR j) k' xs) e1 k1 (fun v hv => by
       obtain ⟨c1, c2, c3⟩ : CRep g (.own (tokR j) k' xs) v := hv
       refine ⟨c1, ?_, ?_⟩
       ·show v = (match tk (tokR j) with | some u => g.ν u | none => .slice none 0 0); rw [htj]; exact c2
       ·show (match tk (tokR j) with | some u => g.σ u | none => 0) = _; rw [htj]; exact c3)
      exact ⟨v :: vs, q1, .cons q2 k2, by simp [k3], k4, k5, k6⟩
     ·cases he
    ·cases he
   | jk k =>
    replace he : (match ZdL E s r with
     | some (.jk k' n) => match decEq k' k with
      | isTrue _ => (resG E s rs l (j + 1)).map fun y => ((n, y.1), y.2)
      | isFalse _ => none
     | some (.cst (.slice none 0 0)) => (resG E s rs l (j + 1)).map fun y => ((0, y.1), y.2)
     | _ => none) = some (x, ls) := he
    split at he
    ·rename_i k' n e1
     split at he
     ·rename_i hk _
      subst hk
      obtain ⟨⟨z, ls'⟩, e3, he⟩ := Option.map_eq_some_iff.1 he
      cases he
      obtain ⟨vs, k1, k2, k3, k4, k5, k6⟩ := ih htk (fun rk h => hin rk (List.mem_cons_of_mem _ h)) htr' e3 hemb
      obtain ⟨v, q1, q2⟩ := step (sv' := .jk k' n) e1 k1 (fun v hv => hv)
      exact ⟨v :: vs, q1, .cons q2 k2, by simp [k3], k4, k5, k6⟩
     ·cases he
    ·rename_i e1
     obtain ⟨⟨z, ls'⟩, e3, he⟩ := Option.map_eq_some_iff.1 he
     cases he
     obtain ⟨vs, k1, k2, k3, k4, k5, k6⟩ := ih htk (fun rk h => hin rk (List.mem_cons_of_mem _ h)) htr' e3 hemb
     obtain ⟨v, q1, q2⟩ := step (sv' := .jk k 0) e1 k1 (fun v hv => .inr ⟨rfl, none, 0, hv⟩)
     exact ⟨v :: vs, q1, .cons q2 k2, by simp [k3], k4, k5, k6⟩
    ·cases he
   | js q =>
    replace he : (match ZdL E s r with
     | some (.agg cs) => (ZlN q cs).bind fun x => (resG E s rs l (j + 1)).map fun y => ((x, y.1), y.2)
     | _ => none) = some (x, ls) := he
    split at he
    ·rename_i cs e1
     obtain ⟨xq, e2, he⟩ := Option.bind_eq_some_iff.1 he
     obtain ⟨⟨z, ls'⟩, e3, he⟩ := Option.map_eq_some_iff.1 he
     cases he
     obtain ⟨vs, k1, k2, k3, k4, k5, k6⟩ := ih htk (fun rk h => hin rk (List.mem_cons_of_mem _ h)) htr' e3 hemb
     obtain ⟨v, q1, q2⟩ := step (sv' := .agg (ZlQ q xq)) e1 k1 (fun v hv => by
      obtain ⟨us, hv1, hv2⟩ := hv
      exact ⟨us, hv1, (Zky q e2 hv2).imp fun _ _ y => y.of (g := g) (g' := g.pickJ ms tk) (RO.le_refl _) (fun _ _ q => q)⟩)
     exact ⟨v :: vs, q1, .cons q2 k2, by simp [k3], k4, k5, k6⟩
    ·cases he
   | rin i k =>
    replace he : (match ZdL E s r with
     | some (.rm b k' n c) => match Nat.beq b i, decEq k' k with
      | true, isTrue _ => (resG E s rs l (j + 1)).map fun y => (((n, c), y.1), y.2)
      | _, _ => none
     | _ => none) = some (x, ls) := he
    split at he
    ·rename_i b k' n c e1
     split at he
     ·rename_i hk hbe _
      subst hk
      obtain rfl := Nat.eq_of_beq_eq_true hbe
      obtain ⟨⟨z, ls'⟩, e3, he⟩ := Option.map_eq_some_iff.1 he
      cases he
      obtain ⟨vs, k1, k2, k3, k4, k5, k6⟩ := ih htk (fun rk h => hin rk (List.mem_cons_of_mem _ h)) htr' e3 hemb
      have hb : b < ms0 := Nat.le_of_ble_eq_true (show Nat.blt b ms0 = true from hin _ (List.mem_cons_self ..))
      obtain ⟨v, q1, q2⟩ := step (sv' := .rm b k' n c) e1 k1 (fun v hv => by
       obtain ⟨c1, c2, c3⟩ : v = .slice (some ⟨g.β b, 0, none⟩) n c ∧ b < g.N ∧ n ≤ c ∧ c ≤ maxLen := hv
       refine ⟨?_, (hms0 b hb).1, c3⟩
       rw [c1]
       show Value.slice (some ⟨g.β b, 0, none⟩) n c = .slice (some ⟨g.β (ms.getD b 0), 0, none⟩) n c
       rw [(hms0 b hb).2])
      exact ⟨v :: vs, q1, .cons q2 k2, by simp [k3], k4, k5, k6⟩
     ·cases he
    ·cases he
   | row k =>
    replace he : (match ZdL E s r with
     | some (.rm b k' n c) => match decEq k' k, getB s.heap b with
      | isTrue _, some (.arr k'' xs) => (ZbD (a := .slice k'') (b := .slice k) xs).bind fun xs => (resG E s rs l (j + 1)).map fun y => (((xs, n, c), y.1), b :: y.2)
      | _, _ => none
     | _ => none) = some (x, ls) := he
    split at he
    ·rename_i b k' n c e1
     split at he
     ·rename_i hk k'' xs hde hgb
      subst hk
      obtain ⟨xs', e2, he⟩ := Option.bind_eq_some_iff.1 he
      obtain ⟨⟨z, ly⟩, e3, he⟩ := Option.map_eq_some_iff.1 he
      cases he
      obtain ⟨ek, rfl⟩ := Zbr e2
      injection ek with ek
      subst ek
      dsimp only at hemb ⊢
      obtain ⟨cur, ty, hh, hcur⟩ : ∃ cur ty, w.heap[g.β b]? = some (.cells cur ty (0, 0)) ∧ BRep g (.arr _ xs) cur.toList := h.toMem.blk b _ hgb
      have h0 := hemb 0 (by simp)
      obtain ⟨vs, k1, k2, k3, k4, k5, k6⟩ := ih htk (fun rk h => hin rk (List.mem_cons_of_mem _ h)) htr' e3 (nx := nx + 1) (fun i hi => by
       have := hemb (i + 1) (by simp; omega)
       rw [show nx + (i + 1) = nx + 1 + i by omega] at this
       exact ⟨this.1, by rw [this.2]; rfl⟩)
      obtain ⟨v, q1, q2⟩ := step (sv' := .rm nx _ n c) e1 k1 (fun v hv => by
       obtain ⟨c1, c2, c3⟩ : v = .slice (some ⟨g.β b, 0, none⟩) n c ∧ b < g.N ∧ n ≤ c ∧ c ≤ maxLen := hv
       refine ⟨?_, by show nx < ms.length; simpa using h0.1, c3⟩
       rw [c1]
       show Value.slice (some ⟨g.β b, 0, none⟩) n c = .slice (some ⟨g.β (ms.getD nx 0), 0, none⟩) n c
       rw [show ms.getD nx 0 = b by simpa using h0.2])
      refine ⟨v :: vs, q1, .cons q2 k2, by simp [k3], ?_, fun i hi => ?_, fun i blk hi => ?_⟩
      ·show (resV rs z (j + 1) (nx + 1)).2.length + 1 = ly.length + 1
       rw [k4]
      ·rcases List.mem_cons.1 hi with rfl | hi
       ·exact ZbT hgb
       ·exact k5 i hi
      ·cases i with
       | zero =>
        obtain rfl := Option.some.inj hi
        exact ⟨cur, ty, by simpa using hh, hcur⟩
       | succ i => exact k6 i blk hi
     ·cases he
    ·cases he
   | ref o =>
    replace he : (match ZdL E s r with
     | some (.ptr b 0) => match getB s.heap b with
      | some (.cells cs) => match Nat.ble cs.length 50 with
       | true => (o.get s.heap cs b 0).bind fun c => (resG E s rs l (j + 1)).map fun y => ((some c.1, y.1), (b :: c.2) ++ y.2)
       | false => none
      | _ => none
     | some (.cst (.pointer none)) => (resG E s rs l (j + 1)).map fun y => ((none, y.1), y.2)
     | _ => none) = some (x, ls) := he
    split at he
    ·rename_i b e1
     split at he
     ·rename_i cs hgb
      split at he
      ·rename_i hle
       obtain ⟨⟨c, lx⟩, e2, he⟩ := Option.bind_eq_some_iff.1 he
       obtain ⟨⟨z, ly⟩, e3, he⟩ := Option.map_eq_some_iff.1 he
       cases he
       dsimp only at hemb ⊢
       obtain ⟨hbN, cur, ty, hh, hcur⟩ := h.toMem.blkAt b cs hgb
       have h0 := hemb 0 (by simp)
       have hx := Zir hN h.toMem.blkAt o (fun hh => htk (by show cond o.hasOwn true (anyB Rk.refOwn rs) = true; rw [hh]; rfl)) (fun _ => htm) e2 hcur (self' := nx) (nx := nx + 1) (by simpa using h0.1) (by simpa using h0.2) (by have := Nat.le_of_ble_eq_true hle; omega) (fun i hi => by
        have := hemb (i + 1) (by simp; omega)
        rw [show nx + (i + 1) = nx + 1 + i by omega] at this
        refine ⟨this.1, ?_⟩
        rw [this.2]
        simp [List.getD_eq_getElem?_getD, List.getElem?_append_left (show i < lx.length from hi)])
       obtain ⟨x1, x2, x3⟩ := hx
       obtain ⟨vs, k1, k2, k3, k4, k5, k6⟩ := ih (fun hh => htk (by show cond o.hasOwn true (anyB Rk.refOwn rs) = true; rw [hh]; cases o.hasOwn <;> rfl)) (fun rk h => hin rk (List.mem_cons_of_mem _ h)) htr' e3 (nx := nx + (1 + (o.put c nx 0 (nx + 1)).2.length)) (fun i hi => by
        have := hemb (1 + lx.length + i) (by simp; omega)
        rw [x2, show nx + (1 + lx.length) + i = nx + (1 + lx.length + i) by omega]
        refine ⟨this.1, ?_⟩
        rw [this.2, List.getD_eq_getElem?_getD, List.getD_eq_getElem?_getD, show 1 + lx.length + i = (b :: lx).length + i by simp; omega, List.getElem?_append_right (by omega)]
        simp)
       obtain ⟨v, q1, q2⟩ := step (sv' := .ptr nx 0) e1 k1 (fun v hv => by
        obtain ⟨c1, c2⟩ : CRep g (.ptr b 0) v := hv
        refine ⟨?_, ?_⟩
        ·rw [c1]
         show Value.pointer (some ⟨g.β b, 0, none⟩) = .pointer (some ⟨g.β (ms.getD nx 0), 0, none⟩)
         rw [show ms.getD nx 0 = b by simpa using h0.2]
        ·show nx < ms.length; simpa using h0.1)
       refine ⟨v :: vs, q1, .cons q2 k2, by simp [k3], ?_, fun i hi => ?_, fun i blk hi => ?_⟩
       ·show ((Blk.cells (o.put c nx 0 (nx + 1)).1 :: (o.put c nx 0 (nx + 1)).2) ++ (resV rs z (j + 1) (nx + (1 + (o.put c nx 0 (nx + 1)).2.length))).2).length = _
        rw [List.length_append, List.length_append, k4, List.length_cons, List.length_cons, x2]
       ·rcases List.mem_append.1 hi with hi | hi
        ·rcases List.mem_cons.1 hi with rfl | hi
         ·exact ZbT hgb
         ·exact Zqx o e2 i hi
        ·exact k5 i hi
       ·replace hi : getB ((Blk.cells (o.put c nx 0 (nx + 1)).1 :: (o.put c nx 0 (nx + 1)).2) ++ (resV rs z (j + 1) (nx + (1 + (o.put c nx 0 (nx + 1)).2.length))).2) i = some blk := hi
        by_cases hj1 : i < (Blk.cells (o.put c nx 0 (nx + 1)).1 :: (o.put c nx 0 (nx + 1)).2).length
        ·rw [ZbK hj1] at hi
         cases i with
         | zero =>
          obtain rfl := Option.some.inj hi
          exact ⟨cur, ty, by simpa using hh, x1⟩
         | succ i =>
          obtain ⟨cur', ty', y1, y2⟩ := x3 i blk hi
          have hjl : i < lx.length := by simp [x2] at hj1; omega
          refine ⟨cur', ty', ?_, y2⟩
          have : ((b :: lx) ++ ly).getD (i + 1) 0 = lx.getD i 0 := by simp [List.getD_eq_getElem?_getD, List.getElem?_append_left hjl]
          rw [this]; exact y1
        ·obtain ⟨i', rfl⟩ : ∃ i', i = (Blk.cells (o.put c nx 0 (nx + 1)).1 :: (o.put c nx 0 (nx + 1)).2).length + i' := ⟨i - (Blk.cells (o.put c nx 0 (nx + 1)).1 :: (o.put c nx 0 (nx + 1)).2).length, by omega⟩
         rw [ZbJ] at hi
         obtain ⟨cur', ty', y1, y2⟩ := k6 i' blk hi
         refine ⟨cur', ty', ?_, y2⟩
         have : ((b :: lx) ++ ly).getD ((Blk.cells (o.put c nx 0 (nx + 1)).1 :: (o.put c nx 0 (nx + 1)).2).length + i') 0 = ly.getD i' 0 := by
          rw [List.getD_eq_getElem?_getD, List.getD_eq_getElem?_getD, show (Blk.cells (o.put c nx 0 (nx + 1)).1 :: (o.put c nx 0 (nx + 1)).2).length = (b :: lx).length by simp [x2], List.getElem?_append_right (by omega)]
          simp
         rw [this]; exact y1
      ·cases he
     ·cases he
    ·rename_i e1
     obtain ⟨⟨z, ls'⟩, e3, he⟩ := Option.map_eq_some_iff.1 he
     cases he
     obtain ⟨vs, k1, k2, k3, k4, k5, k6⟩ := ih (fun hh => htk (by show cond o.hasOwn true (anyB Rk.refOwn rs) = true; rw [hh]; cases o.hasOwn <;> rfl)) (fun rk h => hin rk (List.mem_cons_of_mem _ h)) htr' e3 hemb
     obtain ⟨v, q1, q2⟩ := step (sv' := .cst (.pointer none)) e1 k1 (fun v hv => hv)
     exact ⟨v :: vs, q1, .cons q2 k2, by simp [k3], k4, k5, k6⟩
    ·cases he
theorem ZpF {fn : Func} {ps : List Pk} {x : PT ps} {vs : List Value} (m : Mem w0 R0 p g (ZbF ps x 0 0).2 w) (hx : All2 (SRep g) (ZbF ps x 0 0).1 vs) :
  Inv w0 R0 p g (Ztj fn ps x) { tmps := vs.toArray ++ Array.replicate (fn.ntmps - vs.toArray.size) undef, defers := [] } w := by
 have hlen1 : ∀ (ps : List Pk) (x : PT ps) (j nx : Nat), (ZbF ps x j nx).1.length = ps.length := by
  intro ps
  induction ps with
  | nil => intro x j nx; rfl
  | cons pk ps ih => intro x j nx; cases pk <;> (show (ZbF ps x.2 _ _).1.length + 1 = _; rw [ih]; rfl)
 have hlen : vs.length = ps.length := by rw [← hx.length, hlen1]
 have hun : ∀ (m i : Nat), getN (List.replicate m .undef) i = .undef := by
  intro m
  induction m with
  | zero => intro i; rfl
  | succ m ih => intro i; cases i with
   | zero => rfl
   | succ i => exact ih i
 refine ⟨m, rfl, fun i => ?_, ?_⟩
 ·show SRep _ (getN ((ZbF ps x 0 0).1 ++ List.replicate (fn.ntmps - ps.length) SV.undef) i) _
  rw [Array.getD_eq_getD_getElem?]
  have e : (vs.toArray ++ Array.replicate (fn.ntmps - vs.toArray.size) undef)[i]? = (vs ++ List.replicate (fn.ntmps - ps.length) undef)[i]? := by
   rw [← Array.getElem?_toList]
   simp [hlen]
  rw [e]
  generalize (ZbF ps x 0 0).1 = l at hx
  clear e hlen m hlen1
  induction hx generalizing i with
  | nil =>
   show SRep g (getN (List.replicate _ SV.undef) i) _
   rw [hun]; trivial
  | cons q _ ih => cases i with
   | zero => exact q
   | succ i =>
    have := ih i
    show SRep g (getN _ i) _
    simpa using this
 ·show (vs.toArray ++ Array.replicate (fn.ntmps - vs.toArray.size) undef).size = ((ZbF ps x 0 0).1 ++ List.replicate (fn.ntmps - ps.length) SV.undef).length
  rw [List.length_append, hlen1]
  simp [hlen]
theorem Zrq {f : FuncId} {fn : Func} {c : Code} {C : OCon} (hE : EnvOk P E) (hf : P.funcs[f]? = some fn) (hb : fn.body = some c) (hbase : cntP C.ps ≤ E.base) (hrl : C.rs.length ≤ 1000000)
  (hC : ∀ n x, ZgJ E fn c C.ps C.rs (loops n (RT C.rs × BT C.ps)) n x = C.f n x) : ZbP P E.globs f C := by
 intro n x r hr w0 R0 p g w vs hG hM m hx
 rw [← hC] at hr
 unfold ZgJ at hr
 rw [Zbn] at hr
 have hcnt := ZcR C.ps x 0 0
 have hA : ZdW P E R0 p := ⟨hE, hG, by rw [hM, hcnt]; exact hbase⟩
 refine calls_of_wp hf hb ?_
 refine ZsW n c hA (ZpF m hx) hr _ fun e a' w' ⟨ex, s', g', hex, hk, hI⟩ => ?_
 have fin : Zqq E C.ps C.rs (ZbF C.ps x 0 0).2.length fn.results.toList s' = some r → a'.defers = [] ∧ ∃ v, (results fn a'.tmps).run P w' = .ok v w' ∧ ∃ (g2 : Gh) (v' : Value), Ending.returned v = .returned v' ∧
   Mem w0 R0 p g2 (endB C.ps r.2 0 ++ (resV C.rs r.1 0 (ZbF C.ps x 0 0).2.length).2) w' ∧ ZrE g2 (resV C.rs r.1 0 (ZbF C.ps x 0 0).2.length).1 v' := by
  intro hres
  unfold Zqq at hres
  generalize hNN : (ZbF C.ps x 0 0).2.length = N at *
  split at hres
  ·cases hres
  ·rename_i s1 hs1
   obtain ⟨g1, i1⟩ := Inv.retags _ hI hs1
   obtain ⟨b, e1, hres⟩ := Option.bind_eq_some_iff.1 hres
   obtain ⟨⟨x', ls⟩, e2, hres⟩ := Option.bind_eq_some_iff.1 hres
   split at hres
   ·rename_i hchk
    cases hres
    simp only [Bool.and_eq_true] at hchk
    obtain ⟨hnd, hL, hNL, hNB, hrin⟩ := hchk
    have hnd := ZfX hnd
    have hL : s1.heap.length < 1000000 := Nat.le_of_ble_eq_true hL
    have hNL := Nat.le_of_ble_eq_true hNL
    have hkeep : ∀ i, i < N → i < g1.N ∧ g1.β i = p.b0 i := fun i hi => i1.keep i (by rw [hM]; exact hi)
    let ms := ZcA 0 N ++ ls
    have hmsl : ms.length = N + ls.length := by show (ZcA 0 N ++ ls).length = _; rw [List.length_append, Zcy]
    have hms1 : ∀ i, i < N → i < ms.length ∧ ms.getD i 0 = i := fun i hi => by
     refine ⟨by rw [hmsl]; omega, ?_⟩
     show (ZcA 0 N ++ ls).getD i 0 = i
     have := ZeL (n := N) (L := 0) hi
     rw [Nat.zero_add] at this
     rw [List.getD_eq_getElem?_getD, List.getElem?_append_left (by rw [Zcy]; exact hi), ← List.getD_eq_getElem?_getD]; exact this
    have hms2 : ∀ i, i < ls.length → N + i < ms.length ∧ ms.getD (N + i) 0 = ls.getD i 0 := fun i hi => by
     refine ⟨by rw [hmsl]; omega, ?_⟩
     show (ZcA 0 N ++ ls).getD (N + i) 0 = _
     rw [List.getD_eq_getElem?_getD, List.getD_eq_getElem?_getD, List.getElem?_append_right (by rw [Zcy]; omega), Zcy, Nat.add_sub_cancel_left]
    have lsLt : ∀ (rs : List Rk) {l : List ResultVar} {j : Nat} {x : RT rs} {ls : List Nat}, resG E s1 rs l j = some (x, ls) → ∀ i ∈ ls, i < s1.heap.length := by
     intro rs
     induction rs with
     | nil =>
      intro l j x ls he i hi
      cases l with
      | nil => cases he; cases hi
      | cons _ _ => cases he
     | cons rk rs ih =>
      intro l j x ls he
      cases l with
      | nil => cases rk <;> cases he
      | cons r l =>
       cases rk with
       | dat k =>
        obtain ⟨sv, q1, he⟩ := Option.bind_eq_some_iff.1 (show (ZdL E s1 r).bind (fun v => (v.as k).bind fun x => (resG E s1 rs l (j + 1)).map fun y => ((x, y.1), y.2)) = some (x, ls) from he)
        obtain ⟨y, q2, he⟩ := Option.bind_eq_some_iff.1 he
        obtain ⟨⟨z, ls'⟩, q3, he⟩ := Option.map_eq_some_iff.1 he
        cases he
        exact ih q3
       | own k =>
        replace he : (match ZdL E s1 r with
         | some (.own t k' xs) => match Nat.beq t (tokR j) with
          | true => (ZbD (a := .slice k') (b := .slice k) xs).bind fun xs => (resG E s1 rs l (j + 1)).map fun y => ((xs, y.1), y.2)
          | false => none
         | _ => none) = some (x, ls) := he
        split at he
        ·split at he
         ·obtain ⟨xs', q2, he⟩ := Option.bind_eq_some_iff.1 he
          obtain ⟨⟨z, ls'⟩, q3, he⟩ := Option.map_eq_some_iff.1 he
          cases he
          exact ih q3
         ·cases he
        ·cases he
       | jk k =>
        replace he : (match ZdL E s1 r with
         | some (.jk k' n) => match decEq k' k with
          | isTrue _ => (resG E s1 rs l (j + 1)).map fun y => ((n, y.1), y.2)
          | isFalse _ => none
         | some (.cst (.slice none 0 0)) => (resG E s1 rs l (j + 1)).map fun y => ((0, y.1), y.2)
         | _ => none) = some (x, ls) := he
        split at he
        ·split at he
         ·obtain ⟨⟨z, ls'⟩, q3, he⟩ := Option.map_eq_some_iff.1 he
          cases he
          exact ih q3
         ·cases he
        ·obtain ⟨⟨z, ls'⟩, q3, he⟩ := Option.map_eq_some_iff.1 he
         cases he
         exact ih q3
        ·cases he
       | js q =>
        replace he : (match ZdL E s1 r with
         | some (.agg cs) => (ZlN q cs).bind fun x => (resG E s1 rs l (j + 1)).map fun y => ((x, y.1), y.2)
         | _ => none) = some (x, ls) := he
        split at he
        ·obtain ⟨xq, q2, he⟩ := Option.bind_eq_some_iff.1 he
         obtain ⟨⟨z, ls'⟩, q3, he⟩ := Option.map_eq_some_iff.1 he
         cases he
         exact ih q3
        ·cases he
       | rin i k =>
        replace he : (match ZdL E s1 r with
         | some (.rm b k' n c) => match Nat.beq b i, decEq k' k with
          | true, isTrue _ => (resG E s1 rs l (j + 1)).map fun y => (((n, c), y.1), y.2)
          | _, _ => none
         | _ => none) = some (x, ls) := he
        split at he
        ·split at he
         ·obtain ⟨⟨z, ls'⟩, q3, he⟩ := Option.map_eq_some_iff.1 he
          cases he
          exact ih q3
         ·cases he
        ·cases he
       | row k =>
        replace he : (match ZdL E s1 r with
         | some (.rm b k' n c) => match decEq k' k, getB s1.heap b with
          | isTrue _, some (.arr k'' xs) => (ZbD (a := .slice k'') (b := .slice k) xs).bind fun xs => (resG E s1 rs l (j + 1)).map fun y => (((xs, n, c), y.1), b :: y.2)
          | _, _ => none
         | _ => none) = some (x, ls) := he
        split at he
        ·split at he
         ·rename_i hgb
          obtain ⟨xs', q2, he⟩ := Option.bind_eq_some_iff.1 he
          obtain ⟨⟨z, ls'⟩, q3, he⟩ := Option.map_eq_some_iff.1 he
          cases he
          intro i hi
          rcases List.mem_cons.1 hi with rfl | hi
          ·exact ZbT hgb
          ·exact ih q3 i hi
         ·cases he
        ·cases he
       | ref o =>
        replace he : (match ZdL E s1 r with
         | some (.ptr b 0) => match getB s1.heap b with
          | some (.cells cs) => match Nat.ble cs.length 50 with
           | true => (o.get s1.heap cs b 0).bind fun c => (resG E s1 rs l (j + 1)).map fun y => ((some c.1, y.1), (b :: c.2) ++ y.2)
           | false => none
          | _ => none
         | some (.cst (.pointer none)) => (resG E s1 rs l (j + 1)).map fun y => ((none, y.1), y.2)
         | _ => none) = some (x, ls) := he
        split at he
        ·split at he
         ·rename_i cs hgb
          split at he
          ·obtain ⟨⟨c, lx⟩, q2, he⟩ := Option.bind_eq_some_iff.1 he
           obtain ⟨⟨z, ly⟩, q3, he⟩ := Option.map_eq_some_iff.1 he
           cases he
           intro i hi
           rcases List.mem_append.1 hi with hi | hi
           ·rcases List.mem_cons.1 hi with rfl | hi
            ·exact ZbT hgb
            ·exact Zqx o q2 i hi
           ·exact ih q3 i hi
          ·cases he
         ·cases he
        ·obtain ⟨⟨z, ls'⟩, q3, he⟩ := Option.map_eq_some_iff.1 he
         cases he
         exact ih q3
        ·cases he
    have hmsN : ∀ i ∈ ms, i < g1.N := fun i hi => by
     rcases List.mem_append.1 (show i ∈ ZcA 0 N ++ ls from hi) with hi | hi
     ·have := Znf hi
      exact (hkeep i (by omega)).1
     ·rw [i1.n]; exact lsLt C.rs e2 i hi
    have hms6 : ∀ i ∈ ms, i < 1000000 := fun i hi => by have := hmsN i hi; rw [i1.n] at this; omega
    have hmsl6 : ms.length ≤ 1000000 := by rw [hmsl]; have : N + ls.length ≤ s1.heap.length := hNL; omega
    have htkC : ∀ i pos, i < ms.length → pos < 50 → tkX 2199023255552 4398046511104 ms (tokC i pos) = some (tokC (ms.getD i 0) pos) := fun i pos h1 h2 => ZoF h1 h2 hmsl6
    have htkR : ∀ k, 0 ≤ k → k < 0 + C.rs.length → tkX 2199023255552 4398046511104 ms (tokR k) = some (tokR k) := fun k _ hk => by
     unfold tkX
     rw [show Nat.beq (tokR k) 1100000000000 = false from ZrK (by unfold tokR; omega), show Nat.ble (tokR k) 1099511627775 = false from ZfM (by unfold tokR; omega), Bool.and_false, show Nat.ble 2199023255552 (tokR k) = true from ZeG (by unfold tokR; omega), show Nat.blt (tokR k) 4398046511104 = true from ZhZ (by unfold tokR; omega)]; rfl
    obtain ⟨vs', k1, k2, k3, k4, k5, k6⟩ := Zuc hE.toEnvTy hG i1 (ms := ms) (tk := tkX 2199023255552 4398046511104 ms) rfl hmsN hms1 C.rs (fun _ => htkC) (fun rk h => Zdy hrin rk h) (nx := N) htkR e2 hms2
    have hbk := ZdX (ms := ms) (tk := tkX 2199023255552 4398046511104 ms) rfl hmsN i1.toMem.blkAt (fun b k xs hb => i1.toMem.blk b _ hb) C.ps (fun _ => htkC) e1 (fun i _ hi => hms1 i (by rw [Nat.zero_add, ← hcnt] at hi; exact hi))
    have hel : (endB C.ps b 0).length = N := by rw [ZdM, ← hcnt]
    have m2 : Mem w0 R0 p (g1.pick ms (tkX 2199023255552 4398046511104 ms)) (endB C.ps b 0 ++ (resV C.rs x' 0 N).2) w' := by
     refine i1.toMem.sub hmsN hnd (fun t u v h1 h2 => Zrw (by omega) hms6 hnd h1 h2) (by rw [List.length_append, hel, k4, hmsl]) (fun i blk hi => ?_) i1.old (fun i hi => i1.np i (hmsN i hi)) (fun t u bb ht ⟨nn, cc, zz, he, hlt⟩ => ?_) i1.oldR i1.leR i1.size i1.os i1.tape i1.output (fun i hi => ?_) (fun _ q hq => (i1.mo q hq).np)
     ·by_cases hiN : i < N
      ·rw [ZbK (by rw [hel]; exact hiN)] at hi
       obtain ⟨cur, ty, q1, q2⟩ := hbk i blk hi
       rw [Nat.zero_add] at q1
       exact ARep.of ⟨cur, ty, by rw [(hms1 i hiN).2]; exact q1, q2⟩
      ·obtain ⟨i', rfl⟩ : ∃ i', i = (endB C.ps b 0).length + i' := ⟨i - (endB C.ps b 0).length, by rw [hel]; omega⟩
       rw [ZbJ] at hi
       have hlt : i' < ls.length := by rw [← k4]; exact ZbT hi
       obtain ⟨cur, ty, q1, q2⟩ := k6 i' blk hi
       exact ARep.of ⟨cur, ty, by rw [hel, (hms2 i' hlt).2]; exact q1, q2⟩
     ·rcases i1.tok u with ⟨aa, k, e'⟩ | ⟨b', n', c', cur, ty, z, e', q1, q2, q3, q4, q5, q6, q7⟩
      ·rw [he] at e'; injection e' with _ xx yy; omega
      ·rw [he] at e'; injection e' with xx _ _; injection xx with xx; injection xx with xx; subst xx; exact q7
     ·rw [hM] at hi
      obtain ⟨q1, q2⟩ := hkeep i hi
      obtain ⟨q3, q4⟩ := hms1 i hi
      exact ⟨q3, by rw [q4]; exact q2⟩
    have hm : (fn.results.mapM (Zgp a'.tmps)).run P w' = .ok vs'.toArray w' := by
     rw [Array.mapM_eq_mapM_toList, Sem.run_map, k1]; rfl
    have hr : (results fn a'.tmps).run P w' = .ok (if h : vs'.toArray.size = 1 then vs'.toArray[0] else .tuple vs'.toArray) w' := by
     have e : results fn a'.tmps = (do let vs ← fn.results.mapM (Zgp a'.tmps); pure (if h : vs.size = 1 then vs[0] else .tuple vs)) := by
      unfold results
      congr 1
     rw [e, Sem.run_bind, hm]
     rfl
    have m3 : Mem w0 R0 p (g1.pickJ ms (tkX 2199023255552 4398046511104 ms)) (endB C.ps b 0 ++ (resV C.rs x' 0 N).2) w' := (m2.withJ (ψ' := g1.ψ) (fun _ _ h => h.elim) (fun b n hf => by
     obtain ⟨f1, f2, f3, f4⟩ := i1.fr b (.inr ⟨n, hf⟩)
     obtain ⟨j1, j2, _⟩ := i1.jk b n hf
     exact ⟨⟨f1, f2, fun i hi => f3 _ (hmsN _ (Zcw hi)), fun t hl => let ⟨u, _, hl'⟩ := Zgq hl; f4 u hl'⟩, j1, j2, fun h => h⟩) (fun q hq n => (i1.mo q (ZqW hq).2).nψ n)).1
    refine ⟨hI.defers, _, hr, _, _, rfl, m3, ?_⟩
    have hri : ∀ (l : List SV) (us : List Value), All2 (QRep (g1.pickJ ms (tkX 2199023255552 4398046511104 ms))) l us → ZrE (g1.pickJ ms (tkX 2199023255552 4398046511104 ms)) l (if h : us.toArray.size = 1 then us.toArray[0] else .tuple us.toArray) := by
     intro l us hall
     cases hall with
     | nil => exact ⟨[], rfl, .nil⟩
     | cons q r =>
      cases r with
      | nil => exact q
      | cons q' r' =>
       rw [dif_neg (by simp)]
       exact ⟨_, rfl, .cons q (.cons q' r')⟩
    exact hri _ _ k2
   ·cases hres
 subst hex
 cases ex with
 | normal => exact fin hk
 | ret => exact fin hk
 | exit id => cases hk
end
end Go.Shal
set_option linter.unusedVariables false
namespace Go.Shal
inductive Sh where
 | g (k : Kd) | n | u | d (k : Kd) | o (t : Nat) (k : Kd) | p (b off : Nat) | f (g : FuncId) | s (b : Nat) (k : Kd) (n : Nat) | sn (b : Nat) (k : Kd) | mp (b : Nat) | rn (b : Nat) (k : Kd) | jk (k : Kd) | mo (k : Kd)
@[reducible] def V : List Sh → Type → Type
 | [], τ => τ
 | .d k :: l, τ => k.T × V l τ
 | .g k :: l, τ => k.T × V l τ
 | .o _ k :: l, τ => List k.T × V l τ
 | .u :: l, τ => V l τ
 | .n :: l, τ => V l τ
 | .p _ _ :: l, τ => V l τ
 | .f _ :: l, τ => V l τ
 | .s _ _ _ :: l, τ => V l τ
 | .sn _ _ :: l, τ => Nat × V l τ
 | .rn _ _ :: l, τ => Nat × Nat × V l τ
 | .jk _ :: l, τ => Nat × V l τ
 | .mo k :: l, τ => List k.T × V l τ
 | .mp _ :: l, τ => V l τ
inductive Row where
 | c (l : List Sh) | a (k : Kd) | m (k : IntKind)
@[reducible] def VB : List Row → Type
 | [] => Unit
 | .c b :: r => V b (VB r)
 | .a k :: r => List k.T × VB r
 | .m _ :: r => List (Int × Bool) × VB r
structure Shp where
 slots : List Sh
 heap : List Row
@[reducible] def Shp.T (s : Shp) : Type := V s.slots (VB s.heap)
def encL {σ : Type} : (l : List Sh) → {τ : Type} → V l τ → (List SV → τ → σ) → σ
 | [], _, v, K => K [] v
 | .d k :: l, _, v, K => encL l v.2 fun r t => K (.dat k v.1 :: r) t
 | .g k :: l, _, v, K => encL l v.2 fun r t => K (k.split v.1 ++ r) t
 | .o t k :: l, _, v, K => encL l v.2 fun r t' => K (.own t k v.1 :: r) t'
 | .u :: l, _, v, K => encL l v fun r t => K (.undef :: r) t
 | .n :: l, _, v, K => encL l v fun r t => K (.cst (.pointer none) :: r) t
 | .p b o :: l, _, v, K => encL l v fun r t => K (.ptr b o :: r) t
 | .f g :: l, _, v, K => encL l v fun r t => K (.func g [] :: r) t
 | .s b k n :: l, _, v, K => encL l v fun r t => K (.sl b k n :: r) t
 | .sn b k :: l, _, v, K => encL l v.2 fun r t => K (.sl b k v.1 :: r) t
 | .rn b k :: l, _, v, K => encL l v.2.2 fun r t => K (.rm b k v.1 v.2.1 :: r) t
 | .jk k :: l, _, v, K => encL l v.2 fun r t => K (.jk k v.1 :: r) t
 | .mo k :: l, _, v, K => encL l v.2 fun r t => K (.mo k v.1 :: r) t
 | .mp b :: l, _, v, K => encL l v fun r t => K (.mp b :: r) t
def encB {σ : Type} : (h : List Row) → VB h → (List Blk → σ) → σ
 | [], _, K => K []
 | .c b :: r, v, K => encL b v fun cs t => encB r t fun l => K (.cells cs :: l)
 | .a k :: r, v, K => encB r v.2 fun l => K (.arr k v.1 :: l)
 | .m k :: r, v, K => encB r v.2 fun l => K (.mp k v.1 :: l)
def Shp.enc (s : Shp) (v : s.T) : St := encL s.slots v fun sl t => encB s.heap t fun h => ⟨sl, h⟩
def Zjy (k : Kd) : List SV → Option (k.T × List SV)
 | .dat k' x :: r => (ZbD (a := k') (b := k) x).map fun x => (x, r)
 | _ => none
def Kd.unsp : (k : Kd) → List SV → Option (k.T × List SV)
 | .unit, r => some ((), r)
 | .pair a b, r => (a.unsp r).bind fun x => (b.unsp x.2).bind fun y => some ((x.1, y.1), y.2)
 | .arr _ _, _ => none
 | .np, r => Zix r
 | .nsl, r => ZfU r
 | .rp k, r => Zjy (.rp k) r
 | .tre k, r => (k.unsp r).bind fun x => (Zjy (.slice (.tre k)) x.2).bind fun y => some (⟨x.1, y.1⟩, y.2)
 | .int k, r => Zjy (.int k) r
 | .bool, r => Zjy .bool r
 | .flt, r => Zjy .flt r
 | .str, r => Zjy .str r
 | .slice k, r => Zjy (.slice k) r
theorem ZeU {k : Kd} {cs r : List SV} {x : k.T} (h : Zjy k cs = some (x, r)) : cs = .dat k x :: r := by
 unfold Zjy at h
 split at h
 ·obtain ⟨y, h1, h2⟩ := Option.map_eq_some_iff.1 h
  obtain ⟨e, rfl⟩ := Zbr h1
  subst e
  cases h2; rfl
 ·cases h
theorem Kd.unsp_eq : ∀ (k : Kd) {cs r : List SV} {x : k.T}, k.unsp cs = some (x, r) → cs = k.split x ++ r
 | .unit, cs, r, x, h => by cases h; rfl
 | .pair a b, cs, r, x, h => by
  obtain ⟨⟨y, r1⟩, h1, h⟩ := Option.bind_eq_some_iff.1 (show ((a.unsp cs).bind fun x => (b.unsp x.2).bind fun y => some ((x.1, y.1), y.2)) = some (x, r) from h)
  obtain ⟨⟨z, r2⟩, h2, h⟩ := Option.bind_eq_some_iff.1 h
  cases h
  have e1 := Kd.unsp_eq a h1
  have e2 := Kd.unsp_eq b h2
  dsimp only at e2
  subst e2
  rw [e1]
  show _ = (a.split y ++ b.split z) ++ r2
  rw [List.append_assoc]
 | .arr _ _, cs, r, x, h => by cases h
 | .np, cs, r, x, h => by
  replace h : Zix cs = some (x, r) := h
  unfold Zix at h
  split at h
  ·cases h; rfl
  ·cases h
 | .nsl, cs, r, x, h => by
  replace h : ZfU cs = some (x, r) := h
  unfold ZfU at h
  split at h
  ·cases h; rfl
  ·cases h
 | .tre k, cs, r, x, h => by
  obtain ⟨⟨y, r1⟩, h1, h⟩ := Option.bind_eq_some_iff.1 (show ((k.unsp cs).bind fun x => (Zjy (.slice (.tre k)) x.2).bind fun y => some (Tr.mk x.1 y.1, y.2)) = some (x, r) from h)
  obtain ⟨⟨z, r2⟩, h2, h⟩ := Option.bind_eq_some_iff.1 h
  cases h
  have e1 := Kd.unsp_eq k h1
  have e2 := ZeU h2
  dsimp only at e2
  subst e2
  rw [e1]
  show _ = (k.split y ++ [SV.dat (.slice (.tre k)) z]) ++ r2
  rw [List.append_assoc]; rfl
 | .rp k, cs, r, x, h => ZeU (k := .rp k) h
 | .int k, cs, r, x, h => ZeU (k := .int k) h
 | .bool, cs, r, x, h => ZeU (k := .bool) h
 | .flt, cs, r, x, h => ZeU (k := .flt) h
 | .str, cs, r, x, h => ZeU (k := .str) h
 | .slice k, cs, r, x, h => ZeU (k := .slice k) h
def decL : (l : List Sh) → {τ : Type} → List SV → Option (τ → V l τ)
 | [], _, [] => some fun t => t
 | .u :: l, τ, .undef :: r => decL l (τ := τ) r
 | .n :: l, τ, .cst (.pointer none) :: r => decL l (τ := τ) r
 | .g k :: l, τ, r => (k.unsp r).bind fun x => (decL l (τ := τ) x.2).map fun F t => (x.1, F t)
 | .d k :: l, τ, .dat _ x :: r => (ZbD (b := k) x).bind fun x => (decL l (τ := τ) r).map fun F t => (x, F t)
 | .o t k :: l, τ, .own t' k' xs :: r => match Nat.beq t t' with
  | true => (ZbD (a := .slice k') (b := .slice k) xs).bind fun x => (decL l (τ := τ) r).map fun F t => (x, F t)
  | false => none
 | .p b o :: l, τ, .ptr b' o' :: r => match Nat.beq b b' && Nat.beq o o' with
  | true => decL l (τ := τ) r
  | false => none
 | .f g :: l, τ, .func g' [] :: r => match Nat.beq g g' with
  | true => decL l (τ := τ) r
  | false => none
 | .s b k n :: l, τ, .sl b' k' n' :: r => match decEq k k' with
  | isTrue _ => match Nat.beq b b' && Nat.beq n n' with
   | true => decL l (τ := τ) r
   | false => none
  | isFalse _ => none
 | .sn b k :: l, τ, .sl b' k' n' :: r => match decEq k k' with
  | isTrue _ => match Nat.beq b b' with
   | true => (decL l (τ := τ) r).map fun F t => (n', F t)
   | false => none
  | isFalse _ => none
 | .mo k :: l, τ, .mo k' xs :: r => (ZbD (a := .slice k') (b := .slice k) xs).bind fun x => (decL l (τ := τ) r).map fun F t => (x, F t)
 | .jk k :: l, τ, .jk k' n' :: r => match decEq k k' with
  | isTrue _ => (decL l (τ := τ) r).map fun F t => (n', F t)
  | isFalse _ => none
 | .rn b k :: l, τ, .rm b' k' n' c' :: r => match decEq k k' with
  | isTrue _ => match Nat.beq b b' with
   | true => (decL l (τ := τ) r).map fun F t => (n', c', F t)
   | false => none
  | isFalse _ => none
 | .mp b :: l, τ, .mp b' :: r => match Nat.beq b b' with
  | true => decL l (τ := τ) r
  | false => none
 | _, _, _ => none
def decB : (h : List Row) → List Blk → Option (VB h)
 | [], [] => some ()
 | .c b :: r, .cells cs :: l => (decB r l).bind fun t => (decL b cs).map fun F => F t
 | .a k :: r, .arr k' xs :: l => (decB r l).bind fun t => (ZbD (a := .slice k') (b := .slice k) xs).map fun xs => (xs, t)
 | .m k :: r, .mp k' es :: l => match decEq k k' with
  | isTrue _ => (decB r l).map fun t => (es, t)
  | isFalse _ => none
 | _, _ => none
def Shp.dec (s : Shp) (st : St) : Option s.T := (decB s.heap st.heap).bind fun t => (decL s.slots st.slots).map fun F => F t
theorem Zcv {σ : Type} : ∀ (l : List Sh) {τ : Type} (svs : List SV) (F : τ → V l τ), decL l svs = some F → ∀ (t : τ) (K : List SV → τ → σ), encL l (F t) K = K svs t
 | [], _, [], F, h, t, K => by cases h; rfl
 | [], _, _ :: _, F, h, t, K => by cases h
 | .u :: l, τ, sv :: r, F, h, t, K => by
  cases sv <;> first | (cases h; done) | exact Zcv l r F h t _
 | .g k :: l, τ, svs, F, h, t, K => by
  obtain ⟨⟨x, r⟩, h1, h2⟩ := Option.bind_eq_some_iff.1 (show ((k.unsp svs).bind fun x => (decL l (τ := τ) x.2).map fun F t => (x.1, F t)) = some F by cases svs <;> exact h)
  obtain ⟨G, h3, rfl⟩ := Option.map_eq_some_iff.1 h2
  rw [k.unsp_eq h1]
  exact Zcv l r G h3 t _
 | .n :: l, τ, sv :: r, F, h, t, K => by
  cases sv with
  | cst c => cases c with
   | pointer a => cases a with
    | none => exact Zcv l r F h t _
    | some _ => cases h
   | _ => cases h
  | _ => cases h
 | .d k :: l, τ, sv :: r, F, h, t, K => by
  cases sv with
  | dat k' x =>
   obtain ⟨x', h1, h2⟩ := Option.bind_eq_some_iff.1 (show ((ZbD (b := k) x).bind fun x => (decL l (τ := τ) r).map fun F t => (x, F t)) = some F from h)
   obtain ⟨G, h3, rfl⟩ := Option.map_eq_some_iff.1 h2
   obtain ⟨e, rfl⟩ := Zbr h1
   subst e
   exact Zcv l r G h3 t _
  | _ => cases h
 | .o tk k :: l, τ, sv :: r, F, h, t, K => by
  cases sv with
  | own t' k' xs =>
   replace h : (match Nat.beq tk t' with | true => (ZbD (a := .slice k') (b := .slice k) xs).bind fun x => (decL l (τ := τ) r).map fun F t => (x, F t) | false => none) = some F := h
   split at h
   ·rename_i hb
    obtain rfl := Nat.eq_of_beq_eq_true hb
    obtain ⟨x', h1, h2⟩ := Option.bind_eq_some_iff.1 h
    obtain ⟨G, h3, rfl⟩ := Option.map_eq_some_iff.1 h2
    obtain ⟨e, rfl⟩ := Zbr h1
    injection e with e
    subst e
    exact Zcv l r G h3 t _
   ·cases h
  | _ => cases h
 | .p b o :: l, τ, sv :: r, F, h, t, K => by
  cases sv with
  | ptr b' o' =>
   replace h : (match Nat.beq b b' && Nat.beq o o' with | true => decL l (τ := τ) r | false => none) = some F := h
   split at h
   ·rename_i hb
    rw [Bool.and_eq_true] at hb
    obtain rfl := Nat.eq_of_beq_eq_true hb.1
    obtain rfl := Nat.eq_of_beq_eq_true hb.2
    exact Zcv l r F h t _
   ·cases h
  | _ => cases h
 | .f g :: l, τ, sv :: r, F, h, t, K => by
  cases sv with
  | func g' cs => cases cs with
   | nil =>
    replace h : (match Nat.beq g g' with | true => decL l (τ := τ) r | false => none) = some F := h
    split at h
    ·rename_i hb
     obtain rfl := Nat.eq_of_beq_eq_true hb
     exact Zcv l r F h t _
    ·cases h
   | cons _ _ => cases h
  | _ => cases h
 | .s b k n :: l, τ, sv :: r, F, h, t, K => by
  cases sv with
  | sl b' k' n' =>
   replace h : (match decEq k k' with | isTrue _ => (match Nat.beq b b' && Nat.beq n n' with | true => decL l (τ := τ) r | false => none) | isFalse _ => none) = some F := h
   split at h
   ·rename_i hk _
    subst hk
    split at h
    ·rename_i hb
     rw [Bool.and_eq_true] at hb
     obtain rfl := Nat.eq_of_beq_eq_true hb.1
     obtain rfl := Nat.eq_of_beq_eq_true hb.2
     exact Zcv l r F h t _
    ·cases h
   ·cases h
  | _ => cases h
 | .sn b k :: l, τ, sv :: r, F, h, t, K => by
  cases sv with
  | sl b' k' n' =>
   replace h : (match decEq k k' with | isTrue _ => (match Nat.beq b b' with | true => (decL l (τ := τ) r).map fun F t => (n', F t) | false => none) | isFalse _ => none) = some F := h
   split at h
   ·rename_i hk _
    subst hk
    split at h
    ·rename_i hb
     obtain rfl := Nat.eq_of_beq_eq_true hb
     obtain ⟨G, h3, rfl⟩ := Option.map_eq_some_iff.1 h
     exact Zcv l r G h3 t _
    ·cases h
   ·cases h
  | _ => cases h
 | .s _ _ _ :: _, _, [], _, h, _, _ => by cases h
 | .sn _ _ :: _, _, [], _, h, _, _ => by cases h
 | .rn _ _ :: _, _, [], _, h, _, _ => by cases h
 | .jk _ :: _, _, [], _, h, _, _ => by cases h
 | .mo _ :: _, _, [], _, h, _, _ => by cases h
 | .mo k :: l, τ, sv :: r, F, h, t, K => by
  cases sv with
  | mo k' xs =>
   obtain ⟨x', h1, h2⟩ := Option.bind_eq_some_iff.1 (show ((ZbD (a := .slice k') (b := .slice k) xs).bind fun x => (decL l (τ := τ) r).map fun F t => (x, F t)) = some F from h)
   obtain ⟨G, h3, rfl⟩ := Option.map_eq_some_iff.1 h2
   obtain ⟨e, rfl⟩ := Zbr h1
   injection e with e
   subst e
   exact Zcv l r G h3 t _
  | _ => cases h
 | .jk k :: l, τ, sv :: r, F, h, t, K => by
  cases sv with
  | jk k' n' =>
   replace h : (match decEq k k' with | isTrue _ => (decL l (τ := τ) r).map fun F t => (n', F t) | isFalse _ => none) = some F := h
   split at h
   ·rename_i hk _
    subst hk
    obtain ⟨G, h3, rfl⟩ := Option.map_eq_some_iff.1 h
    exact Zcv l r G h3 t _
   ·cases h
  | _ => cases h
 | .rn b k :: l, τ, sv :: r, F, h, t, K => by
  cases sv with
  | rm b' k' n' c' =>
   replace h : (match decEq k k' with | isTrue _ => (match Nat.beq b b' with | true => (decL l (τ := τ) r).map fun F t => (n', c', F t) | false => none) | isFalse _ => none) = some F := h
   split at h
   ·rename_i hk _
    subst hk
    split at h
    ·rename_i hb
     obtain rfl := Nat.eq_of_beq_eq_true hb
     obtain ⟨G, h3, rfl⟩ := Option.map_eq_some_iff.1 h
     exact Zcv l r G h3 t _
    ·cases h
   ·cases h
  | _ => cases h
 | .mp _ :: _, _, [], _, h, _, _ => by cases h
 | .mp b :: l, τ, sv :: r, F, h, t, K => by
  cases sv with
  | mp b' =>
   replace h : (match Nat.beq b b' with | true => decL l (τ := τ) r | false => none) = some F := h
   split at h
   ·rename_i hb
    obtain rfl := Nat.eq_of_beq_eq_true hb
    exact Zcv l r F h t _
   ·cases h
  | _ => cases h
 | .u :: _, _, [], _, h, _, _ => by cases h
 | .n :: _, _, [], _, h, _, _ => by cases h
 | .d _ :: _, _, [], _, h, _, _ => by cases h
 | .o _ _ :: _, _, [], _, h, _, _ => by cases h
 | .p _ _ :: _, _, [], _, h, _, _ => by cases h
 | .f _ :: _, _, [], _, h, _, _ => by cases h
theorem ZhF {σ : Type} : ∀ (h : List Row) (l : List Blk) (v : VB h), decB h l = some v → ∀ K : List Blk → σ, encB h v K = K l
 | [], [], v, h, K => rfl
 | [], _ :: _, v, h, K => by cases h
 | .c b :: r, [], v, h, K => by cases h
 | .a k :: r, [], v, h, K => by cases h
 | .m k :: r, [], v, h, K => by cases h
 | .m k :: r, blk :: l, v, h, K => by
  cases blk with
  | cells _ => cases h
  | arr _ _ => cases h
  | mp k' es =>
   replace h : (match decEq k k' with | isTrue _ => (decB r l).map fun t => (es, t) | isFalse _ => none) = some v := h
   split at h
   ·rename_i hk _
    subst hk
    obtain ⟨t, h1, rfl⟩ := Option.map_eq_some_iff.1 h
    show encB r t (fun l => K (.mp k es :: l)) = _
    rw [ZhF r l t h1]
   ·cases h
 | .c b :: r, blk :: l, v, h, K => by
  cases blk with
  | arr _ _ => cases h
  | mp _ _ => cases h
  | cells cs =>
   obtain ⟨t, h1, h2⟩ := Option.bind_eq_some_iff.1 (show ((decB r l).bind fun t => (decL b cs).map fun F => F t) = some v from h)
   obtain ⟨F, h3, rfl⟩ := Option.map_eq_some_iff.1 h2
   show encL b (F t) (fun cs t => encB r t fun l => K (.cells cs :: l)) = _
   rw [Zcv b cs F h3 t, ZhF r l t h1]
 | .a k :: r, blk :: l, v, h, K => by
  cases blk with
  | cells _ => cases h
  | mp _ _ => cases h
  | arr k' xs =>
   obtain ⟨t, h1, h2⟩ := Option.bind_eq_some_iff.1 (show ((decB r l).bind fun t => (ZbD (a := .slice k') (b := .slice k) xs).map fun xs => (xs, t)) = some v from h)
   obtain ⟨ys, h3, rfl⟩ := Option.map_eq_some_iff.1 h2
   obtain ⟨e, rfl⟩ := Zbr h3
   injection e with e
   subst e
   show encB r t (fun l => K (.arr k' xs :: l)) = _
   rw [ZhF r l t h1]
theorem Shp.dec_enc {s : Shp} {st : St} {v : s.T} (h : s.dec st = some v) : st = s.enc v := by
 obtain ⟨t, h1, h2⟩ := Option.bind_eq_some_iff.1 (show ((decB s.heap st.heap).bind fun t => (decL s.slots st.slots).map fun F => F t) = some v from h)
 obtain ⟨F, h3, rfl⟩ := Option.map_eq_some_iff.1 h2
 unfold Shp.enc
 rw [Zcv s.slots st.slots F h3 t, ZhF s.heap st.heap t h1]
def pcs (E : Env) : Code → List (Bool × Code × Norm)
 | .seq a b => pcs E a ++ pcs E b ++ (match look E.cuts (key b) with
  | some nm => [(false, b, nm)]
  | none => [])
 | .cond _ a b => pcs E a ++ pcs E b
 | .block _ c => pcs E c
 | .scope c => pcs E c
 | .loop c => pcs E c ++ (match look E.loops (key c) with
  | some nm => [(true, c, nm)]
  | none => [])
 | _ => []
theorem ZlB {β : Type} {E : Env} {n : Nat} {lp : LP β} : ∀ (c : Code), (∀ x ∈ pcs E c, ∀ s K, lp x.1 (key x.2.1) (evK E lp n x.2.1) x.2.2 K s = loops n β x.1 (key x.2.1) (evK E lp n x.2.1) x.2.2 K s) →
  ∀ s K, evK E lp n c s K = evK E (loops n β) n c s K := by
 intro c
 induction c with
 | seq a b iha ihb =>
  intro h s K
  have ha := iha fun x hx => h x (by simp [pcs, hx])
  have hb := ihb fun x hx => h x (by simp [pcs, hx])
  simp only [evK]
  rw [ha]
  congr 1
  funext e s
  cases e with
  | normal =>
   simp only []
   cases hc : look E.cuts (key b) with
   | none => exact hb s K
   | some nm =>
    simp only []
    congr 1
    funext s
    have := h (false, b, nm) (by simp [pcs, hc]) s K
    simp only at this
    rw [this]
    rw [show evK E lp n b = evK E (loops n β) n b from funext fun s => funext fun K => hb s K]
  | _ => rfl
 | cond t a b iha ihb =>
  intro h s K
  simp only [evK]
  rw [iha (fun x hx => h x (by simp [pcs, hx])), ihb (fun x hx => h x (by simp [pcs, hx]))]
 | block id c ih =>
  intro h s K
  simp only [evK]
  exact ih (fun x hx => h x (by simpa [pcs] using hx)) s _
 | scope c ih =>
  intro h s K
  simp only [evK]
  exact ih (fun x hx => h x (by simpa [pcs] using hx)) s _
 | loop c ih =>
  intro h s K
  have hc := ih fun x hx => h x (by simp [pcs, hx])
  simp only [evK]
  cases hl : look E.loops (key c) with
  | none => rfl
  | some nm =>
   simp only []
   congr 1
   funext s
   have := h (true, c, nm) (by simp [pcs, hl]) s K
   simp only at this
   rw [this]
   rw [show evK E lp n c = evK E (loops n β) n c from funext fun s => funext fun K => hc s K]
 | _ => intro h s K; simp only [evK]
theorem ZlA {E : Env} {fn : Func} {c : Code} {ps rs : List Kd} {lp : LP (Kd.struct rs).T} {n : Nat} {x : (Kd.struct ps).T}
  (h : ∀ y ∈ pcs E c, ∀ s K, lp y.1 (key y.2.1) (evK E lp n y.2.1) y.2.2 K s = loops n (Kd.struct rs).T y.1 (key y.2.1) (evK E lp n y.2.1) y.2.2 K s) :
  ZjG E fn c ps rs (loops n (Kd.struct rs).T) n x = ZjG E fn c ps rs lp n x := by
 unfold ZjG
 rw [Zbn, Zbn]
 exact (ZlB c h _ _).symm
theorem Zbc {β : Type} {body : St → (Ex → St → Option β) → Option β} {nm : Norm} {K : Ex → St → Option β} {sh : Shp} {b : (sh.T → Option β) → sh.T → Option β} {l : Nat → sh.T → Option β}
  (h0 : ∀ v, l 0 v = none) (h1 : ∀ m v, l (m + 1) v = b (l m) v)
  (hb : ∀ m v, Zij body nm K (m + 1) (sh.enc v) = b (fun v => Zij body nm K m (sh.enc v)) v) : ∀ m v, Zij body nm K m (sh.enc v) = l m v
 | 0, v => (h0 v).symm
 | m + 1, v => by
  rw [hb, h1]
  congr 1
  funext v
  exact Zbc h0 h1 hb m v
@[reducible] def allP {α : Type} (p : α → Prop) : List α → Prop
 | [] => True
 | x :: r => p x ∧ allP p r
theorem Zft {α : Type} {p : α → Prop} : ∀ {l : List α}, allP p l → ∀ x ∈ l, p x
 | _ :: _, h, x, hx => by
  rcases List.mem_cons.1 hx with rfl | hx
  ·exact h.1
  ·exact Zft h.2 x hx
def sub : List Nat → Code → Code
 | [], c => c
 | 0 :: l, .seq a _ => sub l a
 | _ :: l, .seq _ b => sub l b
 | 0 :: l, .cond _ a _ => sub l a
 | _ :: l, .cond _ _ b => sub l b
 | _ :: l, .block _ c => sub l c
 | _ :: l, .loop c => sub l c
 | _ :: l, .scope c => sub l c
 | _, c => c
def Kd.isZero : (k : Kd) → k.T → Bool
 | .int _, x => decide (x = 0)
 | .bool, x => !x
 | .flt, n => Nat.beq n 0
 | .str, xs => xs.isEmpty
 | .slice _, xs => xs.isEmpty
 | .unit, _ => true
 | .pair a b, x => a.isZero x.1 && b.isZero x.2
 | .arr n k, xs => Nat.beq xs.length n && allB k.isZero xs
 | .np, _ => true
 | .nsl, _ => true
 | .rp _, _ => false
 | .tre k, x => k.isZero x.val && x.sub.isEmpty
theorem Kd.isZero_eq : ∀ {k : Kd} {x : k.T}, k.isZero x = true → x = k.zero
 | .int _, x, h => of_decide_eq_true h
 | .bool, x, h => by cases x <;> first | rfl | cases h
 | .flt, n, h => Nat.eq_of_beq_eq_true h
 | .str, xs, h => by cases xs <;> first | rfl | cases h
 | .slice k, xs, h => by cases xs <;> first | rfl | cases h
 | .unit, _, _ => rfl
 | .pair a b, x, h => by
  unfold Kd.isZero at h
  rw [Bool.and_eq_true] at h
  exact Prod.ext (Kd.isZero_eq h.1) (Kd.isZero_eq h.2)
 | .np, _, _ => rfl
 | .nsl, _, _ => rfl
 | .rp _, _, h => by cases h
 | .tre k, ⟨x, l⟩, h => by
  unfold Kd.isZero at h
  rw [Bool.and_eq_true] at h
  obtain rfl := Kd.isZero_eq (k := k) h.1
  obtain rfl : l = [] := by
   have := h.2
   cases l with
   | nil => rfl
   | cons _ _ => cases this
  rfl
 | .arr n k, xs, h => by
  unfold Kd.isZero at h
  rw [Bool.and_eq_true] at h
  have h1 := Nat.eq_of_beq_eq_true h.1
  show xs = List.replicate n k.zero
  exact List.eq_replicate_iff.2 ⟨h1, fun x hx => Kd.isZero_eq (Zdy h.2 x hx)⟩
def Zic (P : Program) : List Field → Kd → Nat → Bool
 | [], .unit, _ => true
 | f :: r, .pair a b, o => Nat.beq f.offset o && ((match P.info? f.type with
  | some inf => Nat.beq inf.size a.size
  | none => false) && ((P.underlying f.type).isSome && ((Zev P f.type == a.agg) && Zic P r b (o + a.size))))
 | _, _, _ => false
theorem Zid {P : Program} : ∀ {l : List Field} {k : Kd} {o : Nat}, Zic P l k o = true →
  ∀ j, (j < l.length → ∃ q f, k.fieldAt j = some (q, f)) ∧ ∀ q f, k.fieldAt j = some (q, f) → ∃ fld inf, l[j]? = some fld ∧ fld.offset = o + q ∧ P.info? fld.type = some inf ∧ inf.size = f.size ∧ (P.underlying fld.type).isSome = true ∧ Zev P fld.type = f.agg
 | [], .unit, o, h, j => ⟨fun hj => by simp at hj, fun q f e => by cases e⟩
 | f :: r, .pair a b, o, h, j => by
  unfold Zic at h
  simp only [Bool.and_eq_true] at h
  obtain ⟨h1, h2, h3, h4, h5⟩ := h
  cases j with
  | zero =>
   refine ⟨fun _ => ⟨0, a, rfl⟩, fun q f' e => ?_⟩
   cases e
   split at h2
   ·rename_i inf hi
    exact ⟨f, inf, rfl, by simpa using Nat.eq_of_beq_eq_true h1, hi, Nat.eq_of_beq_eq_true h2, h3, by simpa using h4⟩
   ·cases h2
  | succ j =>
   have ih := Zid h5 j
   refine ⟨fun hj => ?_, fun q f' e => ?_⟩
   ·obtain ⟨q, f', e⟩ := ih.1 (by simpa using hj)
    exact ⟨a.size + q, f', by simp [Kd.fieldAt, e]⟩
   ·obtain ⟨⟨q', f''⟩, e1, e2⟩ := Option.map_eq_some_iff.1 (show (b.fieldAt j).map (fun (o, k) => (a.size + o, k)) = some (q, f') from e)
    cases e2
    obtain ⟨fld, inf, k1, k2, k3⟩ := ih.2 q' f' e1
    exact ⟨fld, inf, by simpa using k1, by rw [k2]; omega, k3⟩
def kokB (P : Program) (t : TypeId) : Kd → Bool
 | .int k => match P.underlying t with
  | some (.int k') => decide (k' = k)
  | _ => false
 | .bool => match P.underlying t with
  | some .bool => true
  | _ => false
 | .flt => match P.underlying t with
  | some (.float .f64) => true
  | _ => false
 | .str => match P.underlying t with
  | some .string => true
  | _ => false
 | .slice _ => match P.underlying t with
  | some (.slice _) => true
  | _ => false
 | .np => match P.underlying t with
  | some (.pointer _) => true
  | _ => false
 | .arr n k => match P.underlying t with
  | some (.array n' e) => Nat.beq n' n && ((match P.info? e with
   | some inf => Nat.beq inf.size k.size
   | none => false) && ((P.underlying e).isSome && (Zev P e == k.agg)))
  | _ => false
 | .nsl => false
 | .rp _ => false
 | .tre k => match P.underlying t with
  | some (.struct fs) => Zic P fs.toList (.pair k (.pair (.slice (.tre k)) .unit)) 0
  | _ => false
 | .unit => match P.underlying t with
  | some (.struct fs) => Zic P fs.toList .unit 0
  | _ => false
 | .pair a b => match P.underlying t with
  | some (.struct fs) => Zic P fs.toList (.pair a b) 0
  | _ => false
theorem ZlR {P : Program} {t : TypeId} {k : Kd} (h : kokB P t k = true) : KOk P t k := by
 have chain : ∀ {k : Kd} {fs : Array Field}, Zic P fs.toList k 0 = true → ∀ j, (j < fs.size → ∃ o f, k.fieldAt j = some (o, f)) ∧ ∀ o f, k.fieldAt j = some (o, f) → ZhV P fs j o f := fun {k fs} h j => by
  have := Zid h j
  refine ⟨fun hj => this.1 (by simpa using hj), fun o f e => ?_⟩
  obtain ⟨fld, inf, k1, k2, k3⟩ := this.2 o f e
  exact ⟨fld, inf, by simpa using k1, by simpa using k2, k3⟩
 cases k with
 | int k =>
  simp only [kokB] at h
  split at h
  ·rename_i hu; obtain rfl := of_decide_eq_true h; exact hu
  ·cases h
 | bool => simp only [kokB] at h; split at h <;> first | assumption | cases h
 | flt => simp only [kokB] at h; split at h <;> first | assumption | cases h
 | str => simp only [kokB] at h; split at h <;> first | assumption | cases h
 | slice k =>
  simp only [kokB] at h
  split at h
  ·rename_i e hu; exact ⟨e, hu⟩
  ·cases h
 | np =>
  simp only [kokB] at h
  split at h
  ·rename_i e hu; exact ⟨e, hu⟩
  ·cases h
 | nsl => cases h
 | rp k => cases h
 | tre k =>
  simp only [kokB] at h
  split at h
  ·rename_i fs hu
   refine ⟨fs, hu, fun j => ?_⟩
   have := chain h j
   have e : (Kd.tre k).fieldAt j = (Kd.pair k (.pair (.slice (.tre k)) .unit)).fieldAt j := by
    match j with
    | 0 => rfl
    | 1 => rfl
    | j + 2 => rfl
   rw [e]; exact this
  ·cases h
 | arr n k =>
  simp only [kokB] at h
  split at h
  ·rename_i n' e hu
   simp only [Bool.and_eq_true] at h
   obtain ⟨h1, h2, h3, h4⟩ := h
   obtain rfl := Nat.eq_of_beq_eq_true h1
   split at h2
   ·rename_i inf hi
    exact ⟨e, inf, hu, hi, Nat.eq_of_beq_eq_true h2, h3, by simpa using h4⟩
   ·cases h2
  ·cases h
 | unit =>
  simp only [kokB] at h
  split at h
  ·rename_i fs hu; exact ⟨fs, hu, chain h⟩
  ·cases h
 | pair a b =>
  simp only [kokB] at h
  split at h
  ·rename_i fs hu; exact ⟨fs, hu, chain h⟩
  ·cases h
def tyB (P : Program) (t : Nat) (i : TyInfo) : Bool :=
 match P.info? t with
 | some inf => Nat.beq inf.size i.kd.size && (Nat.beq inf.bytes i.bytes && ((kokB P t i.kd && ((!i.kd.flat || eqB P t i.kd) && (!i.kd.two.isSome || eqAB P t))) && match inf.zero with
  | some z => match i.kd.ofVal z with
   | some x => i.kd.isZero x
   | none => false
  | none => false))
 | none => false
theorem ZsM {P : Program} {t : Nat} {i : TyInfo} (h : tyB P t i = true) : ∃ inf z, TyOk P t i inf z := by
 unfold tyB at h
 split at h
 ·rename_i inf hi
  simp only [Bool.and_eq_true] at h
  obtain ⟨h1, h2, ⟨h3, hq, hqa⟩, h4⟩ := h
  split at h4
  ·rename_i z hz
   split at h4
   ·rename_i x hx
    exact ⟨inf, z, hi, Nat.eq_of_beq_eq_true h1, Nat.eq_of_beq_eq_true h2, hz, by rw [hx, Kd.isZero_eq h4], ZlR h3, fun hf => by simpa [hf] using hq, fun hf => by simpa [hf] using hqa⟩
   ·cases h4
  ·cases h4
 ·cases h
def envB (P : Program) (E : Env) : Bool :=
 E.tys.all (fun x => tyB P x.1 x.2) && (E.elems.all (fun x => match P.underlying x.1 with
  | some (.slice e) => Nat.beq e x.2
  | _ => false) && ((E.ptrs.all fun x => match P.underlying x.1 with
  | some (.pointer e) => Nat.beq e x.2
  | _ => false) && ((E.maps.all fun x => match P.underlying x.1 with
  | some (.map kt et) => (match P.underlying kt with
   | some (.int k) => decide (k = x.2)
   | _ => false) && (match look E.tys et with
   | some i => decide (i.kd = .bool)
   | none => false)
  | _ => false) && E.lays.all fun x => kokB P x.1 x.2)))
theorem Zdn {α : Type} : ∀ {l : List (Nat × α)} {i : Nat} {x : α}, look l i = some x → (i, x) ∈ l
 | [], _, _, h => by cases h
 | (j, y) :: r, i, x, h => by
  unfold look at h
  cases e : Nat.beq j i with
  | true =>
   rw [e] at h
   obtain rfl := Nat.eq_of_beq_eq_true e
   cases h
   simp
  | false => rw [e] at h; exact List.mem_cons_of_mem _ (Zdn h)
theorem ZaA {P : Program} {E : Env} (h : envB P E = true) : EnvTy P E := by
 unfold envB at h
 simp only [Bool.and_eq_true, List.all_eq_true] at h
 obtain ⟨h1, h2, h3, h4, h5⟩ := h
 refine ⟨fun t i e => ZsM (h1 _ (Zdn e)), fun t i e => ?_, fun t i e => ?_, fun t k e => ?_, fun t k e => ZlR (h5 _ (Zdn e))⟩
 ·have := h2 _ (Zdn e)
  simp only at this
  split at this
  ·rename_i e' hu
   rw [hu, Nat.eq_of_beq_eq_true this]
  ·cases this
 ·have := h3 _ (Zdn e)
  simp only at this
  split at this
  ·rename_i e' hu
   rw [hu, Nat.eq_of_beq_eq_true this]
  ·cases this
 ·have := h4 _ (Zdn e)
  simp only at this
  split at this
  ·rename_i kt et hu
   rw [Bool.and_eq_true] at this
   obtain ⟨q1, q2⟩ := this
   split at q1
   ·rename_i k' hk
    obtain rfl := of_decide_eq_true q1
    split at q2
    ·rename_i i hi
     exact ⟨kt, et, i, hu, hk, hi, of_decide_eq_true q2⟩
    ·cases q2
   ·cases q1
  ·cases this
def fnB (P : Program) (f : FuncId) : Bool :=
 match P.funcs[f]? with
 | some fn => fn.body.isSome && !(fn.name == "runtime.NumGoroutine")
 | none => false
theorem Zof {P : Program} {f : FuncId} (h2 : fnB P f = true) : FnOk P f := by
 unfold fnB at h2
 split at h2
 ·rename_i fn hf
  simp only [Bool.and_eq_true, Bool.not_eq_true'] at h2
  exact ⟨fn, hf, h2.1, h2.2⟩
 ·cases h2
def normB (E : Env) : Bool :=
 allB (fun x : Nat × Norm => Nat.ble E.base x.2.into.floor && allB (fun c : Nat × Cut => Nat.ble E.base c.2.floor) x.2.outs) (E.loops ++ E.cuts)
theorem Zbk {P : Program} {E : Env} (ht : EnvTy P E) {G : ZhW} (hg : E.globs = G) {lc : List (Nat × Con)} (hlc : E.cons = lc) (hc : allP (fun x => (Zbi P G x.1 x.2 ∧ fnB P x.1 = true) ∨ ZrD P x.1 x.2) lc)
  {lo : List (Nat × List OCon)} (hlo : E.objs = lo) (ho : allP (fun x => allP (fun C => ZbP P G x.1 C) x.2 ∧ fnB P x.1 = true) lo) (hn : normB E = true) (hm : P.follows .mixedOrders = true) : EnvOk P E := by
 subst hlc hg hlo
 refine ⟨ht, fun f C e => ?_, fun f Cs e => ?_, hm, fun {k nm} hk => ?_⟩
 ·rcases Zft hc (f, C) (Zdn e) with ⟨h1, h2⟩ | h1
  ·exact .inl ⟨h1, Zof h2⟩
  ·exact .inr h1
 ·obtain ⟨h1, h2⟩ := Zft ho (f, Cs) (Zdn e)
  exact ⟨fun C hC => Zft h1 C hC, Zof h2⟩
 ·have hmem : (k, nm) ∈ E.loops ++ E.cuts := by
   rcases hk with hk | hk
   ·exact List.mem_append_left _ (Zdn hk)
   ·exact List.mem_append_right _ (Zdn hk)
  have := Zdy hn _ hmem
  rw [Bool.and_eq_true] at this
  refine ⟨Nat.le_of_ble_eq_true this.1, fun t c hc => ?_⟩
  exact Nat.le_of_ble_eq_true (Zdy this.2 _ (Zdn hc))
theorem Zdx {P : Program} {G : ZhW} {f : FuncId} {ps rs : List Kd} {F : Nat → Nat → (Kd.struct ps).T → Option (Kd.struct rs).T} (h : ∀ m, Zbi P G f ⟨ps, rs, fun n x => F n m x⟩) : Zbi P G f ⟨ps, rs, fun n x => F n n x⟩ :=
 fun n x r hr => h n n x r hr
theorem ZiW {P : Program} {G : ZhW} {f : FuncId} {ps : List Pk} {rs : List Rk} {F : Nat → Nat → PT ps → Option (RT rs × BT ps)} (h : ∀ m, ZbP P G f ⟨ps, rs, fun n x => F n m x⟩) : ZbP P G f ⟨ps, rs, fun n x => F n n x⟩ :=
 fun n x r hr => h n n x r hr
theorem ZaS {P : Program} {E : Env} {f : FuncId} {fn : Func} {c : Code} {C : Con} (hE : EnvOk P E) (hf : P.funcs[f]? = some fn) (hb : fn.body = some c) (lp : Nat → LP (Kd.struct C.rs).T) {l : List (Bool × Code × Norm)} (hl : pcs E c = l)
  (hp : ∀ n, allP (fun y : Bool × Code × Norm => ∀ s K, lp n y.1 (key y.2.1) (evK E (lp n) n y.2.1) y.2.2 K s = loops n (Kd.struct C.rs).T y.1 (key y.2.1) (evK E (lp n) n y.2.1) y.2.2 K s) l)
  (hC : ∀ n x, ZjG E fn c C.ps C.rs (lp n) n x = C.f n x) : Zbi P E.globs f C :=
 ZsE hE hf hb fun n x => (ZlA (hl ▸ Zft (hp n))).trans (hC n x)
theorem Zko {E : Env} {fn : Func} {c : Code} {ps : List Pk} {rs : List Rk} {lp : LP (RT rs × BT ps)} {n : Nat} {x : PT ps}
  (h : ∀ y ∈ pcs E c, ∀ s K, lp y.1 (key y.2.1) (evK E lp n y.2.1) y.2.2 K s = loops n (RT rs × BT ps) y.1 (key y.2.1) (evK E lp n y.2.1) y.2.2 K s) :
  ZgJ E fn c ps rs (loops n (RT rs × BT ps)) n x = ZgJ E fn c ps rs lp n x := by
 unfold ZgJ
 rw [Zbn, Zbn]
 exact (ZlB c h _ _).symm
theorem Zbl {P : Program} {E : Env} {f : FuncId} {fn : Func} {c : Code} {C : OCon} (hE : EnvOk P E) (hf : P.funcs[f]? = some fn) (hb : fn.body = some c) (hbase : Nat.ble (cntP C.ps) E.base = true) (hrl : Nat.ble C.rs.length 1000000 = true) (lp : Nat → LP (RT C.rs × BT C.ps)) {l : List (Bool × Code × Norm)} (hl : pcs E c = l)
  (hp : ∀ n, allP (fun y : Bool × Code × Norm => ∀ s K, lp n y.1 (key y.2.1) (evK E (lp n) n y.2.1) y.2.2 K s = loops n (RT C.rs × BT C.ps) y.1 (key y.2.1) (evK E (lp n) n y.2.1) y.2.2 K s) l)
  (hC : ∀ n x, ZgJ E fn c C.ps C.rs (lp n) n x = C.f n x) : ZbP P E.globs f C :=
 Zrq hE hf hb (Nat.le_of_ble_eq_true hbase) (Nat.le_of_ble_eq_true hrl) fun n x => (Zko (hl ▸ Zft (hp n))).trans (hC n x)
def us : Nat → List Sh → List Sh
 | 0, l => l
 | n + 1, l => .u :: us n l
def Kd.lvs : Kd → List Sh
 | .unit => []
 | .pair a b => a.lvs ++ b.lvs
 | .tre k => k.lvs ++ [.d (.slice (.tre k))]
 | .np => [.n]
 | .nsl => [.n]
 | k => [.d k]
def expG : List Sh → List Sh
 | [] => []
 | .g k :: r => k.lvs ++ expG r
 | h :: r => h :: expG r
def ZtI : List Sh → Nat → List Nat
 | [], _ => []
 | .u :: r, i => ZtI r (i + 1)
 | _ :: r, i => i :: ZtI r (i + 1)
def ZsD : List Sh → Nat → List (Nat × Kd)
 | [], _ => []
 | .d k :: r, i => (i, k) :: ZsD r (i + 1)
 | _ :: r, i => ZsD r (i + 1)
def retS : List Sh → Nat → List (Nat × Nat × Kd)
 | [], _ => []
 | .o t k :: r, i => (i, t, k) :: retS r (i + 1)
 | _ :: r, i => retS r (i + 1)
def allU : List Sh → Bool
 | [] => true
 | .u :: r => allU r
 | _ => false
def ZrP : List Row → Nat → List Nat
 | [], _ => []
 | .c l :: r, b => cond (allU l) (b :: ZrP r (b + 1)) (ZrP r (b + 1))
 | _ :: r, b => ZrP r (b + 1)
def cshR : List Row → Nat → List (Nat × Nat × Kd)
 | [], _ => []
 | .c l :: r, b => (ZsD (expG l) 0).map (fun q => (b, q.1, q.2)) ++ cshR r (b + 1)
 | _ :: r, b => cshR r (b + 1)
def creR : List Row → Nat → List (Nat × Nat × Nat × Kd)
 | [], _ => []
 | .c l :: r, b => (retS (expG l) 0).map (fun q => (b, q.1, q.2.1, q.2.2)) ++ creR r (b + 1)
 | _ :: r, b => creR r (b + 1)
def Shp.cut (s : Shp) (sws : List Nat) : Cut :=
 {keep := ZtI s.slots 0, shut := ZsD s.slots 0, retag := retS s.slots 0, heap := s.heap.length, dead := ZrP s.heap 0, cshut := cshR s.heap 0, cretag := creR s.heap 0, swaps := sws }
def pc {β : Type} (sh : Shp) (F : sh.T → Option β) (B : St → Option β) (s : St) : Option β :=
 match sh.dec s with
 | some v => F v
 | none => B s
theorem ZbR {β : Type} {sh : Shp} {F : sh.T → Option β} {B : St → Option β} (h : ∀ v, F v = B (sh.enc v)) (s : St) : pc sh F B s = B s := by
 unfold pc
 cases e : sh.dec s with
 | none => rfl
 | some v => show F v = B s; rw [Shp.dec_enc e]; exact h v
abbrev At {β : Type} (n : Nat) (lp : LP β) (lo : Bool) (k : Nat) (tx : St → (Ex → St → Option β) → Option β) (nm : Norm) : Prop := ∀ s K, lp lo k tx nm K s = loops n β lo k tx nm K s
end Go.Shal
set_option linter.unusedVariables false
namespace Go.Shal
open Go.RowKit
def up (n a : Nat) : Nat := (n + a - 1) / a * a
def Kd.al : Kd → Nat
 | .int k => k.bits / 8
 | .bool | .unit => 1
 | .flt | .str | .slice _ | .np | .nsl | .rp _ => 8
 | .tre k => max k.al 8
 | .pair a b => max a.al b.al
 | .arr _ k => k.al
def Kd.lay : Kd → Bool → Nat → Nat
 | .int k, _, o => up o (k.bits / 8) + k.bits / 8
 | .bool, _, o => o + 1
 | .flt, _, o => up o 8 + 8
 | .np, _, o => up o 8 + 8
 | .nsl, _, o => up o 8 + 24
 | .rp _, _, o => up o 8 + 8
 | .tre k, false, o => up (k.lay true o) 8 + 24
 | .tre k, true, o => up o (max k.al 8) + up (up (k.lay true 0) 8 + 24) (max k.al 8)
 | .str, _, o => up o 8 + 16
 | .slice _, _, o => up o 8 + 24
 | .unit, _, o => o
 | .pair a b, false, o => b.lay false (a.lay true o)
 | .pair a b, true, o => up o (max a.al b.al) + up (b.lay false (a.lay true 0)) (max a.al b.al)
 | .arr n k, _, o => up o k.al + n * k.lay true 0
def Kd.bytes (k : Kd) : Nat := k.lay true 0
def Kd.ok : (k : Kd) → k.T → Prop
 | .int k, x => inR k x
 | .bool, _ => True
 | .flt, n => n < 2 ^ 64
 | .np, _ => False
 | .nsl, _ => False
 | .rp _, _ => False
 | .tre _, _ => False
 | .str, xs => xs.length ≤ reachBytes ∧ ∀ b ∈ xs, (0 : Int) ≤ b ∧ b ≤ 255
 | .slice k, xs => xs.length * k.bytes ≤ reachBytes ∧ ∀ x ∈ xs, k.ok x
 | .unit, _ => True
 | .pair a b, x => a.ok x.1 ∧ b.ok x.2
 | .arr n k, xs => xs.length = n ∧ ∀ x ∈ xs, k.ok x
def okAll : (ks : List Kd) → (Kd.struct ks).T → Prop
 | [], _ => True
 | k :: ks, x => k.ok x.1 ∧ okAll ks x.2
def Deep (P : Program) : Kd → TypeId ⊕ (List Field × Nat) → Bool
 | .int k, .inl t => match P.underlying t with
  | some (.int k') => decide (k' = k)
  | _ => false
 | .bool, .inl t => match P.underlying t with
  | some .bool => true
  | _ => false
 | .flt, .inl t => match P.underlying t with
  | some (.float .f64) => true
  | _ => false
 | .str, .inl t => match P.underlying t with
  | some .string => true
  | _ => false
 | .slice k, .inl t => match P.underlying t with
  | some (.slice e) => Deep P k (.inl e) && (Nat.beq (P.cellsOf e) k.size && (Nat.beq (P.bytesOf e) k.bytes && (Nat.blt 0 k.size && Nat.blt 0 k.bytes)))
  | _ => false
 | .arr n k, .inl t => match P.underlying t with
  | some (.array n' e) => Nat.beq n' n && (Nat.beq (P.cellsOf t) (n * k.size) && (Nat.beq (P.cellsOf e) k.size && Deep P k (.inl e)))
  | _ => false
 | .unit, .inr ([], _) => true
 | .pair a b, .inl t => match P.underlying t with
  | some (.struct fs) => match fs.toList with
   | f :: r => Nat.beq (P.cellsOf t) (a.size + b.size) && (Nat.beq f.offset 0 && (Nat.beq (P.cellsOf f.type) a.size && (Deep P a (.inl f.type) && Deep P b (.inr (r, a.size)))))
   | [] => false
  | _ => false
 | .pair a b, .inr (f :: r, o) => Nat.beq f.offset o && (Nat.beq (P.cellsOf f.type) a.size && (Deep P a (.inl f.type) && Deep P b (.inr (r, o + a.size))))
 | _, _ => false
section
variable {H : Type} {enc : TypeId × Value → H} {P : Program} {W : World}
def Zfa (W : World) : RO := fun b o => W.cell? ⟨b, o, none⟩
theorem ZfW {α β γ : Type} {f : α → Option β} {Q : α → γ → Prop} : ∀ (l : List α) (ys : List β), (∀ a ∈ l, ∀ y ∈ ys, f a = some y → ∃ x, Q a x) → l.mapM f = some ys → ∃ xs : List γ, All2 Q l xs ∧ ys.length = l.length
 | [], ys, _, h => by simp at h; subst h; exact ⟨[], .nil, rfl⟩
 | a :: l, ys, hQ, h => by
  rw [List.mapM_cons] at h
  obtain ⟨y, h1, h⟩ := Option.bind_eq_some_iff.1 h
  obtain ⟨ys', h2, h⟩ := Option.bind_eq_some_iff.1 h
  obtain rfl : y :: ys' = ys := Option.some.inj h
  obtain ⟨x, hx⟩ := hQ a (by simp) y (by simp) h1
  obtain ⟨xs, hxs, hlen⟩ := ZfW l ys' (fun a ha y hy => hQ a (by simp [ha]) y (by simp [hy])) h2
  exact ⟨x :: xs, .cons hx hxs, by simp [hlen]⟩
theorem All2.get {α γ : Type} {Q : α → γ → Prop} {l : List α} {xs : List γ} (h : All2 Q l xs) : ∀ (i : Nat) (a : α) (x : γ), l[i]? = some a → xs[i]? = some x → Q a x := by
 induction h with
 | nil => intro i a x h; simp at h
 | cons h _ ih => intro i a x h1 h2; cases i with
  | zero => simp at h1 h2; subst h1; subst h2; exact h
  | succ i => exact ih i a x (by simpa using h1) (by simpa using h2)
theorem ZjE {a : Addr} {n : Nat} {cs : List Value} (h : W.cells? 0 a n = some cs) : cs.length = n ∧ ∀ j v, cs[j]? = some v → W.cell? (a.add j) = some v := by
 unfold World.cells? at h
 rw [if_pos (Nat.zero_le _)] at h
 have : ∀ (l : List Nat) (cs : List Value), l.mapM (fun i => W.cell? (a.add i)) = some cs → cs.length = l.length ∧ ∀ (j : Nat) (v : Value), cs[j]? = some v → ∃ i, l[j]? = some i ∧ W.cell? (a.add i) = some v := by
  intro l
  induction l with
  | nil => intro cs h; simp at h; subst h; simp
  | cons x l ih =>
   intro cs h
   rw [List.mapM_cons] at h
   obtain ⟨y, h1, h⟩ := Option.bind_eq_some_iff.1 h
   obtain ⟨ys, h2, h⟩ := Option.bind_eq_some_iff.1 h
   obtain rfl : y :: ys = cs := Option.some.inj h
   obtain ⟨k1, k2⟩ := ih ys h2
   refine ⟨by simp [k1], fun j v hj => ?_⟩
   cases j with
   | zero => simp at hj; subst hj; exact ⟨x, rfl, h1⟩
   | succ j => obtain ⟨i, q1, q2⟩ := k2 j v (by simpa using hj); exact ⟨i, by simpa using q1, q2⟩
 obtain ⟨h1, h2⟩ := this _ _ h
 refine ⟨by simpa using h1, fun j v hj => ?_⟩
 obtain ⟨i, q1, q2⟩ := h2 j v hj
 have hjn : j < n := by have := (List.getElem?_eq_some_iff.1 hj).1; simpa [h1] using this
 rw [List.getElem?_range hjn] at q1
 obtain rfl := Option.some.inj q1
 exact q2
abbrev sp0 : Nat → Bool := fun _ => true
theorem Zeu {e : TypeId} : ∀ {l : List (DataW H)} {d : DataW H}, d ∈ l → ∀ n ∈ d.weights P e, n ∈ DataW.weightsAll P e l
 | x :: l, d, h, n, hn => by
  unfold DataW.weightsAll
  rcases List.mem_cons.1 h with rfl | h
  ·exact List.mem_append_left _ hn
  ·exact List.mem_append_right _ (Zeu h n hn)
theorem Zki (s : ByteArray) : ∀ b ∈ bytesOf s, (0 : Int) ≤ b ∧ b ≤ 255 := fun b hb => by
 unfold bytesOf at hb
 obtain ⟨x, _, rfl⟩ := List.mem_map.1 hb
 have := x.toNat_lt
 omega
theorem Zry : ∀ (k : Kd),
  (∀ (t : TypeId) (fuel : Nat) (cs : List Value) (d : DataW H) (ps : List MemPlace), Deep P k (.inl t) = true → DataW.trod enc P W 0 sp0 true fuel t cs = some (d, ps) → (∀ n ∈ d.weights P t, n ≤ reachBytes) → ∃ x, Rep (Zfa W) k x cs ∧ k.ok x) ∧
  (∀ (l : List Field) (o fuel : Nat) (cs : List Value) (xs : List (DataW H × List MemPlace)), Deep P k (.inr (l, o)) = true → cs.length = o + k.size →
   l.mapM (fun f => DataW.trod enc P W 0 sp0 true fuel f.type ((cs.drop f.offset).take (P.cellsOf f.type))) = some xs → (∀ n ∈ DataW.weightsEach P (l.map (·.type)) (xs.map (·.1)), n ≤ reachBytes) → ∃ x, Rep (Zfa W) k x (cs.drop o) ∧ k.ok x) := by
 intro k
 induction k with
 | int k =>
  refine ⟨fun t fuel cs d ps hd h hw => ?_, fun l o fuel cs xs hd => by cases hd⟩
  unfold Deep at hd
  split at hd
  ·rename_i k' hu
   obtain rfl := of_decide_eq_true hd
   cases fuel with
   | zero => cases h
   | succ fuel =>
    rcases cs with _ | ⟨v, _ | ⟨_, _⟩⟩
    ·simp [DataW.trod, hu] at h
    ·cases v <;> simp only [DataW.trod, hu] at h <;> try (cases h; done)
     rename_i q n
     split at h
     ·rename_i hq
      obtain ⟨rfl, hwf⟩ := hq
      have : inR q n := by simpa [Lit.wf, inR] using hwf
      exact ⟨n, ⟨rfl, this⟩, this⟩
     ·cases h
    ·simp [DataW.trod, hu] at h
  ·cases hd
 | bool =>
  refine ⟨fun t fuel cs d ps hd h hw => ?_, fun l o fuel cs xs hd => by cases hd⟩
  unfold Deep at hd
  split at hd
  ·rename_i hu
   cases fuel with
   | zero => cases h
   | succ fuel =>
    rcases cs with _ | ⟨v, _ | ⟨_, _⟩⟩
    ·simp [DataW.trod, hu] at h
    ·cases v <;> simp only [DataW.trod, hu] at h <;> try (cases h; done)
     rename_i b
     exact ⟨b, rfl, trivial⟩
    ·simp [DataW.trod, hu] at h
  ·cases hd
 | flt =>
  refine ⟨fun t fuel cs d ps hd h hw => ?_, fun l o fuel cs xs hd => by cases hd⟩
  unfold Deep at hd
  split at hd
  ·rename_i hu
   cases fuel with
   | zero => cases h
   | succ fuel =>
    rcases cs with _ | ⟨v, _ | ⟨_, _⟩⟩
    ·simp [DataW.trod, hu] at h
    ·cases v <;> simp only [DataW.trod, hu] at h <;> try (cases h; done)
     rename_i q n
     split at h
     ·rename_i hq
      obtain ⟨rfl, hwf⟩ := hq
      have : n < 2 ^ 64 := by simpa [Lit.wf] using hwf
      exact ⟨n, rfl, this⟩
     ·cases h
    ·simp [DataW.trod, hu] at h
  ·cases hd
 | str =>
  refine ⟨fun t fuel cs d ps hd h hw => ?_, fun l o fuel cs xs hd => by cases hd⟩
  unfold Deep at hd
  split at hd
  ·rename_i hu
   cases fuel with
   | zero => cases h
   | succ fuel =>
    rcases cs with _ | ⟨v, _ | ⟨_, _⟩⟩
    ·simp [DataW.trod, hu] at h
    ·cases v <;> simp only [DataW.trod, hu] at h <;> try (cases h; done)
     rename_i s
     split at h
     ·rename_i hs
      cases h
      have hl : s.size ≤ reachBytes := by
       have := hw s.data.toList.length (by simp [DataW.weights])
       simpa using this
      exact ⟨bytesOf s, ⟨s, rfl, rfl, hs⟩, by rw [ZbI]; exact hl, Zki s⟩
     ·cases h
    ·simp [DataW.trod, hu] at h
  ·cases hd
 | slice k ih =>
  refine ⟨fun t fuel cs d ps hd h hw => ?_, fun l o fuel cs xs hd => by cases hd⟩
  unfold Deep at hd
  split at hd
  ·rename_i e hu
   simp only [Bool.and_eq_true] at hd
   obtain ⟨hd1, hd2, hd3, hd4, hd5⟩ := hd
   replace hd2 := Nat.eq_of_beq_eq_true hd2
   replace hd3 := Nat.eq_of_beq_eq_true hd3
   have hpos : 0 < k.size := by simpa [Nat.blt_eq] using hd4
   cases fuel with
   | zero => cases h
   | succ fuel =>
    rcases cs with _ | ⟨v, _ | ⟨_, _⟩⟩
    ·simp [DataW.trod, hu] at h
    ·cases v <;> try (simp [DataW.trod, hu] at h; done)
     rename_i a len cap
     cases a with
     | none =>
      have : len = 0 ∧ cap = 0 := by
       cases len <;> cases cap <;> simp [DataW.trod, hu] at h ⊢
      obtain ⟨rfl, rfl⟩ := this
      exact ⟨[], ⟨none, 0, rfl, Nat.le_refl _, Nat.zero_le _, .inl rfl⟩, by simp, fun x hx => by cases hx⟩
     | some a =>
      simp only [DataW.trod, hu] at h
      split at h
      ·rename_i hlen
       obtain ⟨_, hl1, hl2⟩ := hlen
       obtain ⟨elems, h1, h⟩ := Option.bind_eq_some_iff.1 h
       obtain ⟨rest, h2, h⟩ := Option.map_eq_some_iff.1 h
       cases h
       have hw1 : ∀ y ∈ elems, ∀ n ∈ y.1.weights P e, n ≤ reachBytes := fun y hy n hn => hw n (by
        unfold DataW.weights
        rw [hu]
        exact List.mem_cons_of_mem _ (List.mem_append_left _ (Zeu (List.mem_map.2 ⟨y, hy, rfl⟩) n hn)))
       obtain ⟨xs, hxs, hel⟩ := ZfW (γ := k.T) (Q := fun i x => (∃ c, (W.cells? 0 (a.add (i * P.cellsOf e)) (P.cellsOf e)) = some c ∧ Rep (Zfa W) k x c) ∧ k.ok x) (List.range len) elems (fun i _ y hy hf => by
        obtain ⟨c, hc1, hc2⟩ := Option.bind_eq_some_iff.1 hf
        obtain ⟨yd, yp⟩ := y
        obtain ⟨x, q1, q2⟩ := ih.1 e fuel c yd yp hd1 hc2 (hw1 _ hy)
        exact ⟨x, ⟨c, hc1, q1⟩, q2⟩) h1
       have hxl : xs.length = len := by have := hxs.length; simpa using this.symm
       have hq : ∀ (i : Nat) (x : k.T), xs[i]? = some x → (∃ c, (W.cells? 0 (a.add (i * P.cellsOf e)) (P.cellsOf e)) = some c ∧ Rep (Zfa W) k x c) ∧ k.ok x := fun i x hi => by
        have hlt : i < len := by have := (List.getElem?_eq_some_iff.1 hi).1; omega
        exact hxs.get i i x (List.getElem?_range hlt) hi
       refine ⟨xs, ⟨some a, cap, by rw [hxl], by omega, hl2, ?_⟩, ?_, fun x hx => ?_⟩
       ·cases hnil : xs with
        | nil => exact .inl rfl
        | cons x0 r =>
         rw [← hnil]
         right
         obtain ⟨ab, ao, asp⟩ := a
         have hspot : asp = none := by
          obtain ⟨⟨c, hc1, hc2⟩, _⟩ := hq 0 x0 (by simp [hnil])
          obtain ⟨hcl, hcc⟩ := ZjE hc1
          rw [hd2] at hcl
          have hc0 := hcc 0 (c[0]'(by omega)) (List.getElem?_eq_getElem _)
          have : (Addr.add ⟨ab, ao, asp⟩ (0 * P.cellsOf e)).add 0 = ⟨ab, ao, asp⟩ := by simp [Addr.add]
          rw [this] at hc0
          unfold World.cell? at hc0
          split at hc0
          ·cases asp with
           | none => rfl
           | some _ => simp at hc0
          ·cases hc0
         subst hspot
         refine ⟨ab, ao, rfl, fun i x hi => ?_⟩
         obtain ⟨⟨c, hc1, hc2⟩, _⟩ := hq i x hi
         obtain ⟨hcl, hcc⟩ := ZjE hc1
         refine ⟨c, hc2, fun j v hj => ?_⟩
         have hget := hcc j v hj
         have : (Addr.add ⟨ab, ao, none⟩ (i * P.cellsOf e)).add j = ⟨ab, ao + (i * k.size + j), none⟩ := by
          rw [hd2]
          unfold Addr.add
          split <;> split <;> simp_all <;> omega
         rw [this] at hget
         exact hget
       ·have := hw ((elems.length + rest.length) * P.bytesOf e) (by
         unfold DataW.weights
         rw [hu]
         simp)
        rw [hd3] at this
        have hel' : elems.length = len := by simpa using hel
        rw [hxl]
        refine Nat.le_trans (Nat.mul_le_mul_right _ ?_) this
        omega
       ·obtain ⟨i, hi⟩ := List.mem_iff_getElem?.1 hx
        exact (hq i x hi).2
      ·cases h
    ·simp [DataW.trod, hu] at h
  ·cases hd
 | unit =>
  refine ⟨(fun t fuel cs d ps hd => by cases hd), fun l o fuel cs xs hd hlen h hw => ?_⟩
  exact ⟨(), by simp [Rep, Kd.size] at hlen ⊢; omega, trivial⟩
 | pair a b iha ihb =>
  have fields : ∀ (f : Field) (r : List Field) (o fuel : Nat) (cs : List Value) (xs : List (DataW H × List MemPlace)), f.offset = o → P.cellsOf f.type = a.size → Deep P a (.inl f.type) = true → Deep P b (.inr (r, o + a.size)) = true → cs.length = o + (a.size + b.size) →
    (f :: r).mapM (fun f => DataW.trod enc P W 0 sp0 true fuel f.type ((cs.drop f.offset).take (P.cellsOf f.type))) = some xs → (∀ n ∈ DataW.weightsEach P ((f :: r).map (·.type)) (xs.map (·.1)), n ≤ reachBytes) → ∃ x, Rep (Zfa W) (.pair a b) x (cs.drop o) ∧ (Kd.pair a b).ok x := by
   intro f r o fuel cs xs h1 h2 h3 h4 hlen h hw
   rw [List.mapM_cons] at h
   obtain ⟨y, k1, h⟩ := Option.bind_eq_some_iff.1 h
   obtain ⟨ys, k2, h⟩ := Option.bind_eq_some_iff.1 h
   obtain rfl : y :: ys = xs := Option.some.inj h
   simp only [List.map_cons, DataW.weightsEach] at hw
   obtain ⟨yd, yp⟩ := y
   rw [h1, h2] at k1
   obtain ⟨x1, q1, q2⟩ := iha.1 f.type fuel _ yd yp h3 k1 (fun n hn => hw n (List.mem_append_left _ hn))
   obtain ⟨x2, q3, q4⟩ := ihb.2 r (o + a.size) fuel cs ys h4 (by omega) k2 (fun n hn => hw n (List.mem_append_right _ hn))
   refine ⟨(x1, x2), ⟨_, _, ?_, q1, q3⟩, q2, q4⟩
   rw [← List.drop_drop]
   exact (List.take_append_drop _ _).symm
  constructor
  ·intro t fuel cs d ps hd h hw
   unfold Deep at hd
   split at hd
   ·rename_i fs hu
    split at hd
    ·rename_i f r hfs
     simp only [Bool.and_eq_true] at hd
     obtain ⟨d0, d1, d2, d3, d4⟩ := hd
     replace d0 := Nat.eq_of_beq_eq_true d0
     replace d1 := Nat.eq_of_beq_eq_true d1
     replace d2 := Nat.eq_of_beq_eq_true d2
     cases fuel with
     | zero => cases h
     | succ fuel =>
      simp only [DataW.trod, hu] at h
      split at h
      ·rename_i hlen
       obtain ⟨xs, k1, h⟩ := Option.map_eq_some_iff.1 h
       cases h
       rw [hfs] at k1
       have := fields f r 0 fuel cs xs d1 d2 d3 (by simpa using d4) (by rw [hlen, d0]; omega) k1 (fun n hn => hw n (by
        unfold DataW.weights
        rw [hu]
        simp only [hfs]
        exact hn))
       simpa using this
      ·cases h
    ·cases hd
   ·cases hd
  ·intro l o fuel cs xs hd hlen h hw
   cases l with
   | nil => cases hd
   | cons f r =>
    unfold Deep at hd
    simp only [Bool.and_eq_true] at hd
    obtain ⟨d1, d2, d3, d4⟩ := hd
    exact fields f r o fuel cs xs (Nat.eq_of_beq_eq_true d1) (Nat.eq_of_beq_eq_true d2) d3 d4 (by simpa [Kd.size] using hlen) h hw
 | np => exact ⟨(fun t fuel cs d ps hd => by cases hd), fun l o fuel cs xs hd => by cases hd⟩
 | rp k ih => exact ⟨(fun t fuel cs d ps hd => by cases hd), fun l o fuel cs xs hd => by cases hd⟩
 | nsl => exact ⟨(fun t fuel cs d ps hd => by cases hd), fun l o fuel cs xs hd => by cases hd⟩
 | tre k ih => exact ⟨(fun t fuel cs d ps hd => by cases hd), fun l o fuel cs xs hd => by cases hd⟩
 | arr n k ih =>
  refine ⟨fun t fuel cs d ps hd h hw => ?_, fun l o fuel cs xs hd => by cases hd⟩
  unfold Deep at hd
  split at hd
  ·rename_i n' e hu
   simp only [Bool.and_eq_true] at hd
   obtain ⟨hd1, hd2, hd3, hd4⟩ := hd
   obtain rfl := Nat.eq_of_beq_eq_true hd1
   replace hd2 := Nat.eq_of_beq_eq_true hd2
   replace hd3 := Nat.eq_of_beq_eq_true hd3
   cases fuel with
   | zero => cases h
   | succ fuel =>
    simp only [DataW.trod, hu] at h
    split at h
    ·rename_i hlen
     obtain ⟨elems, h1, h⟩ := Option.map_eq_some_iff.1 h
     cases h
     have hw1 : ∀ y ∈ elems, ∀ m ∈ y.1.weights P e, m ≤ reachBytes := fun y hy m hm => hw m (by
      unfold DataW.weights
      rw [hu]
      exact Zeu (List.mem_map.2 ⟨y, hy, rfl⟩) m hm)
     obtain ⟨xs, hxs, hel⟩ := ZfW (γ := k.T) (Q := fun i x => Rep (Zfa W) k x ((cs.drop (i * k.size)).take k.size) ∧ k.ok x) (List.range n') elems (fun i _ y hy hf => by
      obtain ⟨yd, yp⟩ := y
      rw [hd3] at hf
      exact ih.1 e fuel _ yd yp hd4 hf (hw1 _ hy)) h1
     have hxl : xs.length = n' := by have := hxs.length; simpa using this.symm
     have hq : ∀ (i : Nat) (x : k.T), xs[i]? = some x → Rep (Zfa W) k x ((cs.drop (i * k.size)).take k.size) ∧ k.ok x := fun i x hi => by
      have hlt : i < n' := by have := (List.getElem?_eq_some_iff.1 hi).1; omega
      exact hxs.get i i x (List.getElem?_range hlt) hi
     refine ⟨xs, ⟨hxl, fun i => (cs.drop (i * k.size)).take k.size, fun i x hi => (hq i x hi).1, ZcT k.size n' cs (by rw [hlen, hd2])⟩, hxl, fun x hx => ?_⟩
     obtain ⟨i, hi⟩ := List.mem_iff_getElem?.1 hx
     exact (hq i x hi).2
    ·cases h
  ·cases hd
def ZgD (P : Program) : List Kd → List TypeId → Bool
 | [], [] => true
 | k :: ks, t :: ts => Deep P k (.inl t) && (Nat.blt t P.types.size && (P.readableRec t && ZgD P ks ts))
 | _, _ => false
theorem Deep.form {k : Kd} {t : TypeId} (h : Deep P k (.inl t) = true) {base : Nat} {v : Value} (hv : Value.okWide P W .any base t v) : v = k.val v.cells.toList := by
 cases k with
 | pair a b =>
  unfold Deep at h
  split at h
  ·rename_i fs hu
   unfold Value.okWide at hv
   rw [hu] at hv
   obtain ⟨cs, rfl, _⟩ := hv
   simp [Value.cells, Kd.val, Kd.agg]
  ·cases h
 | unit => cases h
 | arr n k =>
  unfold Deep at h
  split at h
  ·rename_i n' e hu
   unfold Value.okWide at hv
   rw [hu] at hv
   obtain ⟨cs, rfl, _⟩ := hv
   simp [Value.cells, Kd.val, Kd.agg]
  ·cases h
 | np => cases h
 | nsl => cases h
 | rp k => cases h
 | tre k => cases h
 | _ =>
  unfold Deep at h
  split at h
  ·rename_i hu
   unfold Value.okWide at hv
   rw [hu] at hv
   unfold Cell.okWide Cell.ok at hv
   rw [hu] at hv
   cases v <;> first | rfl | (simp at hv; done)
  ·cases h
theorem ZlZ {base : Nat} : ∀ {ks : List Kd} {ts : List TypeId} {vs : List Value} {ds : List (DataW H)} {p : List MemPlace}, ZgD P ks ts = true → DataW.TrodAll enc P W 0 sp0 true ts vs ds p →
  (∀ (j : Nat) t v, ts[j]? = some t → vs[j]? = some v → Value.okWide P W .any base t v) → (∀ n ∈ DataW.weightsEach P ts ds, n ≤ reachBytes) → ∃ x, TRep (Zfa W) ks x vs ∧ okAll ks x
 | [], [], [], [], _, _, _, _, _ => ⟨(), rfl, trivial⟩
 | [], [], _ :: _, _, _, _, h, _, _ => h.elim
 | [], [], [], _ :: _, _, _, h, _, _ => h.elim
 | k :: ks, t :: ts, vs, ds, p, hd, h, hv, hw => by
  obtain ⟨v, vs', d, ds', p, q, rfl, rfl, rfl, ⟨fuel, h1⟩, h2⟩ := Go.ChangeShapes.trodAll_cons h
  unfold ZgD at hd
  simp only [Bool.and_eq_true] at hd
  simp only [DataW.weightsEach] at hw
  obtain ⟨x, k1, k2⟩ := (Zry k).1 t fuel _ d p hd.1 h1 (fun n hn => hw n (List.mem_append_left _ hn))
  obtain ⟨y, k3, k4⟩ := ZlZ hd.2.2.2 h2 (fun j t v h1 h2 => hv (j + 1) t v (by simpa using h1) (by simpa using h2)) (fun n hn => hw n (List.mem_append_right _ hn))
  exact ⟨(x, y), ⟨v, vs', rfl, ⟨_, k1, Deep.form hd.1 (hv 0 t v rfl rfl)⟩, k3⟩, k2, k4⟩
 | [], _ :: _, _, _, _, hd, _, _, _ => by cases hd
 | _ :: _, [], _, _, _, hd, _, _, _ => by cases hd
theorem Zln {W' : World} (hl : laidOutB P = true) (hb : Below W.heap.size W W') : ∀ {ks : List Kd} {ts : List TypeId} {vs : List Value} {ds : List (DataW H)} {p : List MemPlace}, ZgD P ks ts = true → DataW.TrodAll enc P W 0 sp0 true ts vs ds p →
  (∀ x ∈ p, x.block < W.heap.size) → ∀ sp : Nat → Bool, (∀ x ∈ p, sp x.block = true) → DataW.TrodAll enc P W' 0 sp true ts vs ds p
 | [], [], [], [], _, _, h, _, _, _ => h
 | [], [], _ :: _, _, _, _, h, _, _, _ => h.elim
 | [], [], [], _ :: _, _, _, h, _, _, _ => h.elim
 | k :: ks, t :: ts, vs, ds, p, hd, h, hlt, sp, hsp => by
  obtain ⟨v, vs', d, ds', p, q, rfl, rfl, rfl, h1, h2⟩ := Go.ChangeShapes.trodAll_cons h
  unfold ZgD at hd
  simp only [Bool.and_eq_true] at hd
  refine trodAll_cons_mk (WideElems.Trod_stays hl hd.2.2.1 (by simpa [Nat.blt_eq] using hd.2.1) h1 (fun x hx => hb.same (hlt x (List.mem_append_left _ hx))) (fun x hx => hsp x (List.mem_append_left _ hx)))
   (Zln hl hb hd.2.2.2 h2 (fun x hx => hlt x (List.mem_append_right _ hx)) sp (fun x hx => hsp x (List.mem_append_right _ hx)))
 | [], _ :: _, _, _, _, hd, _, _, _, _ => by cases hd
 | _ :: _, [], _, _, _, hd, _, _, _, _ => by cases hd
theorem ZfH : ∀ {ts : List TypeId} {vs : List Value} {ds : List (DataW H)} {p : List MemPlace}, DataW.TrodAll enc P W 0 sp0 true ts vs ds p → ds.length = ts.length
 | [], [], [], _, _ => rfl
 | [], _ :: _, _, _, h => h.elim
 | [], [], _ :: _, _, h => h.elim
 | t :: ts, vs, ds, p, h => by
  obtain ⟨v, vs', d, ds', p, q, rfl, rfl, rfl, h1, h2⟩ := Go.ChangeShapes.trodAll_cons h
  simp [ZfH h2]
theorem law_row {f : FuncId} {fn : Func} {C : Con} {s : ChangeSpec} {tb : TypeId} {G : ZhW} (hS : Zbi P G f C) (hG : GOk G (Zfa W)) (hrs : C.rs = [.bool]) (hC : ∀ x, okAll C.ps x → ∃ n r, C.f n x = some r ∧ (hrs ▸ r : (Kd.struct [.bool]).T).1 = true)
  (hl : laidOutB P = true) (hps : ZgD P C.ps fn.params.toList = true) (hres : fn.resultTypes = #[tb]) (htb : P.underlying tb = some .bool) (hvars : s.vars = [])
  (hfn : ∀ (ds : List (DataW H)), ds.length = fn.params.toList.length → (s.fn H ds).results = [.lit (.bool true)] ∧ (s.fn H ds).args = ds ∧ (s.fn H ds).vars = [])
  {base : Nat} {args : Array Value} {ds gs : List (DataW H)} {before : List MemPlace}
  (hval : ∀ (j : Nat) t v, fn.params[j]? = some t → args[j]? = some v → Value.okWide P W .any base t v)
  (hW : DataW.Whole enc P fn.params.toList s.vars false W args.toList ds gs before)
  (hw : (DataW.weightsEach P (fn.params.toList ++ []) (ds ++ gs)).all (· ≤ reachBytes) = true) :
  Calls P f args W fun e W' => ∃ v, e = .returned v ∧ s.post enc P fn false true false false W args v W' := by
 have hlt := hW.lt
 obtain ⟨p, q, hA, hV, rfl, hfz, hnd⟩ := hW
 rw [hvars] at hV
 obtain ⟨rfl, rfl⟩ := Go.ChangeShapes.trodVars_none hV
 simp only [List.append_nil] at hw hfz hlt
 obtain ⟨x, hx, hok⟩ := ZlZ (base := base) hps hA (fun j t v h1 h2 => hval j t v (by simpa using h1) (by simpa using h2)) (fun n hn => by simpa using List.all_eq_true.1 hw n hn)
 obtain ⟨n, r, hr, htrue⟩ := hC x hok
 have := hS n x r hr W (Zfa W) args.toList hG (fun b o v h => h) hx
 simp only [Array.toArray_toList] at this
 refine this.mono fun e W' ⟨R', v, he, _, _, _, hres', hb⟩ => ?_
 subst he
 have hv : v = .bool true := by
  obtain ⟨ps, rs, Cf⟩ := C
  simp only at hrs
  subst hrs
  have h1 : DRep R' .bool r.1 v := hres'
  have h2 := h1.one rfl
  have h3 : [v] = [.bool r.1] := h2
  have htrue : r.1 = true := htrue
  rw [htrue] at h3
  simpa using h3
 subst hv
 obtain ⟨e1, e2, e3⟩ := hfn ds (by rw [ZfH hA])
 have hst := Zln hl hb hps hA hlt
 have hbool : ∀ (b : Nat) (sp : Nat → Bool) (hd : Bool), DataW.TrodAll enc P W' b sp hd fn.resultTypes.toList ((Value.bool true).resultList fn.resultTypes.size) [.lit (.bool true)] [] := fun b sp hd => by
  rw [hres]
  exact trodAll_cons_mk (shut_bool htb true) Go.ChangeShapes.trodAll_mk0
 have hold : ∀ y ∈ p, (fun b => decide (b < W.heap.size)) y.block = true := fun y hy => by simpa using hlt y hy
 have hvarsT : ∀ sp : Nat → Bool, DataW.TrodVars enc P W' sp s.vars ([] : List (DataW H)) [] := fun sp => by rw [hvars]; rfl
 refine ⟨_, rfl, ds, [], p, [], p, [], ⟨p, [], hA, by rw [hvars]; rfl, by simp, hfz, fun h => by cases h⟩, ?_, ?_, ?_, hb.frame _, fun h => by cases h⟩
 ·rw [List.append_nil, e1]; exact hbool _ _ _
 ·rw [List.append_nil, e2]; exact hst _ hold
 ·rw [List.append_nil, e3]; exact hvarsT _
end
end Go.Shal
set_option linter.unusedVariables false
namespace Go.Shal
def chk {β : Type} (b : Bool) (x : Option β) : Option β := cond b x none
def ZfE {α : Type} (xs : List α) (l h : Int) : Bool := decide (0 ≤ l) && (decide (l ≤ h) && decide (h ≤ (xs.length : Int)))
def cutL {α : Type} (xs : List α) (l h : Int) : List α := (xs.drop l.toNat).take (h - l).toNat
def ixOk {α : Type} (xs : List α) (i : Int) : Bool := decide (0 ≤ i) && decide (i < (xs.length : Int))
def ixL {α : Type} (z : α) (xs : List α) (i : Int) : α := xs.getD i.toNat z
def apOk {α : Type} (xs ys : List α) (b : Nat) : Bool := decide ((xs.length + ys.length) * b ≤ LIM)
def mkOk (l c : Int) (b : Nat) : Bool := decide (0 ≤ l) && (decide (l ≤ c) && decide (c * (b : Int) ≤ (LIM : Int)))
def bAnd (k : IntKind) (x y : Int) : Int := k.wrap (BitVec.ofInt k.bits x &&& BitVec.ofInt k.bits y).toNat
def bOr (k : IntKind) (x y : Int) : Int := k.wrap (BitVec.ofInt k.bits x ||| BitVec.ofInt k.bits y).toNat
def bXor (k : IntKind) (x y : Int) : Int := k.wrap (BitVec.ofInt k.bits x ^^^ BitVec.ofInt k.bits y).toNat
def bAndNot (k : IntKind) (x y : Int) : Int := k.wrap (BitVec.ofInt k.bits x &&& ~~~BitVec.ofInt k.bits y).toNat
def bNot (k : IntKind) (x : Int) : Int := k.wrap (BitVec.ofInt k.bits (if k.signed then -1 else k.max) ^^^ BitVec.ofInt k.bits x).toNat
def sShl (k : IntKind) (x y : Int) : Int := k.wrap (x * 2 ^ (min y.toNat k.bits))
def sShr (k : IntKind) (x y : Int) : Int := x.fdiv (2 ^ (min y.toNat k.bits))
def fEql (x y : Nat) : Bool := FloatKind.f64.format.order x y == some .eq
def fNeq (x y : Nat) : Bool := FloatKind.f64.format.order x y != some .eq
def fLss (x y : Nat) : Bool := FloatKind.f64.format.order x y == some .lt
def fLeq (x y : Nat) : Bool := FloatKind.f64.format.order x y == some .lt || FloatKind.f64.format.order x y == some .eq
def fGtr (x y : Nat) : Bool := FloatKind.f64.format.order x y == some .gt
def fGeq (x y : Nat) : Bool := FloatKind.f64.format.order x y == some .gt || FloatKind.f64.format.order x y == some .eq
def oc {α β : Type} (o : Option α) (a : β) (b : α → β) : β := match o with | none => a | some x => b x
def cut3 {α : Type} (xs : List α) (l h m : Int) : Bool := decide (0 ≤ l) && (decide (l ≤ h) && (decide (h ≤ m) && decide (m ≤ (xs.length : Int))))
def ZtH (n : Nat) (i : Int) : Bool := decide (0 ≤ i) && decide (i < (n : Int))
def mkMut (l c : Int) (b : Nat) : Bool := decide (0 ≤ l) && (decide (c = l) && decide (c * (b : Int) ≤ (LIM : Int)))
def mkRaw (l c : Int) (b : Nat) : Bool := decide (0 ≤ l) && (decide (l ≤ c) && (decide (0 < c) && decide (c * (b : Int) ≤ (LIM : Int))))
def nOk {α : Type} (xs : List α) (n : Nat) : Bool := Nat.beq xs.length n
def stL {α : Type} (xs : List α) (i : Int) (x : α) : List α := xs.set i.toNat x
def fIntOk (k : IntKind) (x : Nat) : Bool := (floatToIntVal .f64 x k).isSome
def fInt (k : IntKind) (x : Nat) : Int := (floatToIntVal .f64 x k).getD 0
def apNew {α : Type} (ys : List α) (b : Nat) : Bool := Nat.ble 1 ys.length && decide (ys.length * b ≤ LIM)
def tailOk {α : Type} (xs : List α) (l : Int) : Bool := decide (0 ≤ l) && decide (l ≤ (xs.length : Int))
def tailL {α : Type} (xs : List α) (l : Int) : List α := xs.drop l.toNat
noncomputable def twice {β : Type} (r : Option β) : Option β := both r r
def iFlt (n : Int) : Nat := floatOfInt .f64 n
end Go.Shal
set_option linter.unusedVariables false
namespace Go.Shal
open Go.RowKit
section
variable {P : Program} {f : FuncId} {fn : Func}
def ZcF : Con := { ps := [.flt], rs := [.int .u64], f := fun _ x => match decide (x.1 < 18446744073709551616) with
 | true => some ((x.1 : Int), ())
 | false => none }
theorem Zfv (h1 : P.funcs[f]? = some fn) (h2 : (fn.name == "runtime.NumGoroutine") = false) (h3 : fn.body.isNone = true) (h4 : Extern.findNext fn = none) (h5 : Extern.find fn = some Extern.MathFloatBits.float64bits) : ZrD P f ZcF := by
 refine ⟨fn, _, h1, h2, h3, h4, h5, fun n x r hr R vs w hx => ?_⟩
 obtain ⟨v, rest, rfl, hv, rfl⟩ := hx
 have hv := DRep.one (k := .flt) rfl hv
 obtain rfl : v = .float .f64 x.1 := by simpa [Rep] using hv
 have hr : (match decide (x.1 < 18446744073709551616) with | true => some ((x.1 : Int), ()) | false => none) = some r := hr
 split at hr
 ·rename_i hd
  cases hr
  refine ⟨.int .u64 (x.1 : Int), rfl, DRep.of_one (k := .int .u64) rfl ⟨rfl, ?_⟩⟩
  show inR .u64 ((show Nat from x.1 : Nat) : Int)
  have hd : (show Nat from x.1) < 18446744073709551616 := of_decide_eq_true hd
  generalize (show Nat from x.1) = y at hd
  exact ⟨by rw [show IntKind.u64.min = 0 by decide]; omega, by rw [show IntKind.u64.max = 18446744073709551615 by decide]; omega⟩
 ·cases hr
def Zfc : Con := { ps := [.int .u64], rs := [.flt], f := fun _ x => some (x.1.toNat, ()) }
theorem ZjH (h1 : P.funcs[f]? = some fn) (h2 : (fn.name == "runtime.NumGoroutine") = false) (h3 : fn.body.isNone = true) (h4 : Extern.findNext fn = none) (h5 : Extern.find fn = some Extern.MathFloatBits.float64frombits) : ZrD P f Zfc := by
 refine ⟨fn, _, h1, h2, h3, h4, h5, fun n x r hr R vs w hx => ?_⟩
 obtain ⟨v, rest, rfl, hv, rfl⟩ := hx
 have hv := DRep.one (k := .int .u64) rfl hv
 obtain ⟨hv, _⟩ := hv
 obtain rfl : v = .int .u64 x.1 := by simpa using hv
 cases hr
 exact ⟨.float .f64 x.1.toNat, rfl, DRep.of_one (k := .flt) rfl rfl⟩
def extAdd64 : Con := { ps := [.int .u64, .int .u64, .int .u64], rs := [.int .u64, .int .u64], f := fun _ x => match decide (x.2.2.1 ≤ 1) with
 | true => some ((x.1 + x.2.1 + x.2.2.1) % 18446744073709551616, (x.1 + x.2.1 + x.2.2.1) / 18446744073709551616, ())
 | false => none }
def integ (way : Ieee.Toward) (x : Nat) : Option Nat :=
 match FloatKind.f64.decode x with
 | .nan _ t => match decide (FloatKind.f64.format.quiet t = t) with
  | true => some x
  | false => none
 | d => some (FloatKind.f64.encode (d.integral way))
def extFloor : Con := { ps := [.flt], rs := [.flt], f := fun _ x => (integ .down x.1).map fun y => (y, ()) }
def extTrunc : Con := { ps := [.flt], rs := [.flt], f := fun _ x => (integ .zero x.1).map fun y => (y, ()) }
def cmpL : List Int → List Int → Int
 | [], [] => 0
 | [], _ :: _ => -1
 | _ :: _, [] => 1
 | x :: r, y :: q => if x < y then -1 else if y < x then 1 else cmpL r q
def extCmp : Con := { ps := [.str, .str], rs := [.int .i64], f := fun _ x => some (cmpL x.1 x.2.1, ()) }
end
end Go.Shal
set_option linter.unusedVariables false
namespace Go.Shal
open Go.RowKit
section
variable {P : Program} {W : World}
def Arr (P : Program) : Kd → TypeId → Bool
 | .int k, t => match P.underlying t with
  | some (.int k') => decide (k' = k)
  | _ => false
 | .bool, t => match P.underlying t with
  | some .bool => true
  | _ => false
 | .arr n k, t => match P.underlying t with
  | some (.array n' e) => Nat.beq n n' && (Nat.beq (P.cellsOf t) (n * k.size) && (Nat.beq (P.cellsOf e) k.size && Arr P k e))
  | _ => false
 | _, _ => false
def Ztc {α : Type} (f : DataW Unit → Option α) : List (DataW Unit) → Option (List α)
 | [] => some []
 | d :: r => match f d, Ztc f r with
  | some x, some xs => some (x :: xs)
  | _, _ => none
def ofLit : (k : Kd) → DataW Unit → Option k.T
 | .int k, .lit (.int k' n) => match decide (k' = k) with
  | true => some n
  | false => none
 | .bool, .lit (.bool b) => some b
 | .arr n k, .agg ds => Ztc (ofLit k) ds
 | _, _ => none
def Lay (P : Program) : List (String × DataW Unit) → ZhW → Prop
 | [], G => G = []
 | (n, d) :: r, G => ∃ b q G' t, G = (b, q) :: G' ∧ P.globalNamed n = some b ∧ (P.globals[b]?).map (·.type) = some t ∧ Arr P q.k t = true ∧ ofLit q.k d = some q.x ∧ Lay P r G'
end
end Go.Shal
