/- Prints of functions, and proofs that they are what the code computes. By an AI agent. -/
import Derived.Test.YtbhigcnmdobmoaaShD
import Derived.Test.YtbhigcnmdobmoaaProg
set_option linter.unusedVariables false
set_option maxRecDepth 100000
namespace Go.Shal.Pr
open Go Go.Shal Go.Proofs
noncomputable section
def globs : Globs := []
abbrev kS0 : Kd := .struct [(.int .u8), (.int .i64), (.int .u64), .str]
abbrev S0 : Type := Int × Int × Int × (List Int) × Unit
abbrev kS1 : Kd := .struct [(.int .u8), (.int .i64), .flt, .str]
abbrev S1 : Type := Int × Int × Nat × (List Int) × Unit
abbrev kS2 : Kd := .struct [(.int .u8), (.slice kS1)]
abbrev S2 : Type := Int × (List S1) × Unit
abbrev kS3 : Kd := .struct [(.int .u8), (.slice kS0)]
abbrev S3 : Type := Int × (List S0) × Unit
abbrev kS4 : Kd := .struct [.bool, (.int .i64), (.int .u64)]
abbrev S4 : Type := Bool × Int × Int × Unit
noncomputable def law04RawValue (fu : Nat) (rv : S0) : Option (S1 × Unit) :=
  (extFrom.f fu (rv.2.2.1, ())).bind fun r1 =>
  some ((rv.1, rv.2.1, r1.1, rv.2.2.2.1, ()), ())

noncomputable def law04RawValue.body : Code := Try.f46.body.getD .skip
noncomputable def law04RawValue.con : Con := { ps := [kS0], rs := [kS1], f := fun n x => law04RawValue n x.1 }
noncomputable def law04RawValue.env : Env := { tys := [(95, ⟨kS0, 40⟩), (34, ⟨kS1, 40⟩), (5, ⟨(.int .u8), 1⟩), (2, ⟨(.int .i64), 8⟩), (51, ⟨(.int .u64), 8⟩), (9, ⟨.str, 16⟩)], elems := [], ptrs := [], cons := [(90, extFrom)], objs := [], loops := [], cuts := [], globs := globs, base := 0 }
noncomputable def law04RawValue.lp (n : Nat) : LP (Kd.struct law04RawValue.con.rs).T := fun lo κ body nm K s =>
  loops n (Kd.struct law04RawValue.con.rs).T lo κ body nm K s
theorem law04RawValue.eq (n : Nat) (x : (Kd.struct law04RawValue.con.ps).T) : evFunc law04RawValue.env Try.f46 law04RawValue.body law04RawValue.con.ps law04RawValue.con.rs (law04RawValue.lp n) n x = law04RawValue.con.f n x := by kernel_rfl
theorem law04RawValue.sound : Sound Try.prog globs 46 law04RawValue.con :=
  sound_by (E := law04RawValue.env) (c := law04RawValue.body) (envOk (G := globs) (lc := [(90, extFrom)]) (lo := []) (envB_spec (by kernel_rfl)) rfl rfl ⟨.inr (extFrom_ok Try.func90 (by kernel_rfl) (by kernel_rfl) (by kernel_rfl) (by kernel_rfl)), trivial⟩ rfl trivial (by kernel_rfl) (by kernel_rfl)) Try.func46 (by kernel_rfl) law04RawValue.lp (l := []) (by kernel_rfl) (fun n => trivial) law04RawValue.eq
noncomputable def law05RawEvent.b3 (fu : Nat) (next : (List S0) → Int → Int → Int → (List S1) → Int → (List S1) → Option (S2 × Unit)) (k2 : Int → (List S1) → Int → (List S1) → Option (S2 × Unit)) (v : List S0) (vx2 : Int) (vx3 : Int) (c1 : Int) (c1x2 : List S1) (c2 : Int) (c2x2 : List S1) : Option (S2 × Unit) :=
  cond (decide (vx3 < vx2)) (
    chk (ixOk v vx3) <|
    let e1 := ixL ((0 : Int), (0 : Int), (0 : Int), [], ()) v vx3
    let t2 := decide (vx3 < (30 : Int))
    cond t2 (
      (law04RawValue fu e1).bind fun r3 =>
      chk (apOk c2x2 ([r3.1]) 40) <|
      let t4 := IntKind.i64.wrap (vx3 + (1 : Int))
      next v vx2 t4 c1 c1x2 c2 (c2x2 ++ ([r3.1]))) (
      let t5 := IntKind.i64.wrap (vx3 + (1 : Int))
      next v vx2 t5 c1 c1x2 c2 c2x2)) (
    k2 c1 c1x2 c2 c2x2)
noncomputable def law05RawEvent.l3 (fu : Nat) (k2 : Int → (List S1) → Int → (List S1) → Option (S2 × Unit)) : Nat → (List S0) → Int → Int → Int → (List S1) → Int → (List S1) → Option (S2 × Unit)
  | 0, _, _, _, _, _, _, _ => none
  | m + 1, v, vx2, vx3, c1, c1x2, c2, c2x2 => law05RawEvent.b3 fu (law05RawEvent.l3 fu k2 m) k2 v vx2 vx3 c1 c1x2 c2 c2x2
noncomputable def law05RawEvent (fu : Nat) (rv : S3) : Option (S2 × Unit) :=
  law05RawEvent.l3 fu (fun c1q2 c1q2x2 c2q2 c2q2x2 => 
      some ((c2q2, c2q2x2, ()), ())) fu rv.2.1 (rv.2.1.length : Int) (0 : Int) (0 : Int) [] rv.1 []

noncomputable def law05RawEvent.body : Code := Try.f11.body.getD .skip
abbrev law05RawEvent.shl3 : Shp := ⟨[.u, .u, .p 1 0, .p 2 0, .u, .u, .u, .u, .u, .u, .d (.slice kS0), .d (.int .i64), .d (.int .i64), .u, .u, .u, .u, .u, .u, .u, .u, .u, .u, .u, .u, .u, .u, .u], [.c [.u, .u], .c [.d (.int .u8), .o 1051 kS1], .c [.d (.int .u8), .o 1101 kS1]]⟩
abbrev law05RawEvent.outl3e2 : Shp := ⟨[.u, .u, .p 1 0, .p 2 0, .u, .u, .u, .u, .u, .u, .u, .u, .u, .u, .u, .u, .u, .u, .u, .u, .u, .u, .u, .u, .u, .u, .u, .u], [.c [.u, .u], .c [.d (.int .u8), .o 1051 kS1], .c [.d (.int .u8), .o 1101 kS1]]⟩
noncomputable def law05RawEvent.nml3 : Norm := ⟨{ keep := [2, 3, 10, 11, 12], shut := [(10, (.slice kS0)), (11, (.int .i64)), (12, (.int .i64))], retag := [], heap := 3, dead := [0], cshut := [(1, 0, (.int .u8)), (2, 0, (.int .u8))], cretag := [(1, 1, 1051, kS1), (2, 1, 1101, kS1)] }, [(2, { keep := [2, 3], shut := [], retag := [], heap := 3, dead := [0], cshut := [(1, 0, (.int .u8)), (2, 0, (.int .u8))], cretag := [(1, 1, 1051, kS1), (2, 1, 1101, kS1)] })]⟩
noncomputable def law05RawEvent.con : Con := { ps := [kS3], rs := [kS2], f := fun n x => law05RawEvent n x.1 }
noncomputable def law05RawEvent.env : Env := { tys := [(24, ⟨kS3, 32⟩), (27, ⟨kS2, 32⟩), (5, ⟨(.int .u8), 1⟩), (22, ⟨(.slice kS0), 24⟩), (95, ⟨kS0, 40⟩), (3, ⟨(.int .i64), 8⟩), (25, ⟨(.slice kS1), 24⟩), (34, ⟨kS1, 40⟩)], elems := [(22, 95), (25, 34)], ptrs := [], cons := [(46, law04RawValue.con)], objs := [], loops := [(3, law05RawEvent.nml3)], cuts := [], globs := globs, base := 0 }
noncomputable def law05RawEvent.lp (n : Nat) : LP (Kd.struct law05RawEvent.con.rs).T := fun lo κ body nm K s =>
  cond (lo && Nat.beq κ 3)
    (match law05RawEvent.shl3.dec s with
    | some v => law05RawEvent.l3 n (fun w0 w1 w2 w3 => K (.exit 0) (law05RawEvent.outl3e2.enc (w0, w1, w2, w3, ()))) n v.1 v.2.1 v.2.2.1 v.2.2.2.1 v.2.2.2.2.1 v.2.2.2.2.2.1 v.2.2.2.2.2.2.1
    | none => loops n (Kd.struct law05RawEvent.con.rs).T lo κ body nm K s)
    (loops n (Kd.struct law05RawEvent.con.rs).T lo κ body nm K s)
theorem law05RawEvent.atl3 (n : Nat) (s : St) (K : Ex → St → Option (Kd.struct law05RawEvent.con.rs).T) : (law05RawEvent.lp n) true 3 (evK law05RawEvent.env (law05RawEvent.lp n) n (sub [1, 1, 0, 1, 0, 0] law05RawEvent.body)) law05RawEvent.nml3 K s = loops n (Kd.struct law05RawEvent.con.rs).T true 3 (evK law05RawEvent.env (law05RawEvent.lp n) n (sub [1, 1, 0, 1, 0, 0] law05RawEvent.body)) law05RawEvent.nml3 K s := by
  show (match law05RawEvent.shl3.dec s with | some v => law05RawEvent.l3 n (fun w0 w1 w2 w3 => K (.exit 0) (law05RawEvent.outl3e2.enc (w0, w1, w2, w3, ()))) n v.1 v.2.1 v.2.2.1 v.2.2.2.1 v.2.2.2.2.1 v.2.2.2.2.2.1 v.2.2.2.2.2.2.1 | none => loops n (Kd.struct law05RawEvent.con.rs).T true 3 (evK law05RawEvent.env (law05RawEvent.lp n) n (sub [1, 1, 0, 1, 0, 0] law05RawEvent.body)) law05RawEvent.nml3 K s) = _
  cases h : law05RawEvent.shl3.dec s with
  | none => rfl
  | some v =>
    rw [Shp.dec_enc h]
    exact (evLoop_eq (sh := law05RawEvent.shl3) (body := evK law05RawEvent.env (law05RawEvent.lp n) n (sub [1, 1, 0, 1, 0, 0] law05RawEvent.body)) (nm := law05RawEvent.nml3) (K := K) (b := fun nx v => law05RawEvent.b3 n (fun x0 x1 x2 x3 x4 x5 x6 => nx (x0, x1, x2, x3, x4, x5, x6, ())) (fun w0 w1 w2 w3 => K (.exit 0) (law05RawEvent.outl3e2.enc (w0, w1, w2, w3, ()))) v.1 v.2.1 v.2.2.1 v.2.2.2.1 v.2.2.2.2.1 v.2.2.2.2.2.1 v.2.2.2.2.2.2.1) (l := fun m v => law05RawEvent.l3 n (fun w0 w1 w2 w3 => K (.exit 0) (law05RawEvent.outl3e2.enc (w0, w1, w2, w3, ()))) m v.1 v.2.1 v.2.2.1 v.2.2.2.1 v.2.2.2.2.1 v.2.2.2.2.2.1 v.2.2.2.2.2.2.1) (fun _ => rfl) (fun _ _ => rfl) (fun m v => by kernel_rfl) n v).symm
theorem law05RawEvent.eq (n : Nat) (x : (Kd.struct law05RawEvent.con.ps).T) : evFunc law05RawEvent.env Try.f11 law05RawEvent.body law05RawEvent.con.ps law05RawEvent.con.rs (law05RawEvent.lp n) n x = law05RawEvent.con.f n x := by kernel_rfl
theorem law05RawEvent.sound : Sound Try.prog globs 11 law05RawEvent.con :=
  sound_by (E := law05RawEvent.env) (c := law05RawEvent.body) (envOk (G := globs) (lc := [(46, law04RawValue.con)]) (lo := []) (envB_spec (by kernel_rfl)) rfl rfl ⟨.inl ⟨law04RawValue.sound, by kernel_rfl⟩, trivial⟩ rfl trivial (by kernel_rfl) (by kernel_rfl)) Try.func11 (by kernel_rfl) law05RawEvent.lp (l := [(true, sub [1, 1, 0, 1, 0, 0] law05RawEvent.body, law05RawEvent.nml3)]) (by kernel_rfl) (fun n => ⟨law05RawEvent.atl3 n, trivial⟩) law05RawEvent.eq
noncomputable def ref05Great.b5 (fu : Nat) (next : Int → Int → Int → S2 → Option (Bool × Unit)) (k2 : Int → Option (Bool × Unit)) (n : Int) (v : Int) (vx2 : Int) (b0 : S2) : Option (Bool × Unit) :=
  cond (decide (vx2 < v)) (
    chk (ixOk b0.2.1 vx2) <|
    let e1 := ixL ((0 : Int), (0 : Int), (0 : Nat), [], ()) b0.2.1 vx2
    let t2 := (e1.2.2.2.1.length : Int)
    let t3 := IntKind.i64.wrap (n + min2 t2 (3000 : Int))
    let t4 := IntKind.i64.wrap (vx2 + (1 : Int))
    next t3 v t4 b0) (
    k2 n)
noncomputable def ref05Great.l5 (fu : Nat) (k2 : Int → Option (Bool × Unit)) : Nat → Int → Int → Int → S2 → Option (Bool × Unit)
  | 0, _, _, _, _ => none
  | m + 1, n, v, vx2, b0 => ref05Great.b5 fu (ref05Great.l5 fu k2 m) k2 n v vx2 b0
noncomputable def ref05Great (fu : Nat) (ev : S2) : Option (Bool × Unit) :=
  let t1 := decide ((ev.2.1.length : Int) > (40 : Int))
  cond t1 (
    some (true, ())) (
    ref05Great.l5 fu (fun nq2 => 
        let t2 := decide (nq2 > (3000 : Int))
        some (t2, ())) fu (ev.2.1.length : Int) (ev.2.1.length : Int) (0 : Int) ev)

noncomputable def ref05Great.body : Code := Try.f12.body.getD .skip
abbrev ref05Great.shl5 : Shp := ⟨[.u, .p 0 0, .u, .d (.int .i64), .u, .u, .u, .u, .u, .u, .u, .u, .d (.int .i64), .d (.int .i64), .u, .u, .u, .u, .u, .u, .u, .u, .u, .u, .u, .u, .u, .u, .u], [.c [.g kS2]]⟩
abbrev ref05Great.outl5e2 : Shp := ⟨[.u, .u, .u, .d (.int .i64), .u, .u, .u, .u, .u, .u, .u, .u, .u, .u, .u, .u, .u, .u, .u, .u, .u, .u, .u, .u, .u, .u, .u, .u, .u], []⟩
noncomputable def ref05Great.nml5 : Norm := ⟨{ keep := [1, 3, 12, 13], shut := [(3, (.int .i64)), (12, (.int .i64)), (13, (.int .i64))], retag := [], heap := 1, dead := [], cshut := [(0, 0, (.int .u8)), (0, 1, (.slice kS1))], cretag := [] }, [(2, { keep := [3], shut := [(3, (.int .i64))], retag := [], heap := 0, dead := [], cshut := [], cretag := [] })]⟩
noncomputable def ref05Great.con : Con := { ps := [kS2], rs := [.bool], f := fun n x => ref05Great n x.1 }
noncomputable def ref05Great.env : Env := { tys := [(27, ⟨kS2, 32⟩), (4, ⟨.bool, 1⟩), (25, ⟨(.slice kS1), 24⟩), (34, ⟨kS1, 40⟩), (3, ⟨(.int .i64), 8⟩), (9, ⟨.str, 16⟩)], elems := [(25, 34)], ptrs := [], cons := [], objs := [], loops := [(5, ref05Great.nml5)], cuts := [], globs := globs, base := 0 }
noncomputable def ref05Great.lp (n : Nat) : LP (Kd.struct ref05Great.con.rs).T := fun lo κ body nm K s =>
  cond (lo && Nat.beq κ 5)
    (match ref05Great.shl5.dec s with
    | some v => ref05Great.l5 n (fun w0 => K (.exit 0) (ref05Great.outl5e2.enc (w0, ()))) n v.1 v.2.1 v.2.2.1 v.2.2.2.1
    | none => loops n (Kd.struct ref05Great.con.rs).T lo κ body nm K s)
    (loops n (Kd.struct ref05Great.con.rs).T lo κ body nm K s)
theorem ref05Great.atl5 (n : Nat) (s : St) (K : Ex → St → Option (Kd.struct ref05Great.con.rs).T) : (ref05Great.lp n) true 5 (evK ref05Great.env (ref05Great.lp n) n (sub [1, 1, 1, 0, 1, 0, 0] ref05Great.body)) ref05Great.nml5 K s = loops n (Kd.struct ref05Great.con.rs).T true 5 (evK ref05Great.env (ref05Great.lp n) n (sub [1, 1, 1, 0, 1, 0, 0] ref05Great.body)) ref05Great.nml5 K s := by
  show (match ref05Great.shl5.dec s with | some v => ref05Great.l5 n (fun w0 => K (.exit 0) (ref05Great.outl5e2.enc (w0, ()))) n v.1 v.2.1 v.2.2.1 v.2.2.2.1 | none => loops n (Kd.struct ref05Great.con.rs).T true 5 (evK ref05Great.env (ref05Great.lp n) n (sub [1, 1, 1, 0, 1, 0, 0] ref05Great.body)) ref05Great.nml5 K s) = _
  cases h : ref05Great.shl5.dec s with
  | none => rfl
  | some v =>
    rw [Shp.dec_enc h]
    exact (evLoop_eq (sh := ref05Great.shl5) (body := evK ref05Great.env (ref05Great.lp n) n (sub [1, 1, 1, 0, 1, 0, 0] ref05Great.body)) (nm := ref05Great.nml5) (K := K) (b := fun nx v => ref05Great.b5 n (fun x0 x1 x2 x3 => nx (x0, x1, x2, x3, ())) (fun w0 => K (.exit 0) (ref05Great.outl5e2.enc (w0, ()))) v.1 v.2.1 v.2.2.1 v.2.2.2.1) (l := fun m v => ref05Great.l5 n (fun w0 => K (.exit 0) (ref05Great.outl5e2.enc (w0, ()))) m v.1 v.2.1 v.2.2.1 v.2.2.2.1) (fun _ => rfl) (fun _ _ => rfl) (fun m v => by kernel_rfl) n v).symm
theorem ref05Great.eq (n : Nat) (x : (Kd.struct ref05Great.con.ps).T) : evFunc ref05Great.env Try.f12 ref05Great.body ref05Great.con.ps ref05Great.con.rs (ref05Great.lp n) n x = ref05Great.con.f n x := by kernel_rfl
theorem ref05Great.sound : Sound Try.prog globs 12 ref05Great.con :=
  sound_by (E := ref05Great.env) (c := ref05Great.body) (envOk (G := globs) (lc := []) (lo := []) (envB_spec (by kernel_rfl)) rfl rfl trivial rfl trivial (by kernel_rfl) (by kernel_rfl)) Try.func12 (by kernel_rfl) ref05Great.lp (l := [(true, sub [1, 1, 1, 0, 1, 0, 0] ref05Great.body, ref05Great.nml5)]) (by kernel_rfl) (fun n => ⟨ref05Great.atl5 n, trivial⟩) ref05Great.eq
noncomputable def valueHeld (fu : Nat) (v : S1) : Option (S1 × Unit) :=
  cond (v.1 == (1 : Int)) (
    some ((v.1, v.2.1, (0 : Nat), [], ()), ())) (
    cond (v.1 == (2 : Int)) (
      some ((v.1, (0 : Int), v.2.2.1, [], ()), ())) (
      cond (v.1 == (3 : Int)) (
        some ((v.1, (0 : Int), (0 : Nat), v.2.2.2.1, ()), ())) (
        some ((v.1, (0 : Int), (0 : Nat), [], ()), ()))))

noncomputable def valueHeld.body : Code := Try.f94.body.getD .skip
noncomputable def valueHeld.con : Con := { ps := [kS1], rs := [kS1], f := fun n x => valueHeld n x.1 }
noncomputable def valueHeld.env : Env := { tys := [(34, ⟨kS1, 40⟩), (5, ⟨(.int .u8), 1⟩), (2, ⟨(.int .i64), 8⟩), (32, ⟨.flt, 8⟩), (9, ⟨.str, 16⟩)], elems := [], ptrs := [], cons := [], objs := [], loops := [], cuts := [], globs := globs, base := 0 }
noncomputable def valueHeld.lp (n : Nat) : LP (Kd.struct valueHeld.con.rs).T := fun lo κ body nm K s =>
  loops n (Kd.struct valueHeld.con.rs).T lo κ body nm K s
theorem valueHeld.eq (n : Nat) (x : (Kd.struct valueHeld.con.ps).T) : evFunc valueHeld.env Try.f94 valueHeld.body valueHeld.con.ps valueHeld.con.rs (valueHeld.lp n) n x = valueHeld.con.f n x := by kernel_rfl
theorem valueHeld.sound : Sound Try.prog globs 94 valueHeld.con :=
  sound_by (E := valueHeld.env) (c := valueHeld.body) (envOk (G := globs) (lc := []) (lo := []) (envB_spec (by kernel_rfl)) rfl rfl trivial rfl trivial (by kernel_rfl) (by kernel_rfl)) Try.func94 (by kernel_rfl) valueHeld.lp (l := []) (by kernel_rfl) (fun n => trivial) valueHeld.eq
noncomputable def valueMay (fu : Nat) (v : S1) : Option (Bool × Unit) :=
  (valueHeld fu v).bind fun r1 =>
  cond (decide (v.1 ≤ (3 : Int))) (
    let t2 := decide ((v.2.2.2.1.length : Int) ≤ (255 : Int))
    cond t2 (
      cond (r1.1.2.1 == v.2.1) (
        let t3 := r1.1.2.2.2.1 == v.2.2.2.1
        cond t3 (
          (extBits.f fu (r1.1.2.2.1, ())).bind fun r4 =>
          (extBits.f fu (v.2.2.1, ())).bind fun r5 =>
          some (r4.1 == r5.1, ())) (
          some (false, ()))) (
        some (false, ()))) (
      some (false, ()))) (
    some (false, ()))

noncomputable def valueMay.body : Code := Try.f59.body.getD .skip
noncomputable def valueMay.con : Con := { ps := [kS1], rs := [.bool], f := fun n x => valueMay n x.1 }
noncomputable def valueMay.env : Env := { tys := [(34, ⟨kS1, 40⟩), (4, ⟨.bool, 1⟩), (5, ⟨(.int .u8), 1⟩), (9, ⟨.str, 16⟩), (2, ⟨(.int .i64), 8⟩), (32, ⟨.flt, 8⟩)], elems := [], ptrs := [], cons := [(94, valueHeld.con), (92, extBits)], objs := [], loops := [], cuts := [], globs := globs, base := 0 }
noncomputable def valueMay.lp (n : Nat) : LP (Kd.struct valueMay.con.rs).T := fun lo κ body nm K s =>
  loops n (Kd.struct valueMay.con.rs).T lo κ body nm K s
theorem valueMay.eq (n : Nat) (x : (Kd.struct valueMay.con.ps).T) : evFunc valueMay.env Try.f59 valueMay.body valueMay.con.ps valueMay.con.rs (valueMay.lp n) n x = valueMay.con.f n x := by kernel_rfl
theorem valueMay.sound : Sound Try.prog globs 59 valueMay.con :=
  sound_by (E := valueMay.env) (c := valueMay.body) (envOk (G := globs) (lc := [(94, valueHeld.con), (92, extBits)]) (lo := []) (envB_spec (by kernel_rfl)) rfl rfl ⟨.inl ⟨valueHeld.sound, by kernel_rfl⟩, ⟨.inr (extBits_ok Try.func92 (by kernel_rfl) (by kernel_rfl) (by kernel_rfl) (by kernel_rfl)), trivial⟩⟩ rfl trivial (by kernel_rfl) (by kernel_rfl)) Try.func59 (by kernel_rfl) valueMay.lp (l := []) (by kernel_rfl) (fun n => trivial) valueMay.eq
noncomputable def eventMay1 (fu : Nat) (v : S1) : Option (Bool × Unit) :=
  (valueMay fu v).bind fun r1 =>
  some (!r1.1, ())

noncomputable def eventMay1.body : Code := Try.f58.body.getD .skip
noncomputable def eventMay1.con : Con := { ps := [kS1], rs := [.bool], f := fun n x => eventMay1 n x.1 }
noncomputable def eventMay1.env : Env := { tys := [(34, ⟨kS1, 40⟩), (4, ⟨.bool, 1⟩)], elems := [], ptrs := [], cons := [(59, valueMay.con)], objs := [], loops := [], cuts := [], globs := globs, base := 0 }
noncomputable def eventMay1.lp (n : Nat) : LP (Kd.struct eventMay1.con.rs).T := fun lo κ body nm K s =>
  loops n (Kd.struct eventMay1.con.rs).T lo κ body nm K s
theorem eventMay1.eq (n : Nat) (x : (Kd.struct eventMay1.con.ps).T) : evFunc eventMay1.env Try.f58 eventMay1.body eventMay1.con.ps eventMay1.con.rs (eventMay1.lp n) n x = eventMay1.con.f n x := by kernel_rfl
theorem eventMay1.sound : Sound Try.prog globs 58 eventMay1.con :=
  sound_by (E := eventMay1.env) (c := eventMay1.body) (envOk (G := globs) (lc := [(59, valueMay.con)]) (lo := []) (envB_spec (by kernel_rfl)) rfl rfl ⟨.inl ⟨valueMay.sound, by kernel_rfl⟩, trivial⟩ rfl trivial (by kernel_rfl) (by kernel_rfl)) Try.func58 (by kernel_rfl) eventMay1.lp (l := []) (by kernel_rfl) (fun n => trivial) eventMay1.eq
noncomputable def slicesIndexFunc.b2 (fu : Nat) (next : (List S1) → Int → Int → Option ((Int × Unit) × (Unit))) (k1 : Int → Option ((Int × Unit) × (Unit))) (k2 : Unit → Option ((Int × Unit) × (Unit))) (sv : List S1) (v : Int) (vx2 : Int) : Option ((Int × Unit) × (Unit)) :=
  cond (decide (vx2 < v)) (
    chk (ixOk sv vx2) <|
    let e1 := ixL ((0 : Int), (0 : Int), (0 : Nat), [], ()) sv vx2
    (eventMay1 fu e1).bind fun r2 =>
    cond r2.1 (
      k1 vx2) (
      let t3 := IntKind.i64.wrap (vx2 + (1 : Int))
      next sv v t3)) (
    k2 ())
noncomputable def slicesIndexFunc.l2 (fu : Nat) (k1 : Int → Option ((Int × Unit) × (Unit))) (k2 : Unit → Option ((Int × Unit) × (Unit))) : Nat → (List S1) → Int → Int → Option ((Int × Unit) × (Unit))
  | 0, _, _, _ => none
  | m + 1, sv, v, vx2 => slicesIndexFunc.b2 fu (slicesIndexFunc.l2 fu k1 k2 m) k1 k2 sv v vx2
noncomputable def slicesIndexFunc (fu : Nat) (sv : List S1) : Option ((Int × Unit) × (Unit)) :=
  slicesIndexFunc.l2 fu (fun vq3 => 
      some ((vq3, ()), (()))) (fun (_ : Unit) => 
      some (((-1 : Int), ()), (()))) fu sv (sv.length : Int) (0 : Int)

noncomputable def slicesIndexFunc.body : Code := Try.f108.body.getD .skip
abbrev slicesIndexFunc.shl2 : Shp := ⟨[.d (.slice kS1), .f 58, .u, .u, .u, .u, .u, .d (.int .i64), .d (.int .i64), .u, .u, .u, .u, .u, .u, .u, .u, .u, .u], []⟩
abbrev slicesIndexFunc.outl2e1 : Shp := ⟨[.u, .u, .u, .u, .d (.int .i64), .u, .u, .u, .u, .u, .u, .u, .u, .u, .u, .u, .u, .u, .u], []⟩
abbrev slicesIndexFunc.outl2e2 : Shp := ⟨[.u, .u, .u, .u, .u, .u, .u, .u, .u, .u, .u, .u, .u, .u, .u, .u, .u, .u, .u], []⟩
noncomputable def slicesIndexFunc.nml2 : Norm := ⟨{ keep := [0, 1, 7, 8], shut := [(0, (.slice kS1)), (7, (.int .i64)), (8, (.int .i64))], retag := [], heap := 0, dead := [], cshut := [], cretag := [] }, [(1, { keep := [4], shut := [(4, (.int .i64))], retag := [], heap := 0, dead := [], cshut := [], cretag := [] }), (2, { keep := [], shut := [], retag := [], heap := 0, dead := [], cshut := [], cretag := [] })]⟩
noncomputable def slicesIndexFunc.con : OCon := { ps := [.dat (.slice kS1), .fn 58], rs := [.dat (.int .i64)], f := fun n x => slicesIndexFunc n x.1 }
noncomputable def slicesIndexFunc.env : Env := { tys := [(3, ⟨(.int .i64), 8⟩), (34, ⟨kS1, 40⟩)], elems := [(25, 34)], ptrs := [], cons := [(58, eventMay1.con)], objs := [], loops := [(2, slicesIndexFunc.nml2)], cuts := [], globs := globs, base := 0 }
noncomputable def slicesIndexFunc.lp (n : Nat) : LP (RT slicesIndexFunc.con.rs × BT slicesIndexFunc.con.ps) := fun lo κ body nm K s =>
  cond (lo && Nat.beq κ 2)
    (match slicesIndexFunc.shl2.dec s with
    | some v => slicesIndexFunc.l2 n (fun w0 => K .ret (slicesIndexFunc.outl2e1.enc (w0, ()))) (fun _ => K (.exit 0) (slicesIndexFunc.outl2e2.enc (()))) n v.1 v.2.1 v.2.2.1
    | none => loops n (RT slicesIndexFunc.con.rs × BT slicesIndexFunc.con.ps) lo κ body nm K s)
    (loops n (RT slicesIndexFunc.con.rs × BT slicesIndexFunc.con.ps) lo κ body nm K s)
theorem slicesIndexFunc.atl2 (n : Nat) (s : St) (K : Ex → St → Option (RT slicesIndexFunc.con.rs × BT slicesIndexFunc.con.ps)) : (slicesIndexFunc.lp n) true 2 (evK slicesIndexFunc.env (slicesIndexFunc.lp n) n (sub [1, 0, 1, 0, 0] slicesIndexFunc.body)) slicesIndexFunc.nml2 K s = loops n (RT slicesIndexFunc.con.rs × BT slicesIndexFunc.con.ps) true 2 (evK slicesIndexFunc.env (slicesIndexFunc.lp n) n (sub [1, 0, 1, 0, 0] slicesIndexFunc.body)) slicesIndexFunc.nml2 K s := by
  show (match slicesIndexFunc.shl2.dec s with | some v => slicesIndexFunc.l2 n (fun w0 => K .ret (slicesIndexFunc.outl2e1.enc (w0, ()))) (fun _ => K (.exit 0) (slicesIndexFunc.outl2e2.enc (()))) n v.1 v.2.1 v.2.2.1 | none => loops n (RT slicesIndexFunc.con.rs × BT slicesIndexFunc.con.ps) true 2 (evK slicesIndexFunc.env (slicesIndexFunc.lp n) n (sub [1, 0, 1, 0, 0] slicesIndexFunc.body)) slicesIndexFunc.nml2 K s) = _
  cases h : slicesIndexFunc.shl2.dec s with
  | none => rfl
  | some v =>
    rw [Shp.dec_enc h]
    exact (evLoop_eq (sh := slicesIndexFunc.shl2) (body := evK slicesIndexFunc.env (slicesIndexFunc.lp n) n (sub [1, 0, 1, 0, 0] slicesIndexFunc.body)) (nm := slicesIndexFunc.nml2) (K := K) (b := fun nx v => slicesIndexFunc.b2 n (fun x0 x1 x2 => nx (x0, x1, x2, ())) (fun w0 => K .ret (slicesIndexFunc.outl2e1.enc (w0, ()))) (fun _ => K (.exit 0) (slicesIndexFunc.outl2e2.enc (()))) v.1 v.2.1 v.2.2.1) (l := fun m v => slicesIndexFunc.l2 n (fun w0 => K .ret (slicesIndexFunc.outl2e1.enc (w0, ()))) (fun _ => K (.exit 0) (slicesIndexFunc.outl2e2.enc (()))) m v.1 v.2.1 v.2.2.1) (fun _ => rfl) (fun _ _ => rfl) (fun m v => by kernel_rfl) n v).symm
theorem slicesIndexFunc.eq (n : Nat) (x : PT slicesIndexFunc.con.ps) : evFuncO slicesIndexFunc.env Try.f108 slicesIndexFunc.body slicesIndexFunc.con.ps slicesIndexFunc.con.rs (slicesIndexFunc.lp n) n x = slicesIndexFunc.con.f n x := by kernel_rfl
theorem slicesIndexFunc.sound : SoundO Try.prog globs 108 slicesIndexFunc.con :=
  sound_byO (E := slicesIndexFunc.env) (c := slicesIndexFunc.body) (envOk (G := globs) (lc := [(58, eventMay1.con)]) (lo := []) (envB_spec (by kernel_rfl)) rfl rfl ⟨.inl ⟨eventMay1.sound, by kernel_rfl⟩, trivial⟩ rfl trivial (by kernel_rfl) (by kernel_rfl)) Try.func108 (by kernel_rfl) (by kernel_rfl) (by kernel_rfl) slicesIndexFunc.lp (l := [(true, sub [1, 0, 1, 0, 0] slicesIndexFunc.body, slicesIndexFunc.nml2)]) (by kernel_rfl) (fun n => ⟨slicesIndexFunc.atl2 n, trivial⟩) slicesIndexFunc.eq
noncomputable def slicesContainsFunc (fu : Nat) (sv : List S1) : Option ((Bool × Unit) × (Unit)) :=
  (slicesIndexFunc fu sv).bind fun r1 =>
  let t2 := decide (r1.1.1 ≥ (0 : Int))
  some ((t2, ()), (()))

noncomputable def slicesContainsFunc.body : Code := Try.f57.body.getD .skip
noncomputable def slicesContainsFunc.con : OCon := { ps := [.dat (.slice kS1), .fn 58], rs := [.dat .bool], f := fun n x => slicesContainsFunc n x.1 }
noncomputable def slicesContainsFunc.env : Env := { tys := [(4, ⟨.bool, 1⟩)], elems := [], ptrs := [], cons := [], objs := [(108, [slicesIndexFunc.con])], loops := [], cuts := [], globs := globs, base := 0 }
noncomputable def slicesContainsFunc.lp (n : Nat) : LP (RT slicesContainsFunc.con.rs × BT slicesContainsFunc.con.ps) := fun lo κ body nm K s =>
  loops n (RT slicesContainsFunc.con.rs × BT slicesContainsFunc.con.ps) lo κ body nm K s
theorem slicesContainsFunc.eq (n : Nat) (x : PT slicesContainsFunc.con.ps) : evFuncO slicesContainsFunc.env Try.f57 slicesContainsFunc.body slicesContainsFunc.con.ps slicesContainsFunc.con.rs (slicesContainsFunc.lp n) n x = slicesContainsFunc.con.f n x := by kernel_rfl
theorem slicesContainsFunc.sound : SoundO Try.prog globs 57 slicesContainsFunc.con :=
  sound_byO (E := slicesContainsFunc.env) (c := slicesContainsFunc.body) (envOk (G := globs) (lc := []) (lo := [(108, [slicesIndexFunc.con])]) (envB_spec (by kernel_rfl)) rfl rfl trivial rfl ⟨⟨⟨slicesIndexFunc.sound, trivial⟩, by kernel_rfl⟩, trivial⟩ (by kernel_rfl) (by kernel_rfl)) Try.func57 (by kernel_rfl) (by kernel_rfl) (by kernel_rfl) slicesContainsFunc.lp (l := []) (by kernel_rfl) (fun n => trivial) slicesContainsFunc.eq
noncomputable def eventMay (fu : Nat) (ev : S2) : Option (Bool × Unit) :=
  let t1 := decide ((ev.2.1.length : Int) ≤ (8 : Int))
  cond t1 (
    (slicesContainsFunc fu ev.2.1).bind fun r2 =>
    some (!r2.1.1, ())) (
    some (false, ()))

noncomputable def eventMay.body : Code := Try.f22.body.getD .skip
noncomputable def eventMay.con : Con := { ps := [kS2], rs := [.bool], f := fun n x => eventMay n x.1 }
noncomputable def eventMay.env : Env := { tys := [(27, ⟨kS2, 32⟩), (4, ⟨.bool, 1⟩), (25, ⟨(.slice kS1), 24⟩), (34, ⟨kS1, 40⟩)], elems := [(25, 34)], ptrs := [], cons := [], objs := [(57, [slicesContainsFunc.con])], loops := [], cuts := [], globs := globs, base := 0 }
noncomputable def eventMay.lp (n : Nat) : LP (Kd.struct eventMay.con.rs).T := fun lo κ body nm K s =>
  loops n (Kd.struct eventMay.con.rs).T lo κ body nm K s
theorem eventMay.eq (n : Nat) (x : (Kd.struct eventMay.con.ps).T) : evFunc eventMay.env Try.f22 eventMay.body eventMay.con.ps eventMay.con.rs (eventMay.lp n) n x = eventMay.con.f n x := by kernel_rfl
theorem eventMay.sound : Sound Try.prog globs 22 eventMay.con :=
  sound_by (E := eventMay.env) (c := eventMay.body) (envOk (G := globs) (lc := []) (lo := [(57, [slicesContainsFunc.con])]) (envB_spec (by kernel_rfl)) rfl rfl trivial rfl ⟨⟨⟨slicesContainsFunc.sound, trivial⟩, by kernel_rfl⟩, trivial⟩ (by kernel_rfl) (by kernel_rfl)) Try.func22 (by kernel_rfl) eventMay.lp (l := []) (by kernel_rfl) (fun n => trivial) eventMay.eq
noncomputable def slicesClone (fu : Nat) (sv : List Int) : Option (((List Int) × Unit) × (Unit)) :=
  nilQ sv (
    some (([], ()), (()))) (
    chk (apOk [] sv 1) <|
    some (([] ++ sv, ()), (())))

noncomputable def slicesClone.body : Code := Try.f54.body.getD .skip
noncomputable def slicesClone.con : OCon := { ps := [.dat (.slice (.int .u8))], rs := [.own (.int .u8)], f := fun n x => slicesClone n x.1 }
noncomputable def slicesClone.env : Env := { tys := [(38, ⟨(.slice (.int .u8)), 24⟩), (5, ⟨(.int .u8), 1⟩)], elems := [(38, 5)], ptrs := [], cons := [], objs := [], loops := [], cuts := [], globs := globs, base := 0 }
noncomputable def slicesClone.lp (n : Nat) : LP (RT slicesClone.con.rs × BT slicesClone.con.ps) := fun lo κ body nm K s =>
  loops n (RT slicesClone.con.rs × BT slicesClone.con.ps) lo κ body nm K s
theorem slicesClone.eq (n : Nat) (x : PT slicesClone.con.ps) : evFuncO slicesClone.env Try.f54 slicesClone.body slicesClone.con.ps slicesClone.con.rs (slicesClone.lp n) n x = slicesClone.con.f n x := by kernel_rfl
theorem slicesClone.sound : SoundO Try.prog globs 54 slicesClone.con :=
  sound_byO (E := slicesClone.env) (c := slicesClone.body) (envOk (G := globs) (lc := []) (lo := []) (envB_spec (by kernel_rfl)) rfl rfl trivial rfl trivial (by kernel_rfl) (by kernel_rfl)) Try.func54 (by kernel_rfl) (by kernel_rfl) (by kernel_rfl) slicesClone.lp (l := []) (by kernel_rfl) (fun n => trivial) slicesClone.eq
noncomputable def bitsLen64.j7 (fu : Nat) (k1 : Int → Option (Int × Unit)) (xv : Int) (n : Int) : Option (Int × Unit) :=
  let t1 := decide (xv ≥ (256 : Int))
  cond t1 (
    let t2 := IntKind.i64.wrap (n + (8 : Int))
    let t3 := IntKind.u8.wrap (sShr .u64 xv (8 : Int))
    chk (ixOk ([0, 1, 2, 2, 3, 3, 3, 3, 4, 4, 4, 4, 4, 4, 4, 4, 5, 5, 5, 5, 5, 5, 5, 5, 5, 5, 5, 5, 5, 5, 5, 5, 6, 6, 6, 6, 6, 6, 6, 6, 6, 6, 6, 6, 6, 6, 6, 6, 6, 6, 6, 6, 6, 6, 6, 6, 6, 6, 6, 6, 6, 6, 6, 6, 7, 7, 7, 7, 7, 7, 7, 7, 7, 7, 7, 7, 7, 7, 7, 7, 7, 7, 7, 7, 7, 7, 7, 7, 7, 7, 7, 7, 7, 7, 7, 7, 7, 7, 7, 7, 7, 7, 7, 7, 7, 7, 7, 7, 7, 7, 7, 7, 7, 7, 7, 7, 7, 7, 7, 7, 7, 7, 7, 7, 7, 7, 7, 7, 8, 8, 8, 8, 8, 8, 8, 8, 8, 8, 8, 8, 8, 8, 8, 8, 8, 8, 8, 8, 8, 8, 8, 8, 8, 8, 8, 8, 8, 8, 8, 8, 8, 8, 8, 8, 8, 8, 8, 8, 8, 8, 8, 8, 8, 8, 8, 8, 8, 8, 8, 8, 8, 8, 8, 8, 8, 8, 8, 8, 8, 8, 8, 8, 8, 8, 8, 8, 8, 8, 8, 8, 8, 8, 8, 8, 8, 8, 8, 8, 8, 8, 8, 8, 8, 8, 8, 8, 8, 8, 8, 8, 8, 8, 8, 8, 8, 8, 8, 8, 8, 8, 8, 8, 8, 8, 8, 8, 8, 8, 8, 8, 8, 8, 8, 8, 8, 8, 8, 8, 8, 8, 8, 8, 8, 8, 8, 8] : List Int) t3) <|
    let t4 := ixL (0 : Int) ([0, 1, 2, 2, 3, 3, 3, 3, 4, 4, 4, 4, 4, 4, 4, 4, 5, 5, 5, 5, 5, 5, 5, 5, 5, 5, 5, 5, 5, 5, 5, 5, 6, 6, 6, 6, 6, 6, 6, 6, 6, 6, 6, 6, 6, 6, 6, 6, 6, 6, 6, 6, 6, 6, 6, 6, 6, 6, 6, 6, 6, 6, 6, 6, 7, 7, 7, 7, 7, 7, 7, 7, 7, 7, 7, 7, 7, 7, 7, 7, 7, 7, 7, 7, 7, 7, 7, 7, 7, 7, 7, 7, 7, 7, 7, 7, 7, 7, 7, 7, 7, 7, 7, 7, 7, 7, 7, 7, 7, 7, 7, 7, 7, 7, 7, 7, 7, 7, 7, 7, 7, 7, 7, 7, 7, 7, 7, 7, 8, 8, 8, 8, 8, 8, 8, 8, 8, 8, 8, 8, 8, 8, 8, 8, 8, 8, 8, 8, 8, 8, 8, 8, 8, 8, 8, 8, 8, 8, 8, 8, 8, 8, 8, 8, 8, 8, 8, 8, 8, 8, 8, 8, 8, 8, 8, 8, 8, 8, 8, 8, 8, 8, 8, 8, 8, 8, 8, 8, 8, 8, 8, 8, 8, 8, 8, 8, 8, 8, 8, 8, 8, 8, 8, 8, 8, 8, 8, 8, 8, 8, 8, 8, 8, 8, 8, 8, 8, 8, 8, 8, 8, 8, 8, 8, 8, 8, 8, 8, 8, 8, 8, 8, 8, 8, 8, 8, 8, 8, 8, 8, 8, 8, 8, 8, 8, 8, 8, 8, 8, 8, 8, 8, 8, 8, 8, 8] : List Int) t3
    let t5 := IntKind.i64.wrap (t2 + IntKind.i64.wrap t4)
    k1 t5) (
    chk (ixOk ([0, 1, 2, 2, 3, 3, 3, 3, 4, 4, 4, 4, 4, 4, 4, 4, 5, 5, 5, 5, 5, 5, 5, 5, 5, 5, 5, 5, 5, 5, 5, 5, 6, 6, 6, 6, 6, 6, 6, 6, 6, 6, 6, 6, 6, 6, 6, 6, 6, 6, 6, 6, 6, 6, 6, 6, 6, 6, 6, 6, 6, 6, 6, 6, 7, 7, 7, 7, 7, 7, 7, 7, 7, 7, 7, 7, 7, 7, 7, 7, 7, 7, 7, 7, 7, 7, 7, 7, 7, 7, 7, 7, 7, 7, 7, 7, 7, 7, 7, 7, 7, 7, 7, 7, 7, 7, 7, 7, 7, 7, 7, 7, 7, 7, 7, 7, 7, 7, 7, 7, 7, 7, 7, 7, 7, 7, 7, 7, 8, 8, 8, 8, 8, 8, 8, 8, 8, 8, 8, 8, 8, 8, 8, 8, 8, 8, 8, 8, 8, 8, 8, 8, 8, 8, 8, 8, 8, 8, 8, 8, 8, 8, 8, 8, 8, 8, 8, 8, 8, 8, 8, 8, 8, 8, 8, 8, 8, 8, 8, 8, 8, 8, 8, 8, 8, 8, 8, 8, 8, 8, 8, 8, 8, 8, 8, 8, 8, 8, 8, 8, 8, 8, 8, 8, 8, 8, 8, 8, 8, 8, 8, 8, 8, 8, 8, 8, 8, 8, 8, 8, 8, 8, 8, 8, 8, 8, 8, 8, 8, 8, 8, 8, 8, 8, 8, 8, 8, 8, 8, 8, 8, 8, 8, 8, 8, 8, 8, 8, 8, 8, 8, 8, 8, 8, 8, 8] : List Int) (IntKind.u8.wrap xv)) <|
    let t6 := ixL (0 : Int) ([0, 1, 2, 2, 3, 3, 3, 3, 4, 4, 4, 4, 4, 4, 4, 4, 5, 5, 5, 5, 5, 5, 5, 5, 5, 5, 5, 5, 5, 5, 5, 5, 6, 6, 6, 6, 6, 6, 6, 6, 6, 6, 6, 6, 6, 6, 6, 6, 6, 6, 6, 6, 6, 6, 6, 6, 6, 6, 6, 6, 6, 6, 6, 6, 7, 7, 7, 7, 7, 7, 7, 7, 7, 7, 7, 7, 7, 7, 7, 7, 7, 7, 7, 7, 7, 7, 7, 7, 7, 7, 7, 7, 7, 7, 7, 7, 7, 7, 7, 7, 7, 7, 7, 7, 7, 7, 7, 7, 7, 7, 7, 7, 7, 7, 7, 7, 7, 7, 7, 7, 7, 7, 7, 7, 7, 7, 7, 7, 8, 8, 8, 8, 8, 8, 8, 8, 8, 8, 8, 8, 8, 8, 8, 8, 8, 8, 8, 8, 8, 8, 8, 8, 8, 8, 8, 8, 8, 8, 8, 8, 8, 8, 8, 8, 8, 8, 8, 8, 8, 8, 8, 8, 8, 8, 8, 8, 8, 8, 8, 8, 8, 8, 8, 8, 8, 8, 8, 8, 8, 8, 8, 8, 8, 8, 8, 8, 8, 8, 8, 8, 8, 8, 8, 8, 8, 8, 8, 8, 8, 8, 8, 8, 8, 8, 8, 8, 8, 8, 8, 8, 8, 8, 8, 8, 8, 8, 8, 8, 8, 8, 8, 8, 8, 8, 8, 8, 8, 8, 8, 8, 8, 8, 8, 8, 8, 8, 8, 8, 8, 8, 8, 8, 8, 8, 8, 8] : List Int) (IntKind.u8.wrap xv)
    let t7 := IntKind.i64.wrap (n + IntKind.i64.wrap t6)
    k1 t7)
noncomputable def bitsLen64.j4 (fu : Nat) (k1 : Int → Option (Int × Unit)) (xv : Int) (n : Int) : Option (Int × Unit) :=
  let t1 := decide (xv ≥ (65536 : Int))
  cond t1 (
    let t2 := IntKind.i64.wrap (n + (16 : Int))
    bitsLen64.j7 fu (fun nq3 => 
        k1 nq3) (sShr .u64 xv (16 : Int)) t2) (
    bitsLen64.j7 fu (fun nq4 => 
        k1 nq4) xv n)
noncomputable def bitsLen64 (fu : Nat) (xv : Int) : Option (Int × Unit) :=
  let t1 := decide (xv ≥ (4294967296 : Int))
  cond t1 (
    bitsLen64.j4 fu (fun nq1 => 
        some (nq1, ())) (sShr .u64 xv (32 : Int)) (32 : Int)) (
    bitsLen64.j4 fu (fun nq2 => 
        some (nq2, ())) xv (0 : Int))

noncomputable def bitsLen64.body : Code := Try.f129.body.getD .skip
abbrev bitsLen64.shj7 : Shp := ⟨[.d (.int .u64), .u, .d (.int .i64), .u, .u, .u, .u, .u, .u, .u, .u, .u, .u, .u, .u, .u, .u, .u, .u, .u, .u, .u, .u, .u, .u], []⟩
abbrev bitsLen64.outj7e1 : Shp := ⟨[.u, .u, .d (.int .i64), .u, .u, .u, .u, .u, .u, .u, .u, .u, .u, .u, .u, .u, .u, .u, .u, .u, .u, .u, .u, .u, .u], []⟩
noncomputable def bitsLen64.nmj7 : Norm := ⟨{ keep := [0, 2], shut := [(0, (.int .u64)), (2, (.int .i64))], retag := [], heap := 0, dead := [], cshut := [], cretag := [] }, [(1, { keep := [2], shut := [(2, (.int .i64))], retag := [], heap := 0, dead := [], cshut := [], cretag := [] })]⟩
abbrev bitsLen64.shj4 : Shp := ⟨[.d (.int .u64), .u, .d (.int .i64), .u, .u, .u, .u, .u, .u, .u, .u, .u, .u, .u, .u, .u, .u, .u, .u, .u, .u, .u, .u, .u, .u], []⟩
abbrev bitsLen64.outj4e1 : Shp := ⟨[.u, .u, .d (.int .i64), .u, .u, .u, .u, .u, .u, .u, .u, .u, .u, .u, .u, .u, .u, .u, .u, .u, .u, .u, .u, .u, .u], []⟩
noncomputable def bitsLen64.nmj4 : Norm := ⟨{ keep := [0, 2], shut := [(0, (.int .u64)), (2, (.int .i64))], retag := [], heap := 0, dead := [], cshut := [], cretag := [] }, [(1, { keep := [2], shut := [(2, (.int .i64))], retag := [], heap := 0, dead := [], cshut := [], cretag := [] })]⟩
noncomputable def bitsLen64.con : Con := { ps := [(.int .u64)], rs := [(.int .i64)], f := fun n x => bitsLen64 n x.1 }
noncomputable def bitsLen64.env : Env := { tys := [(3, ⟨(.int .i64), 8⟩), (5, ⟨(.int .u8), 1⟩), (51, ⟨(.int .u64), 8⟩), (9, ⟨.str, 16⟩)], elems := [], ptrs := [], cons := [], objs := [], loops := [], cuts := [(7, bitsLen64.nmj7), (4, bitsLen64.nmj4)], globs := globs, base := 0 }
noncomputable def bitsLen64.lp (n : Nat) : LP (Kd.struct bitsLen64.con.rs).T := fun lo κ body nm K s =>
  cond (!lo && Nat.beq κ 7)
    (match bitsLen64.shj7.dec s with
    | some v => bitsLen64.j7 n (fun w0 => K .ret (bitsLen64.outj7e1.enc (w0, ()))) v.1 v.2.1
    | none => loops n (Kd.struct bitsLen64.con.rs).T lo κ body nm K s)
    (cond (!lo && Nat.beq κ 4)
    (match bitsLen64.shj4.dec s with
    | some v => bitsLen64.j4 n (fun w0 => K .ret (bitsLen64.outj4e1.enc (w0, ()))) v.1 v.2.1
    | none => loops n (Kd.struct bitsLen64.con.rs).T lo κ body nm K s)
    (loops n (Kd.struct bitsLen64.con.rs).T lo κ body nm K s))
theorem bitsLen64.atj7 (n : Nat) (s : St) (K : Ex → St → Option (Kd.struct bitsLen64.con.rs).T) : (bitsLen64.lp n) false 7 (evK bitsLen64.env (bitsLen64.lp n) n (sub [1, 1, 1] bitsLen64.body)) bitsLen64.nmj7 K s = loops n (Kd.struct bitsLen64.con.rs).T false 7 (evK bitsLen64.env (bitsLen64.lp n) n (sub [1, 1, 1] bitsLen64.body)) bitsLen64.nmj7 K s := by
  show (match bitsLen64.shj7.dec s with | some v => bitsLen64.j7 n (fun w0 => K .ret (bitsLen64.outj7e1.enc (w0, ()))) v.1 v.2.1 | none => loops n (Kd.struct bitsLen64.con.rs).T false 7 (evK bitsLen64.env (bitsLen64.lp n) n (sub [1, 1, 1] bitsLen64.body)) bitsLen64.nmj7 K s) = _
  cases h : bitsLen64.shj7.dec s with
  | none => rfl
  | some v =>
    rw [Shp.dec_enc h]
    kernel_rfl
theorem bitsLen64.atj4 (n : Nat) (s : St) (K : Ex → St → Option (Kd.struct bitsLen64.con.rs).T) : (bitsLen64.lp n) false 4 (evK bitsLen64.env (bitsLen64.lp n) n (sub [1, 1] bitsLen64.body)) bitsLen64.nmj4 K s = loops n (Kd.struct bitsLen64.con.rs).T false 4 (evK bitsLen64.env (bitsLen64.lp n) n (sub [1, 1] bitsLen64.body)) bitsLen64.nmj4 K s := by
  show (match bitsLen64.shj4.dec s with | some v => bitsLen64.j4 n (fun w0 => K .ret (bitsLen64.outj4e1.enc (w0, ()))) v.1 v.2.1 | none => loops n (Kd.struct bitsLen64.con.rs).T false 4 (evK bitsLen64.env (bitsLen64.lp n) n (sub [1, 1] bitsLen64.body)) bitsLen64.nmj4 K s) = _
  cases h : bitsLen64.shj4.dec s with
  | none => rfl
  | some v =>
    rw [Shp.dec_enc h]
    kernel_rfl
theorem bitsLen64.eq (n : Nat) (x : (Kd.struct bitsLen64.con.ps).T) : evFunc bitsLen64.env Try.f129 bitsLen64.body bitsLen64.con.ps bitsLen64.con.rs (bitsLen64.lp n) n x = bitsLen64.con.f n x := by kernel_rfl
theorem bitsLen64.sound : Sound Try.prog globs 129 bitsLen64.con :=
  sound_by (E := bitsLen64.env) (c := bitsLen64.body) (envOk (G := globs) (lc := []) (lo := []) (envB_spec (by kernel_rfl)) rfl rfl trivial rfl trivial (by kernel_rfl) (by kernel_rfl)) Try.func129 (by kernel_rfl) bitsLen64.lp (l := [(false, sub [1, 1, 1] bitsLen64.body, bitsLen64.nmj7), (false, sub [1, 1] bitsLen64.body, bitsLen64.nmj4)]) (by kernel_rfl) (fun n => ⟨bitsLen64.atj7 n, ⟨bitsLen64.atj4 n, trivial⟩⟩) bitsLen64.eq
noncomputable def packSize (fu : Nat) (n : Int) : Option (Int × Unit) :=
  (bitsLen64 fu n).bind fun r1 =>
  let t2 := IntKind.i64.wrap (max2 r1.1 (1 : Int) + (6 : Int))
  let t3 := IntKind.i64.wrap (Int.tdiv t2 (7 : Int))
  some (t3, ())

noncomputable def packSize.body : Code := Try.f110.body.getD .skip
noncomputable def packSize.con : Con := { ps := [(.int .u64)], rs := [(.int .i64)], f := fun n x => packSize n x.1 }
noncomputable def packSize.env : Env := { tys := [(3, ⟨(.int .i64), 8⟩)], elems := [], ptrs := [], cons := [(129, bitsLen64.con)], objs := [], loops := [], cuts := [], globs := globs, base := 0 }
noncomputable def packSize.lp (n : Nat) : LP (Kd.struct packSize.con.rs).T := fun lo κ body nm K s =>
  loops n (Kd.struct packSize.con.rs).T lo κ body nm K s
theorem packSize.eq (n : Nat) (x : (Kd.struct packSize.con.ps).T) : evFunc packSize.env Try.f110 packSize.body packSize.con.ps packSize.con.rs (packSize.lp n) n x = packSize.con.f n x := by kernel_rfl
theorem packSize.sound : Sound Try.prog globs 110 packSize.con :=
  sound_by (E := packSize.env) (c := packSize.body) (envOk (G := globs) (lc := [(129, bitsLen64.con)]) (lo := []) (envB_spec (by kernel_rfl)) rfl rfl ⟨.inl ⟨bitsLen64.sound, by kernel_rfl⟩, trivial⟩ rfl trivial (by kernel_rfl) (by kernel_rfl)) Try.func110 (by kernel_rfl) packSize.lp (l := []) (by kernel_rfl) (fun n => trivial) packSize.eq
noncomputable def packOwn (fu : Nat) (b : List Int) (room : Int) : Option (((List Int) × Unit) × (Unit)) :=
  let t1 := IntKind.i64.wrap ((b.length : Int) + room)
  chk (mkOk (0 : Int) t1 1) <|
  let t2 := List.replicate (0 : Int).toNat (0 : Int)
  chk (apOk t2 b 1) <|
  some ((t2 ++ b, ()), (()))

noncomputable def packOwn.body : Code := Try.f109.body.getD .skip
noncomputable def packOwn.con : OCon := { ps := [.dat (.slice (.int .u8)), .dat (.int .i64)], rs := [.own (.int .u8)], f := fun n x => packOwn n x.1 x.2.1 }
noncomputable def packOwn.env : Env := { tys := [(38, ⟨(.slice (.int .u8)), 24⟩), (5, ⟨(.int .u8), 1⟩)], elems := [(38, 5)], ptrs := [], cons := [], objs := [], loops := [], cuts := [], globs := globs, base := 0 }
noncomputable def packOwn.lp (n : Nat) : LP (RT packOwn.con.rs × BT packOwn.con.ps) := fun lo κ body nm K s =>
  loops n (RT packOwn.con.rs × BT packOwn.con.ps) lo κ body nm K s
theorem packOwn.eq (n : Nat) (x : PT packOwn.con.ps) : evFuncO packOwn.env Try.f109 packOwn.body packOwn.con.ps packOwn.con.rs (packOwn.lp n) n x = packOwn.con.f n x := by kernel_rfl
theorem packOwn.sound : SoundO Try.prog globs 109 packOwn.con :=
  sound_byO (E := packOwn.env) (c := packOwn.body) (envOk (G := globs) (lc := []) (lo := []) (envB_spec (by kernel_rfl)) rfl rfl trivial rfl trivial (by kernel_rfl) (by kernel_rfl)) Try.func109 (by kernel_rfl) (by kernel_rfl) (by kernel_rfl) packOwn.lp (l := []) (by kernel_rfl) (fun n => trivial) packOwn.eq
noncomputable def packPut.b2 (fu : Nat) (next : Int → (List Int) → Option (((List Int) × Unit) × (Unit))) (k2 : Int → (List Int) → Option (((List Int) × Unit) × (Unit))) (n : Int) (out : List Int) : Option (((List Int) × Unit) × (Unit)) :=
  cond (decide (n ≥ (128 : Int))) (
    let t1 := bOr .u8 (IntKind.u8.wrap n) (128 : Int)
    chk (apOk out ([t1]) 1) <|
    next (sShr .u64 n (7 : Int)) (out ++ ([t1]))) (
    k2 n out)
noncomputable def packPut.l2 (fu : Nat) (k2 : Int → (List Int) → Option (((List Int) × Unit) × (Unit))) : Nat → Int → (List Int) → Option (((List Int) × Unit) × (Unit))
  | 0, _, _ => none
  | m + 1, n, out => packPut.b2 fu (packPut.l2 fu k2 m) k2 n out
noncomputable def packPut (fu : Nat) (b : List Int) (n : Int) : Option (((List Int) × Unit) × (Unit)) :=
  (packSize fu n).bind fun r1 =>
  (packOwn fu b r1.1).bind fun r2 =>
  packPut.l2 fu (fun nq2 outq2 => 
      chk (apOk outq2 ([IntKind.u8.wrap nq2]) 1) <|
      let t3 := outq2 ++ ([IntKind.u8.wrap nq2])
      some ((t3, ()), (()))) fu n r2.1.1

noncomputable def packPut.body : Code := Try.f61.body.getD .skip
abbrev packPut.shl2 : Shp := ⟨[.u, .d (.int .u64), .u, .u, .u, .o 5 (.int .u8), .u, .u, .u, .u, .u, .u, .u, .u, .u, .u, .u, .u, .u, .u, .u, .u, .u, .u, .u], []⟩
abbrev packPut.outl2e2 : Shp := ⟨[.u, .d (.int .u64), .u, .u, .u, .o 5 (.int .u8), .u, .u, .u, .u, .u, .u, .u, .u, .u, .u, .u, .u, .u, .u, .u, .u, .u, .u, .u], []⟩
noncomputable def packPut.nml2 : Norm := ⟨{ keep := [1, 5], shut := [(1, (.int .u64))], retag := [(5, 5, (.int .u8))], heap := 0, dead := [], cshut := [], cretag := [] }, [(2, { keep := [1, 5], shut := [(1, (.int .u64))], retag := [(5, 5, (.int .u8))], heap := 0, dead := [], cshut := [], cretag := [] })]⟩
noncomputable def packPut.con : OCon := { ps := [.dat (.slice (.int .u8)), .dat (.int .u64)], rs := [.own (.int .u8)], f := fun n x => packPut n x.1 x.2.1 }
noncomputable def packPut.env : Env := { tys := [(38, ⟨(.slice (.int .u8)), 24⟩), (5, ⟨(.int .u8), 1⟩), (51, ⟨(.int .u64), 8⟩)], elems := [(38, 5)], ptrs := [], cons := [(110, packSize.con)], objs := [(109, [packOwn.con])], loops := [(2, packPut.nml2)], cuts := [], globs := globs, base := 0 }
noncomputable def packPut.lp (n : Nat) : LP (RT packPut.con.rs × BT packPut.con.ps) := fun lo κ body nm K s =>
  cond (lo && Nat.beq κ 2)
    (match packPut.shl2.dec s with
    | some v => packPut.l2 n (fun w0 w1 => K (.exit 0) (packPut.outl2e2.enc (w0, w1, ()))) n v.1 v.2.1
    | none => loops n (RT packPut.con.rs × BT packPut.con.ps) lo κ body nm K s)
    (loops n (RT packPut.con.rs × BT packPut.con.ps) lo κ body nm K s)
theorem packPut.atl2 (n : Nat) (s : St) (K : Ex → St → Option (RT packPut.con.rs × BT packPut.con.ps)) : (packPut.lp n) true 2 (evK packPut.env (packPut.lp n) n (sub [1, 1, 0, 0, 0] packPut.body)) packPut.nml2 K s = loops n (RT packPut.con.rs × BT packPut.con.ps) true 2 (evK packPut.env (packPut.lp n) n (sub [1, 1, 0, 0, 0] packPut.body)) packPut.nml2 K s := by
  show (match packPut.shl2.dec s with | some v => packPut.l2 n (fun w0 w1 => K (.exit 0) (packPut.outl2e2.enc (w0, w1, ()))) n v.1 v.2.1 | none => loops n (RT packPut.con.rs × BT packPut.con.ps) true 2 (evK packPut.env (packPut.lp n) n (sub [1, 1, 0, 0, 0] packPut.body)) packPut.nml2 K s) = _
  cases h : packPut.shl2.dec s with
  | none => rfl
  | some v =>
    rw [Shp.dec_enc h]
    exact (evLoop_eq (sh := packPut.shl2) (body := evK packPut.env (packPut.lp n) n (sub [1, 1, 0, 0, 0] packPut.body)) (nm := packPut.nml2) (K := K) (b := fun nx v => packPut.b2 n (fun x0 x1 => nx (x0, x1, ())) (fun w0 w1 => K (.exit 0) (packPut.outl2e2.enc (w0, w1, ()))) v.1 v.2.1) (l := fun m v => packPut.l2 n (fun w0 w1 => K (.exit 0) (packPut.outl2e2.enc (w0, w1, ()))) m v.1 v.2.1) (fun _ => rfl) (fun _ _ => rfl) (fun m v => by kernel_rfl) n v).symm
theorem packPut.eq (n : Nat) (x : PT packPut.con.ps) : evFuncO packPut.env Try.f61 packPut.body packPut.con.ps packPut.con.rs (packPut.lp n) n x = packPut.con.f n x := by kernel_rfl
theorem packPut.sound : SoundO Try.prog globs 61 packPut.con :=
  sound_byO (E := packPut.env) (c := packPut.body) (envOk (G := globs) (lc := [(110, packSize.con)]) (lo := [(109, [packOwn.con])]) (envB_spec (by kernel_rfl)) rfl rfl ⟨.inl ⟨packSize.sound, by kernel_rfl⟩, trivial⟩ rfl ⟨⟨⟨packOwn.sound, trivial⟩, by kernel_rfl⟩, trivial⟩ (by kernel_rfl) (by kernel_rfl)) Try.func61 (by kernel_rfl) (by kernel_rfl) (by kernel_rfl) packPut.lp (l := [(true, sub [1, 1, 0, 0, 0] packPut.body, packPut.nml2)]) (by kernel_rfl) (fun n => ⟨packPut.atl2 n, trivial⟩) packPut.eq
noncomputable def packPutInt (fu : Nat) (b : List Int) (n : Int) : Option (((List Int) × Unit) × (Unit)) :=
  let t1 := sShl .u64 (IntKind.u64.wrap n) (1 : Int)
  let t2 := IntKind.u64.wrap (sShr .i64 n (63 : Int))
  (packPut fu b (bXor .u64 t1 t2)).bind fun r3 =>
  some ((r3.1.1, ()), (()))

noncomputable def packPutInt.body : Code := Try.f102.body.getD .skip
noncomputable def packPutInt.con : OCon := { ps := [.dat (.slice (.int .u8)), .dat (.int .i64)], rs := [.own (.int .u8)], f := fun n x => packPutInt n x.1 x.2.1 }
noncomputable def packPutInt.env : Env := { tys := [(38, ⟨(.slice (.int .u8)), 24⟩), (51, ⟨(.int .u64), 8⟩), (2, ⟨(.int .i64), 8⟩)], elems := [], ptrs := [], cons := [], objs := [(61, [packPut.con])], loops := [], cuts := [], globs := globs, base := 0 }
noncomputable def packPutInt.lp (n : Nat) : LP (RT packPutInt.con.rs × BT packPutInt.con.ps) := fun lo κ body nm K s =>
  loops n (RT packPutInt.con.rs × BT packPutInt.con.ps) lo κ body nm K s
theorem packPutInt.eq (n : Nat) (x : PT packPutInt.con.ps) : evFuncO packPutInt.env Try.f102 packPutInt.body packPutInt.con.ps packPutInt.con.rs (packPutInt.lp n) n x = packPutInt.con.f n x := by kernel_rfl
theorem packPutInt.sound : SoundO Try.prog globs 102 packPutInt.con :=
  sound_byO (E := packPutInt.env) (c := packPutInt.body) (envOk (G := globs) (lc := []) (lo := [(61, [packPut.con])]) (envB_spec (by kernel_rfl)) rfl rfl trivial rfl ⟨⟨⟨packPut.sound, trivial⟩, by kernel_rfl⟩, trivial⟩ (by kernel_rfl) (by kernel_rfl)) Try.func102 (by kernel_rfl) (by kernel_rfl) (by kernel_rfl) packPutInt.lp (l := []) (by kernel_rfl) (fun n => trivial) packPutInt.eq
noncomputable def realBits (fu : Nat) (xv : Nat) : Option (Int × Unit) :=
  cond (fNeq xv xv) (
    some ((9221120237041090560 : Int), ())) (
    (extBits.f fu (xv, ())).bind fun r1 =>
    some (r1.1, ()))

noncomputable def realBits.body : Code := Try.f127.body.getD .skip
noncomputable def realBits.con : Con := { ps := [.flt], rs := [(.int .u64)], f := fun n x => realBits n x.1 }
noncomputable def realBits.env : Env := { tys := [(51, ⟨(.int .u64), 8⟩)], elems := [], ptrs := [], cons := [(92, extBits)], objs := [], loops := [], cuts := [], globs := globs, base := 0 }
noncomputable def realBits.lp (n : Nat) : LP (Kd.struct realBits.con.rs).T := fun lo κ body nm K s =>
  loops n (Kd.struct realBits.con.rs).T lo κ body nm K s
theorem realBits.eq (n : Nat) (x : (Kd.struct realBits.con.ps).T) : evFunc realBits.env Try.f127 realBits.body realBits.con.ps realBits.con.rs (realBits.lp n) n x = realBits.con.f n x := by kernel_rfl
theorem realBits.sound : Sound Try.prog globs 127 realBits.con :=
  sound_by (E := realBits.env) (c := realBits.body) (envOk (G := globs) (lc := [(92, extBits)]) (lo := []) (envB_spec (by kernel_rfl)) rfl rfl ⟨.inr (extBits_ok Try.func92 (by kernel_rfl) (by kernel_rfl) (by kernel_rfl) (by kernel_rfl)), trivial⟩ rfl trivial (by kernel_rfl) (by kernel_rfl)) Try.func127 (by kernel_rfl) realBits.lp (l := []) (by kernel_rfl) (fun n => trivial) realBits.eq
noncomputable def packPutReal.b4 (fu : Nat) (next : (List Int) → Int → Int → Option (((List Int) × Unit) × (Unit))) (k2 : (List Int) → Option (((List Int) × Unit) × (Unit))) (out : List Int) (n : Int) (i : Int) : Option (((List Int) × Unit) × (Unit)) :=
  cond (decide (i ≥ (0 : Int))) (
    chk (!decide (i < 0)) <|
    let t1 := IntKind.u8.wrap (sShr .u64 n i)
    chk (apOk out ([t1]) 1) <|
    let t2 := IntKind.i64.wrap (i - (8 : Int))
    next (out ++ ([t1])) n t2) (
    k2 out)
noncomputable def packPutReal.l4 (fu : Nat) (k2 : (List Int) → Option (((List Int) × Unit) × (Unit))) : Nat → (List Int) → Int → Int → Option (((List Int) × Unit) × (Unit))
  | 0, _, _, _ => none
  | m + 1, out, n, i => packPutReal.b4 fu (packPutReal.l4 fu k2 m) k2 out n i
noncomputable def packPutReal (fu : Nat) (b : List Int) (xv : Nat) : Option (((List Int) × Unit) × (Unit)) :=
  (packOwn fu b (8 : Int)).bind fun r1 =>
  (realBits fu xv).bind fun r2 =>
  packPutReal.l4 fu (fun outq2 => 
      some ((outq2, ()), (()))) fu r1.1.1 r2.1 (56 : Int)

noncomputable def packPutReal.body : Code := Try.f103.body.getD .skip
abbrev packPutReal.shl4 : Shp := ⟨[.u, .u, .u, .u, .u, .o 5 (.int .u8), .d (.int .u64), .d (.int .i64), .u, .u, .u, .u, .u, .u, .u, .u, .u, .u, .u, .u, .u, .u, .u, .u], []⟩
abbrev packPutReal.outl4e2 : Shp := ⟨[.u, .u, .u, .u, .u, .o 5 (.int .u8), .u, .u, .u, .u, .u, .u, .u, .u, .u, .u, .u, .u, .u, .u, .u, .u, .u, .u], []⟩
noncomputable def packPutReal.nml4 : Norm := ⟨{ keep := [5, 6, 7], shut := [(6, (.int .u64)), (7, (.int .i64))], retag := [(5, 5, (.int .u8))], heap := 0, dead := [], cshut := [], cretag := [] }, [(2, { keep := [5], shut := [], retag := [(5, 5, (.int .u8))], heap := 0, dead := [], cshut := [], cretag := [] })]⟩
noncomputable def packPutReal.con : OCon := { ps := [.dat (.slice (.int .u8)), .dat .flt], rs := [.own (.int .u8)], f := fun n x => packPutReal n x.1 x.2.1 }
noncomputable def packPutReal.env : Env := { tys := [(38, ⟨(.slice (.int .u8)), 24⟩), (3, ⟨(.int .i64), 8⟩), (5, ⟨(.int .u8), 1⟩), (51, ⟨(.int .u64), 8⟩)], elems := [(38, 5)], ptrs := [], cons := [(127, realBits.con)], objs := [(109, [packOwn.con])], loops := [(4, packPutReal.nml4)], cuts := [], globs := globs, base := 0 }
noncomputable def packPutReal.lp (n : Nat) : LP (RT packPutReal.con.rs × BT packPutReal.con.ps) := fun lo κ body nm K s =>
  cond (lo && Nat.beq κ 4)
    (match packPutReal.shl4.dec s with
    | some v => packPutReal.l4 n (fun w0 => K (.exit 0) (packPutReal.outl4e2.enc (w0, ()))) n v.1 v.2.1 v.2.2.1
    | none => loops n (RT packPutReal.con.rs × BT packPutReal.con.ps) lo κ body nm K s)
    (loops n (RT packPutReal.con.rs × BT packPutReal.con.ps) lo κ body nm K s)
theorem packPutReal.atl4 (n : Nat) (s : St) (K : Ex → St → Option (RT packPutReal.con.rs × BT packPutReal.con.ps)) : (packPutReal.lp n) true 4 (evK packPutReal.env (packPutReal.lp n) n (sub [1, 1, 1, 0, 1, 0, 0] packPutReal.body)) packPutReal.nml4 K s = loops n (RT packPutReal.con.rs × BT packPutReal.con.ps) true 4 (evK packPutReal.env (packPutReal.lp n) n (sub [1, 1, 1, 0, 1, 0, 0] packPutReal.body)) packPutReal.nml4 K s := by
  show (match packPutReal.shl4.dec s with | some v => packPutReal.l4 n (fun w0 => K (.exit 0) (packPutReal.outl4e2.enc (w0, ()))) n v.1 v.2.1 v.2.2.1 | none => loops n (RT packPutReal.con.rs × BT packPutReal.con.ps) true 4 (evK packPutReal.env (packPutReal.lp n) n (sub [1, 1, 1, 0, 1, 0, 0] packPutReal.body)) packPutReal.nml4 K s) = _
  cases h : packPutReal.shl4.dec s with
  | none => rfl
  | some v =>
    rw [Shp.dec_enc h]
    exact (evLoop_eq (sh := packPutReal.shl4) (body := evK packPutReal.env (packPutReal.lp n) n (sub [1, 1, 1, 0, 1, 0, 0] packPutReal.body)) (nm := packPutReal.nml4) (K := K) (b := fun nx v => packPutReal.b4 n (fun x0 x1 x2 => nx (x0, x1, x2, ())) (fun w0 => K (.exit 0) (packPutReal.outl4e2.enc (w0, ()))) v.1 v.2.1 v.2.2.1) (l := fun m v => packPutReal.l4 n (fun w0 => K (.exit 0) (packPutReal.outl4e2.enc (w0, ()))) m v.1 v.2.1 v.2.2.1) (fun _ => rfl) (fun _ _ => rfl) (fun m v => by kernel_rfl) n v).symm
theorem packPutReal.eq (n : Nat) (x : PT packPutReal.con.ps) : evFuncO packPutReal.env Try.f103 packPutReal.body packPutReal.con.ps packPutReal.con.rs (packPutReal.lp n) n x = packPutReal.con.f n x := by kernel_rfl
theorem packPutReal.sound : SoundO Try.prog globs 103 packPutReal.con :=
  sound_byO (E := packPutReal.env) (c := packPutReal.body) (envOk (G := globs) (lc := [(127, realBits.con)]) (lo := [(109, [packOwn.con])]) (envB_spec (by kernel_rfl)) rfl rfl ⟨.inl ⟨realBits.sound, by kernel_rfl⟩, trivial⟩ rfl ⟨⟨⟨packOwn.sound, trivial⟩, by kernel_rfl⟩, trivial⟩ (by kernel_rfl) (by kernel_rfl)) Try.func103 (by kernel_rfl) (by kernel_rfl) (by kernel_rfl) packPutReal.lp (l := [(true, sub [1, 1, 1, 0, 1, 0, 0] packPutReal.body, packPutReal.nml4)]) (by kernel_rfl) (fun n => ⟨packPutReal.atl4 n, trivial⟩) packPutReal.eq
noncomputable def packPutText (fu : Nat) (b : List Int) (sv : List Int) : Option (((List Int) × Unit) × (Unit)) :=
  let t1 := IntKind.u64.wrap (sv.length : Int)
  (packPut fu b t1).bind fun r2 =>
  chk (apOk r2.1.1 sv 1) <|
  some ((r2.1.1 ++ sv, ()), (()))

noncomputable def packPutText.body : Code := Try.f104.body.getD .skip
noncomputable def packPutText.con : OCon := { ps := [.dat (.slice (.int .u8)), .dat .str], rs := [.own (.int .u8)], f := fun n x => packPutText n x.1 x.2.1 }
noncomputable def packPutText.env : Env := { tys := [(38, ⟨(.slice (.int .u8)), 24⟩), (9, ⟨.str, 16⟩), (51, ⟨(.int .u64), 8⟩), (3, ⟨(.int .i64), 8⟩), (5, ⟨(.int .u8), 1⟩)], elems := [(38, 5)], ptrs := [], cons := [], objs := [(61, [packPut.con])], loops := [], cuts := [], globs := globs, base := 0 }
noncomputable def packPutText.lp (n : Nat) : LP (RT packPutText.con.rs × BT packPutText.con.ps) := fun lo κ body nm K s =>
  loops n (RT packPutText.con.rs × BT packPutText.con.ps) lo κ body nm K s
theorem packPutText.eq (n : Nat) (x : PT packPutText.con.ps) : evFuncO packPutText.env Try.f104 packPutText.body packPutText.con.ps packPutText.con.rs (packPutText.lp n) n x = packPutText.con.f n x := by kernel_rfl
theorem packPutText.sound : SoundO Try.prog globs 104 packPutText.con :=
  sound_byO (E := packPutText.env) (c := packPutText.body) (envOk (G := globs) (lc := []) (lo := [(61, [packPut.con])]) (envB_spec (by kernel_rfl)) rfl rfl trivial rfl ⟨⟨⟨packPut.sound, trivial⟩, by kernel_rfl⟩, trivial⟩ (by kernel_rfl) (by kernel_rfl)) Try.func104 (by kernel_rfl) (by kernel_rfl) (by kernel_rfl) packPutText.lp (l := []) (by kernel_rfl) (fun n => trivial) packPutText.eq
noncomputable def valuePut (fu : Nat) (b : List Int) (v : S1) : Option (((List Int) × Int × Unit) × (Unit)) :=
  (valueMay fu v).bind fun r1 =>
  cond (!r1.1) (
    some (([], (1 : Int), ()), (()))) (
    let t2 := IntKind.i64.wrap ((b.length : Int) + (1 : Int))
    chk (mkOk (0 : Int) t2 1) <|
    let t3 := List.replicate (0 : Int).toNat (0 : Int)
    chk (apOk t3 b 1) <|
    chk (apOk (t3 ++ b) ([v.1]) 1) <|
    cond (v.1 == (1 : Int)) (
      (packPutInt fu ((t3 ++ b) ++ ([v.1])) v.2.1).bind fun r4 =>
      some ((r4.1.1, (0 : Int), ()), (()))) (
      cond (v.1 == (2 : Int)) (
        (packPutReal fu ((t3 ++ b) ++ ([v.1])) v.2.2.1).bind fun r5 =>
        some ((r5.1.1, (0 : Int), ()), (()))) (
        cond (v.1 == (3 : Int)) (
          (packPutText fu ((t3 ++ b) ++ ([v.1])) v.2.2.2.1).bind fun r6 =>
          some ((r6.1.1, (0 : Int), ()), (()))) (
          some (((t3 ++ b) ++ ([v.1]), (0 : Int), ()), (()))))))

noncomputable def valuePut.body : Code := Try.f55.body.getD .skip
noncomputable def valuePut.con : OCon := { ps := [.dat (.slice (.int .u8)), .dat kS1], rs := [.own (.int .u8), .dat (.int .i64)], f := fun n x => valuePut n x.1 x.2.1 }
noncomputable def valuePut.env : Env := { tys := [(34, ⟨kS1, 40⟩), (38, ⟨(.slice (.int .u8)), 24⟩), (39, ⟨(.int .i64), 8⟩), (5, ⟨(.int .u8), 1⟩), (2, ⟨(.int .i64), 8⟩), (32, ⟨.flt, 8⟩), (9, ⟨.str, 16⟩)], elems := [(38, 5)], ptrs := [], cons := [(59, valueMay.con)], objs := [(102, [packPutInt.con]), (103, [packPutReal.con]), (104, [packPutText.con])], loops := [], cuts := [], globs := globs, base := 0 }
noncomputable def valuePut.lp (n : Nat) : LP (RT valuePut.con.rs × BT valuePut.con.ps) := fun lo κ body nm K s =>
  loops n (RT valuePut.con.rs × BT valuePut.con.ps) lo κ body nm K s
theorem valuePut.eq (n : Nat) (x : PT valuePut.con.ps) : evFuncO valuePut.env Try.f55 valuePut.body valuePut.con.ps valuePut.con.rs (valuePut.lp n) n x = valuePut.con.f n x := by kernel_rfl
theorem valuePut.sound : SoundO Try.prog globs 55 valuePut.con :=
  sound_byO (E := valuePut.env) (c := valuePut.body) (envOk (G := globs) (lc := [(59, valueMay.con)]) (lo := [(102, [packPutInt.con]), (103, [packPutReal.con]), (104, [packPutText.con])]) (envB_spec (by kernel_rfl)) rfl rfl ⟨.inl ⟨valueMay.sound, by kernel_rfl⟩, trivial⟩ rfl ⟨⟨⟨packPutInt.sound, trivial⟩, by kernel_rfl⟩, ⟨⟨⟨packPutReal.sound, trivial⟩, by kernel_rfl⟩, ⟨⟨⟨packPutText.sound, trivial⟩, by kernel_rfl⟩, trivial⟩⟩⟩ (by kernel_rfl) (by kernel_rfl)) Try.func55 (by kernel_rfl) (by kernel_rfl) (by kernel_rfl) valuePut.lp (l := []) (by kernel_rfl) (fun n => trivial) valuePut.eq
noncomputable def eventPut.b5 (fu : Nat) (next : (List Int) → (List S1) → Int → Int → Option ((List Int) × Int × Unit)) (k2 : (List Int) → Option ((List Int) × Int × Unit)) (out : List Int) (v : List S1) (vx2 : Int) (vx3 : Int) : Option ((List Int) × Int × Unit) :=
  cond (decide (vx3 < vx2)) (
    chk (ixOk v vx3) <|
    let e1 := ixL ((0 : Int), (0 : Int), (0 : Nat), [], ()) v vx3
    (valuePut fu out e1).bind fun r2 =>
    let t3 := IntKind.i64.wrap (vx3 + (1 : Int))
    next r2.1.1 v vx2 t3) (
    k2 out)
noncomputable def eventPut.l5 (fu : Nat) (k2 : (List Int) → Option ((List Int) × Int × Unit)) : Nat → (List Int) → (List S1) → Int → Int → Option ((List Int) × Int × Unit)
  | 0, _, _, _, _ => none
  | m + 1, out, v, vx2, vx3 => eventPut.b5 fu (eventPut.l5 fu k2 m) k2 out v vx2 vx3
noncomputable def eventPut (fu : Nat) (b : List Int) (ev : S2) : Option ((List Int) × Int × Unit) :=
  (eventMay fu ev).bind fun r1 =>
  cond (!r1.1) (
    some ([], (1 : Int), ())) (
    (slicesClone fu b).bind fun r2 =>
    let t3 := IntKind.u8.wrap (ev.2.1.length : Int)
    chk (apOk r2.1.1 ([ev.1, t3]) 1) <|
    eventPut.l5 fu (fun outq2 => 
        some (outq2, (0 : Int), ())) fu (r2.1.1 ++ ([ev.1, t3])) ev.2.1 (ev.2.1.length : Int) (0 : Int))

noncomputable def eventPut.body : Code := Try.f20.body.getD .skip
abbrev eventPut.shl5 : Shp := ⟨[.u, .u, .u, .u, .u, .u, .o 6 (.int .u8), .u, .u, .u, .u, .u, .u, .u, .u, .u, .u, .u, .u, .u, .u, .u, .u, .d (.slice kS1), .d (.int .i64), .d (.int .i64), .u, .u, .u, .u, .u, .u, .u, .u, .u, .u, .u], []⟩
abbrev eventPut.outl5e2 : Shp := ⟨[.u, .u, .u, .u, .u, .u, .o 6 (.int .u8), .u, .u, .u, .u, .u, .u, .u, .u, .u, .u, .u, .u, .u, .u, .u, .u, .u, .u, .u, .u, .u, .u, .u, .u, .u, .u, .u, .u, .u, .u], []⟩
noncomputable def eventPut.nml5 : Norm := ⟨{ keep := [6, 23, 24, 25], shut := [(23, (.slice kS1)), (24, (.int .i64)), (25, (.int .i64))], retag := [(6, 6, (.int .u8))], heap := 0, dead := [], cshut := [], cretag := [] }, [(2, { keep := [6], shut := [], retag := [(6, 6, (.int .u8))], heap := 0, dead := [], cshut := [], cretag := [] })]⟩
noncomputable def eventPut.con : Con := { ps := [(.slice (.int .u8)), kS2], rs := [(.slice (.int .u8)), (.int .i64)], f := fun n x => eventPut n x.1 x.2.1 }
noncomputable def eventPut.env : Env := { tys := [(27, ⟨kS2, 32⟩), (38, ⟨(.slice (.int .u8)), 24⟩), (39, ⟨(.int .i64), 8⟩), (5, ⟨(.int .u8), 1⟩), (25, ⟨(.slice kS1), 24⟩), (34, ⟨kS1, 40⟩), (3, ⟨(.int .i64), 8⟩)], elems := [(25, 34), (38, 5)], ptrs := [], cons := [(22, eventMay.con)], objs := [(54, [slicesClone.con]), (55, [valuePut.con])], loops := [(5, eventPut.nml5)], cuts := [], globs := globs, base := 0 }
noncomputable def eventPut.lp (n : Nat) : LP (Kd.struct eventPut.con.rs).T := fun lo κ body nm K s =>
  cond (lo && Nat.beq κ 5)
    (match eventPut.shl5.dec s with
    | some v => eventPut.l5 n (fun w0 => K (.exit 0) (eventPut.outl5e2.enc (w0, ()))) n v.1 v.2.1 v.2.2.1 v.2.2.2.1
    | none => loops n (Kd.struct eventPut.con.rs).T lo κ body nm K s)
    (loops n (Kd.struct eventPut.con.rs).T lo κ body nm K s)
theorem eventPut.atl5 (n : Nat) (s : St) (K : Ex → St → Option (Kd.struct eventPut.con.rs).T) : (eventPut.lp n) true 5 (evK eventPut.env (eventPut.lp n) n (sub [1, 1, 1, 0, 1, 0, 0] eventPut.body)) eventPut.nml5 K s = loops n (Kd.struct eventPut.con.rs).T true 5 (evK eventPut.env (eventPut.lp n) n (sub [1, 1, 1, 0, 1, 0, 0] eventPut.body)) eventPut.nml5 K s := by
  show (match eventPut.shl5.dec s with | some v => eventPut.l5 n (fun w0 => K (.exit 0) (eventPut.outl5e2.enc (w0, ()))) n v.1 v.2.1 v.2.2.1 v.2.2.2.1 | none => loops n (Kd.struct eventPut.con.rs).T true 5 (evK eventPut.env (eventPut.lp n) n (sub [1, 1, 1, 0, 1, 0, 0] eventPut.body)) eventPut.nml5 K s) = _
  cases h : eventPut.shl5.dec s with
  | none => rfl
  | some v =>
    rw [Shp.dec_enc h]
    exact (evLoop_eq (sh := eventPut.shl5) (body := evK eventPut.env (eventPut.lp n) n (sub [1, 1, 1, 0, 1, 0, 0] eventPut.body)) (nm := eventPut.nml5) (K := K) (b := fun nx v => eventPut.b5 n (fun x0 x1 x2 x3 => nx (x0, x1, x2, x3, ())) (fun w0 => K (.exit 0) (eventPut.outl5e2.enc (w0, ()))) v.1 v.2.1 v.2.2.1 v.2.2.2.1) (l := fun m v => eventPut.l5 n (fun w0 => K (.exit 0) (eventPut.outl5e2.enc (w0, ()))) m v.1 v.2.1 v.2.2.1 v.2.2.2.1) (fun _ => rfl) (fun _ _ => rfl) (fun m v => by kernel_rfl) n v).symm
theorem eventPut.eq (n : Nat) (x : (Kd.struct eventPut.con.ps).T) : evFunc eventPut.env Try.f20 eventPut.body eventPut.con.ps eventPut.con.rs (eventPut.lp n) n x = eventPut.con.f n x := by kernel_rfl
theorem eventPut.sound : Sound Try.prog globs 20 eventPut.con :=
  sound_by (E := eventPut.env) (c := eventPut.body) (envOk (G := globs) (lc := [(22, eventMay.con)]) (lo := [(54, [slicesClone.con]), (55, [valuePut.con])]) (envB_spec (by kernel_rfl)) rfl rfl ⟨.inl ⟨eventMay.sound, by kernel_rfl⟩, trivial⟩ rfl ⟨⟨⟨slicesClone.sound, trivial⟩, by kernel_rfl⟩, ⟨⟨⟨valuePut.sound, trivial⟩, by kernel_rfl⟩, trivial⟩⟩ (by kernel_rfl) (by kernel_rfl)) Try.func20 (by kernel_rfl) eventPut.lp (l := [(true, sub [1, 1, 1, 0, 1, 0, 0] eventPut.body, eventPut.nml5)]) (by kernel_rfl) (fun n => ⟨eventPut.atl5 n, trivial⟩) eventPut.eq
noncomputable def law05Fixed (fu : Nat) : Option (Bool × Unit) :=
  (eventPut fu [] ((3 : Int), [], ())).bind fun r1 =>
  let t2 := r1.1 == ([3, 0] : List Int)
  cond t2 (
    some (r1.2.1 == (0 : Int), ())) (
    some (false, ()))

noncomputable def law05Fixed.body : Code := Try.f13.body.getD .skip
noncomputable def law05Fixed.con : Con := { ps := [], rs := [.bool], f := fun n x => law05Fixed n }
noncomputable def law05Fixed.env : Env := { tys := [(4, ⟨.bool, 1⟩), (27, ⟨kS2, 32⟩), (9, ⟨.str, 16⟩), (38, ⟨(.slice (.int .u8)), 24⟩), (5, ⟨(.int .u8), 1⟩)], elems := [(38, 5)], ptrs := [], cons := [(20, eventPut.con)], objs := [], loops := [], cuts := [], globs := globs, base := 0 }
noncomputable def law05Fixed.lp (n : Nat) : LP (Kd.struct law05Fixed.con.rs).T := fun lo κ body nm K s =>
  loops n (Kd.struct law05Fixed.con.rs).T lo κ body nm K s
theorem law05Fixed.eq (n : Nat) (x : (Kd.struct law05Fixed.con.ps).T) : evFunc law05Fixed.env Try.f13 law05Fixed.body law05Fixed.con.ps law05Fixed.con.rs (law05Fixed.lp n) n x = law05Fixed.con.f n x := by kernel_rfl
theorem law05Fixed.sound : Sound Try.prog globs 13 law05Fixed.con :=
  sound_by (E := law05Fixed.env) (c := law05Fixed.body) (envOk (G := globs) (lc := [(20, eventPut.con)]) (lo := []) (envB_spec (by kernel_rfl)) rfl rfl ⟨.inl ⟨eventPut.sound, by kernel_rfl⟩, trivial⟩ rfl trivial (by kernel_rfl) (by kernel_rfl)) Try.func13 (by kernel_rfl) law05Fixed.lp (l := []) (by kernel_rfl) (fun n => trivial) law05Fixed.eq
noncomputable def slicesCloneJk (fu : Nat) (sv : List S1) : Option ((Nat × Unit) × (Unit)) :=
  nilQ sv (
    some ((0, ()), (()))) (
    chk (decide (sv.length * 40 ≤ LIM)) <|
    some ((sv.length, ()), (())))

noncomputable def slicesCloneJk.body : Code := Try.f47.body.getD .skip
noncomputable def slicesCloneJk.con : OCon := { ps := [.dat (.slice kS1)], rs := [.jk kS1], f := fun n x => slicesCloneJk n x.1 }
noncomputable def slicesCloneJk.env : Env := { tys := [(25, ⟨(.slice kS1), 24⟩), (34, ⟨kS1, 40⟩)], elems := [(25, 34)], ptrs := [], cons := [], objs := [], loops := [], cuts := [], globs := globs, base := 0, rooms := [999999], shuts := [7] }
noncomputable def slicesCloneJk.lp (n : Nat) : LP (RT slicesCloneJk.con.rs × BT slicesCloneJk.con.ps) := fun lo κ body nm K s =>
  loops n (RT slicesCloneJk.con.rs × BT slicesCloneJk.con.ps) lo κ body nm K s
theorem slicesCloneJk.eq (n : Nat) (x : PT slicesCloneJk.con.ps) : evFuncO slicesCloneJk.env Try.f47 slicesCloneJk.body slicesCloneJk.con.ps slicesCloneJk.con.rs (slicesCloneJk.lp n) n x = slicesCloneJk.con.f n x := by kernel_rfl
theorem slicesCloneJk.sound : SoundO Try.prog globs 47 slicesCloneJk.con :=
  sound_byO (E := slicesCloneJk.env) (c := slicesCloneJk.body) (envOk (G := globs) (lc := []) (lo := []) (envB_spec (by kernel_rfl)) rfl rfl trivial rfl trivial (by kernel_rfl) (by kernel_rfl)) Try.func47 (by kernel_rfl) (by kernel_rfl) (by kernel_rfl) slicesCloneJk.lp (l := []) (by kernel_rfl) (fun n => trivial) slicesCloneJk.eq
noncomputable def eventOwnJk (fu : Nat) (ev : S2) : Option (((Int × Nat × Unit) × Unit) × (Unit)) :=
  (slicesCloneJk fu ev.2.1).bind fun r1 =>
  some (((ev.1, r1.1.1, ()), ()), (()))

noncomputable def eventOwnJk.body : Code := Try.f14.body.getD .skip
noncomputable def eventOwnJk.con : OCon := { ps := [.dat kS2], rs := [.js [.dat (.int .u8), .jk kS1]], f := fun n x => eventOwnJk n x.1 }
noncomputable def eventOwnJk.env : Env := { tys := [(27, ⟨kS2, 32⟩), (5, ⟨(.int .u8), 1⟩), (25, ⟨(.slice kS1), 24⟩)], elems := [], ptrs := [], cons := [], objs := [(47, [slicesCloneJk.con])], loops := [], cuts := [], globs := globs, base := 0, rooms := [999999] }
noncomputable def eventOwnJk.lp (n : Nat) : LP (RT eventOwnJk.con.rs × BT eventOwnJk.con.ps) := fun lo κ body nm K s =>
  loops n (RT eventOwnJk.con.rs × BT eventOwnJk.con.ps) lo κ body nm K s
theorem eventOwnJk.eq (n : Nat) (x : PT eventOwnJk.con.ps) : evFuncO eventOwnJk.env Try.f14 eventOwnJk.body eventOwnJk.con.ps eventOwnJk.con.rs (eventOwnJk.lp n) n x = eventOwnJk.con.f n x := by kernel_rfl
theorem eventOwnJk.sound : SoundO Try.prog globs 14 eventOwnJk.con :=
  sound_byO (E := eventOwnJk.env) (c := eventOwnJk.body) (envOk (G := globs) (lc := []) (lo := [(47, [slicesCloneJk.con])]) (envB_spec (by kernel_rfl)) rfl rfl trivial rfl ⟨⟨⟨slicesCloneJk.sound, trivial⟩, by kernel_rfl⟩, trivial⟩ (by kernel_rfl) (by kernel_rfl)) Try.func14 (by kernel_rfl) (by kernel_rfl) (by kernel_rfl) eventOwnJk.lp (l := []) (by kernel_rfl) (fun n => trivial) eventOwnJk.eq
noncomputable def ref02OfBits (fu : Nat) (b : Int) : Option (S4 × Unit) :=
  let t1 := decide (b ≥ (9223372036854775808 : Int))
  let t2 := IntKind.u64.wrap (Int.tdiv b (4503599627370496 : Int))
  let t3 := IntKind.i64.wrap (Int.tmod t2 (2048 : Int))
  let t4 := Int.tmod b (4503599627370496 : Int)
  some ((t1, t3, t4, ()), ())

noncomputable def ref02OfBits.body : Code := Try.f91.body.getD .skip
noncomputable def ref02OfBits.con : Con := { ps := [(.int .u64)], rs := [kS4], f := fun n x => ref02OfBits n x.1 }
noncomputable def ref02OfBits.env : Env := { tys := [(99, ⟨kS4, 24⟩), (3, ⟨(.int .i64), 8⟩), (51, ⟨(.int .u64), 8⟩)], elems := [], ptrs := [], cons := [], objs := [], loops := [], cuts := [], globs := globs, base := 0 }
noncomputable def ref02OfBits.lp (n : Nat) : LP (Kd.struct ref02OfBits.con.rs).T := fun lo κ body nm K s =>
  loops n (Kd.struct ref02OfBits.con.rs).T lo κ body nm K s
theorem ref02OfBits.eq (n : Nat) (x : (Kd.struct ref02OfBits.con.ps).T) : evFunc ref02OfBits.env Try.f91 ref02OfBits.body ref02OfBits.con.ps ref02OfBits.con.rs (ref02OfBits.lp n) n x = ref02OfBits.con.f n x := by kernel_rfl
theorem ref02OfBits.sound : Sound Try.prog globs 91 ref02OfBits.con :=
  sound_by (E := ref02OfBits.env) (c := ref02OfBits.body) (envOk (G := globs) (lc := []) (lo := []) (envB_spec (by kernel_rfl)) rfl rfl trivial rfl trivial (by kernel_rfl) (by kernel_rfl)) Try.func91 (by kernel_rfl) ref02OfBits.lp (l := []) (by kernel_rfl) (fun n => trivial) ref02OfBits.eq
noncomputable def ref02Of (fu : Nat) (xv : Nat) : Option (S4 × Unit) :=
  (extBits.f fu (xv, ())).bind fun r1 =>
  (ref02OfBits fu r1.1).bind fun r2 =>
  some (r2.1, ())

noncomputable def ref02Of.body : Code := Try.f48.body.getD .skip
noncomputable def ref02Of.con : Con := { ps := [.flt], rs := [kS4], f := fun n x => ref02Of n x.1 }
noncomputable def ref02Of.env : Env := { tys := [(99, ⟨kS4, 24⟩)], elems := [], ptrs := [], cons := [(92, extBits), (91, ref02OfBits.con)], objs := [], loops := [], cuts := [], globs := globs, base := 0 }
noncomputable def ref02Of.lp (n : Nat) : LP (Kd.struct ref02Of.con.rs).T := fun lo κ body nm K s =>
  loops n (Kd.struct ref02Of.con.rs).T lo κ body nm K s
theorem ref02Of.eq (n : Nat) (x : (Kd.struct ref02Of.con.ps).T) : evFunc ref02Of.env Try.f48 ref02Of.body ref02Of.con.ps ref02Of.con.rs (ref02Of.lp n) n x = ref02Of.con.f n x := by kernel_rfl
theorem ref02Of.sound : Sound Try.prog globs 48 ref02Of.con :=
  sound_by (E := ref02Of.env) (c := ref02Of.body) (envOk (G := globs) (lc := [(92, extBits), (91, ref02OfBits.con)]) (lo := []) (envB_spec (by kernel_rfl)) rfl rfl ⟨.inr (extBits_ok Try.func92 (by kernel_rfl) (by kernel_rfl) (by kernel_rfl) (by kernel_rfl)), ⟨.inl ⟨ref02OfBits.sound, by kernel_rfl⟩, trivial⟩⟩ rfl trivial (by kernel_rfl) (by kernel_rfl)) Try.func48 (by kernel_rfl) ref02Of.lp (l := []) (by kernel_rfl) (fun n => trivial) ref02Of.eq
noncomputable def ref02PartsNaN (fu : Nat) (p : S4) : Option (Bool × Unit) :=
  cond (p.2.1 == (2047 : Int)) (
    some (p.2.2.1 != (0 : Int), ())) (
    some (false, ()))

noncomputable def ref02PartsNaN.body : Code := Try.f93.body.getD .skip
noncomputable def ref02PartsNaN.con : Con := { ps := [kS4], rs := [.bool], f := fun n x => ref02PartsNaN n x.1 }
noncomputable def ref02PartsNaN.env : Env := { tys := [(99, ⟨kS4, 24⟩), (4, ⟨.bool, 1⟩), (3, ⟨(.int .i64), 8⟩), (51, ⟨(.int .u64), 8⟩)], elems := [], ptrs := [], cons := [], objs := [], loops := [], cuts := [], globs := globs, base := 0 }
noncomputable def ref02PartsNaN.lp (n : Nat) : LP (Kd.struct ref02PartsNaN.con.rs).T := fun lo κ body nm K s =>
  loops n (Kd.struct ref02PartsNaN.con.rs).T lo κ body nm K s
theorem ref02PartsNaN.eq (n : Nat) (x : (Kd.struct ref02PartsNaN.con.ps).T) : evFunc ref02PartsNaN.env Try.f93 ref02PartsNaN.body ref02PartsNaN.con.ps ref02PartsNaN.con.rs (ref02PartsNaN.lp n) n x = ref02PartsNaN.con.f n x := by kernel_rfl
theorem ref02PartsNaN.sound : Sound Try.prog globs 93 ref02PartsNaN.con :=
  sound_by (E := ref02PartsNaN.env) (c := ref02PartsNaN.body) (envOk (G := globs) (lc := []) (lo := []) (envB_spec (by kernel_rfl)) rfl rfl trivial rfl trivial (by kernel_rfl) (by kernel_rfl)) Try.func93 (by kernel_rfl) ref02PartsNaN.lp (l := []) (by kernel_rfl) (fun n => trivial) ref02PartsNaN.eq
noncomputable def ref02PartsBits (fu : Nat) (p : S4) : Option (Int × Unit) :=
  (ref02PartsNaN fu p).bind fun r1 =>
  cond r1.1 (
    some ((9221120237041090560 : Int), ())) (
    let t2 := IntKind.u64.wrap (IntKind.u64.wrap p.2.1 * (4503599627370496 : Int))
    let t3 := IntKind.u64.wrap (t2 + p.2.2.1)
    cond p.1 (
      let t4 := IntKind.u64.wrap (t3 + (9223372036854775808 : Int))
      some (t4, ())) (
      some (t3, ())))

noncomputable def ref02PartsBits.body : Code := Try.f49.body.getD .skip
noncomputable def ref02PartsBits.con : Con := { ps := [kS4], rs := [(.int .u64)], f := fun n x => ref02PartsBits n x.1 }
noncomputable def ref02PartsBits.env : Env := { tys := [(99, ⟨kS4, 24⟩), (51, ⟨(.int .u64), 8⟩), (3, ⟨(.int .i64), 8⟩), (4, ⟨.bool, 1⟩)], elems := [], ptrs := [], cons := [(93, ref02PartsNaN.con)], objs := [], loops := [], cuts := [], globs := globs, base := 0 }
noncomputable def ref02PartsBits.lp (n : Nat) : LP (Kd.struct ref02PartsBits.con.rs).T := fun lo κ body nm K s =>
  loops n (Kd.struct ref02PartsBits.con.rs).T lo κ body nm K s
theorem ref02PartsBits.eq (n : Nat) (x : (Kd.struct ref02PartsBits.con.ps).T) : evFunc ref02PartsBits.env Try.f49 ref02PartsBits.body ref02PartsBits.con.ps ref02PartsBits.con.rs (ref02PartsBits.lp n) n x = ref02PartsBits.con.f n x := by kernel_rfl
theorem ref02PartsBits.sound : Sound Try.prog globs 49 ref02PartsBits.con :=
  sound_by (E := ref02PartsBits.env) (c := ref02PartsBits.body) (envOk (G := globs) (lc := [(93, ref02PartsNaN.con)]) (lo := []) (envB_spec (by kernel_rfl)) rfl rfl ⟨.inl ⟨ref02PartsNaN.sound, by kernel_rfl⟩, trivial⟩ rfl trivial (by kernel_rfl) (by kernel_rfl)) Try.func49 (by kernel_rfl) ref02PartsBits.lp (l := []) (by kernel_rfl) (fun n => trivial) ref02PartsBits.eq
noncomputable def ref04Same (fu : Nat) (a : S1) (b : S1) : Option (Bool × Unit) :=
  cond (a.1 != b.1) (
    some (false, ())) (
    cond (a.1 == (1 : Int)) (
      some (a.2.1 == b.2.1, ())) (
      cond (a.1 == (2 : Int)) (
        (ref02Of fu a.2.2.1).bind fun r1 =>
        (ref02PartsBits fu r1.1).bind fun r2 =>
        (ref02Of fu b.2.2.1).bind fun r3 =>
        (ref02PartsBits fu r3.1).bind fun r4 =>
        some (r2.1 == r4.1, ())) (
        cond (a.1 == (3 : Int)) (
          some (a.2.2.2.1 == b.2.2.2.1, ())) (
          some (true, ())))))

noncomputable def ref04Same.body : Code := Try.f15.body.getD .skip
noncomputable def ref04Same.con : Con := { ps := [kS1, kS1], rs := [.bool], f := fun n x => ref04Same n x.1 x.2.1 }
noncomputable def ref04Same.env : Env := { tys := [(34, ⟨kS1, 40⟩), (4, ⟨.bool, 1⟩), (5, ⟨(.int .u8), 1⟩), (2, ⟨(.int .i64), 8⟩), (32, ⟨.flt, 8⟩), (9, ⟨.str, 16⟩)], elems := [], ptrs := [], cons := [(48, ref02Of.con), (49, ref02PartsBits.con)], objs := [], loops := [], cuts := [], globs := globs, base := 0 }
noncomputable def ref04Same.lp (n : Nat) : LP (Kd.struct ref04Same.con.rs).T := fun lo κ body nm K s =>
  loops n (Kd.struct ref04Same.con.rs).T lo κ body nm K s
theorem ref04Same.eq (n : Nat) (x : (Kd.struct ref04Same.con.ps).T) : evFunc ref04Same.env Try.f15 ref04Same.body ref04Same.con.ps ref04Same.con.rs (ref04Same.lp n) n x = ref04Same.con.f n x := by kernel_rfl
theorem ref04Same.sound : Sound Try.prog globs 15 ref04Same.con :=
  sound_by (E := ref04Same.env) (c := ref04Same.body) (envOk (G := globs) (lc := [(48, ref02Of.con), (49, ref02PartsBits.con)]) (lo := []) (envB_spec (by kernel_rfl)) rfl rfl ⟨.inl ⟨ref02Of.sound, by kernel_rfl⟩, ⟨.inl ⟨ref02PartsBits.sound, by kernel_rfl⟩, trivial⟩⟩ rfl trivial (by kernel_rfl) (by kernel_rfl)) Try.func15 (by kernel_rfl) ref04Same.lp (l := []) (by kernel_rfl) (fun n => trivial) ref04Same.eq
noncomputable def realSame (fu : Nat) (a : Nat) (b : Nat) : Option (Bool × Unit) :=
  (realBits fu a).bind fun r1 =>
  (realBits fu b).bind fun r2 =>
  some (r1.1 == r2.1, ())

noncomputable def realSame.body : Code := Try.f95.body.getD .skip
noncomputable def realSame.con : Con := { ps := [.flt, .flt], rs := [.bool], f := fun n x => realSame n x.1 x.2.1 }
noncomputable def realSame.env : Env := { tys := [(4, ⟨.bool, 1⟩)], elems := [], ptrs := [], cons := [(127, realBits.con)], objs := [], loops := [], cuts := [], globs := globs, base := 0 }
noncomputable def realSame.lp (n : Nat) : LP (Kd.struct realSame.con.rs).T := fun lo κ body nm K s =>
  loops n (Kd.struct realSame.con.rs).T lo κ body nm K s
theorem realSame.eq (n : Nat) (x : (Kd.struct realSame.con.ps).T) : evFunc realSame.env Try.f95 realSame.body realSame.con.ps realSame.con.rs (realSame.lp n) n x = realSame.con.f n x := by kernel_rfl
theorem realSame.sound : Sound Try.prog globs 95 realSame.con :=
  sound_by (E := realSame.env) (c := realSame.body) (envOk (G := globs) (lc := [(127, realBits.con)]) (lo := []) (envB_spec (by kernel_rfl)) rfl rfl ⟨.inl ⟨realBits.sound, by kernel_rfl⟩, trivial⟩ rfl trivial (by kernel_rfl) (by kernel_rfl)) Try.func95 (by kernel_rfl) realSame.lp (l := []) (by kernel_rfl) (fun n => trivial) realSame.eq
noncomputable def valueSame (fu : Nat) (a : S1) (b : S1) : Option (Bool × Unit) :=
  (valueHeld fu a).bind fun r1 =>
  (valueHeld fu b).bind fun r2 =>
  cond (r1.1.1 == r2.1.1) (
    cond (r1.1.2.1 == r2.1.2.1) (
      let t3 := r1.1.2.2.2.1 == r2.1.2.2.2.1
      cond t3 (
        (realSame fu r1.1.2.2.1 r2.1.2.2.1).bind fun r4 =>
        some (r4.1, ())) (
        some (false, ()))) (
      some (false, ()))) (
    some (false, ()))

noncomputable def valueSame.body : Code := Try.f51.body.getD .skip
noncomputable def valueSame.con : Con := { ps := [kS1, kS1], rs := [.bool], f := fun n x => valueSame n x.1 x.2.1 }
noncomputable def valueSame.env : Env := { tys := [(34, ⟨kS1, 40⟩), (4, ⟨.bool, 1⟩), (5, ⟨(.int .u8), 1⟩), (2, ⟨(.int .i64), 8⟩), (9, ⟨.str, 16⟩), (32, ⟨.flt, 8⟩)], elems := [], ptrs := [], cons := [(94, valueHeld.con), (95, realSame.con)], objs := [], loops := [], cuts := [], globs := globs, base := 0 }
noncomputable def valueSame.lp (n : Nat) : LP (Kd.struct valueSame.con.rs).T := fun lo κ body nm K s =>
  loops n (Kd.struct valueSame.con.rs).T lo κ body nm K s
theorem valueSame.eq (n : Nat) (x : (Kd.struct valueSame.con.ps).T) : evFunc valueSame.env Try.f51 valueSame.body valueSame.con.ps valueSame.con.rs (valueSame.lp n) n x = valueSame.con.f n x := by kernel_rfl
theorem valueSame.sound : Sound Try.prog globs 51 valueSame.con :=
  sound_by (E := valueSame.env) (c := valueSame.body) (envOk (G := globs) (lc := [(94, valueHeld.con), (95, realSame.con)]) (lo := []) (envB_spec (by kernel_rfl)) rfl rfl ⟨.inl ⟨valueHeld.sound, by kernel_rfl⟩, ⟨.inl ⟨realSame.sound, by kernel_rfl⟩, trivial⟩⟩ rfl trivial (by kernel_rfl) (by kernel_rfl)) Try.func51 (by kernel_rfl) valueSame.lp (l := []) (by kernel_rfl) (fun n => trivial) valueSame.eq
noncomputable def slicesEqualFunc.b4 (fu : Nat) (next : (List S1) → (List S1) → Int → Int → Option ((Bool × Unit) × (Unit))) (k1 : Bool → Option ((Bool × Unit) × (Unit))) (k2 : Unit → Option ((Bool × Unit) × (Unit))) (s2 : List S1) (v : List S1) (vx2 : Int) (vx3 : Int) : Option ((Bool × Unit) × (Unit)) :=
  cond (decide (vx3 < vx2)) (
    chk (ixOk v vx3) <|
    let e1 := ixL ((0 : Int), (0 : Int), (0 : Nat), [], ()) v vx3
    chk (ixOk s2 vx3) <|
    let e2 := ixL ((0 : Int), (0 : Int), (0 : Nat), [], ()) s2 vx3
    (valueSame fu e1 e2).bind fun r3 =>
    cond (!r3.1) (
      k1 false) (
      let t4 := IntKind.i64.wrap (vx3 + (1 : Int))
      next s2 v vx2 t4)) (
    k2 ())
noncomputable def slicesEqualFunc.l4 (fu : Nat) (k1 : Bool → Option ((Bool × Unit) × (Unit))) (k2 : Unit → Option ((Bool × Unit) × (Unit))) : Nat → (List S1) → (List S1) → Int → Int → Option ((Bool × Unit) × (Unit))
  | 0, _, _, _, _ => none
  | m + 1, s2, v, vx2, vx3 => slicesEqualFunc.b4 fu (slicesEqualFunc.l4 fu k1 k2 m) k1 k2 s2 v vx2 vx3
noncomputable def slicesEqualFunc (fu : Nat) (s1 : List S1) (s2 : List S1) : Option ((Bool × Unit) × (Unit)) :=
  let t1 := (s1.length : Int) != (s2.length : Int)
  cond t1 (
    some ((false, ()), (()))) (
    slicesEqualFunc.l4 fu (fun vq3 => 
        some ((vq3, ()), (()))) (fun (_ : Unit) => 
        some ((true, ()), (()))) fu s2 s1 (s1.length : Int) (0 : Int))

noncomputable def slicesEqualFunc.body : Code := Try.f50.body.getD .skip
abbrev slicesEqualFunc.shl4 : Shp := ⟨[.u, .d (.slice kS1), .f 51, .u, .u, .u, .u, .u, .u, .u, .u, .u, .u, .u, .u, .d (.slice kS1), .d (.int .i64), .d (.int .i64), .u, .u, .u, .u, .u, .u, .u, .u, .u, .u, .u, .u, .u, .u], []⟩
abbrev slicesEqualFunc.outl4e1 : Shp := ⟨[.u, .u, .u, .u, .u, .u, .d .bool, .u, .u, .u, .u, .u, .u, .u, .u, .u, .u, .u, .u, .u, .u, .u, .u, .u, .u, .u, .u, .u, .u, .u, .u, .u], []⟩
abbrev slicesEqualFunc.outl4e2 : Shp := ⟨[.u, .u, .u, .u, .u, .u, .u, .u, .u, .u, .u, .u, .u, .u, .u, .u, .u, .u, .u, .u, .u, .u, .u, .u, .u, .u, .u, .u, .u, .u, .u, .u], []⟩
noncomputable def slicesEqualFunc.nml4 : Norm := ⟨{ keep := [1, 2, 15, 16, 17], shut := [(1, (.slice kS1)), (15, (.slice kS1)), (16, (.int .i64)), (17, (.int .i64))], retag := [], heap := 0, dead := [], cshut := [], cretag := [] }, [(1, { keep := [6], shut := [(6, .bool)], retag := [], heap := 0, dead := [], cshut := [], cretag := [] }), (2, { keep := [], shut := [], retag := [], heap := 0, dead := [], cshut := [], cretag := [] })]⟩
noncomputable def slicesEqualFunc.con : OCon := { ps := [.dat (.slice kS1), .dat (.slice kS1), .fn 51], rs := [.dat .bool], f := fun n x => slicesEqualFunc n x.1 x.2.1 }
noncomputable def slicesEqualFunc.env : Env := { tys := [(4, ⟨.bool, 1⟩), (34, ⟨kS1, 40⟩), (3, ⟨(.int .i64), 8⟩)], elems := [(25, 34)], ptrs := [], cons := [(51, valueSame.con)], objs := [], loops := [(4, slicesEqualFunc.nml4)], cuts := [], globs := globs, base := 0 }
noncomputable def slicesEqualFunc.lp (n : Nat) : LP (RT slicesEqualFunc.con.rs × BT slicesEqualFunc.con.ps) := fun lo κ body nm K s =>
  cond (lo && Nat.beq κ 4)
    (match slicesEqualFunc.shl4.dec s with
    | some v => slicesEqualFunc.l4 n (fun w0 => K .ret (slicesEqualFunc.outl4e1.enc (w0, ()))) (fun _ => K (.exit 0) (slicesEqualFunc.outl4e2.enc (()))) n v.1 v.2.1 v.2.2.1 v.2.2.2.1
    | none => loops n (RT slicesEqualFunc.con.rs × BT slicesEqualFunc.con.ps) lo κ body nm K s)
    (loops n (RT slicesEqualFunc.con.rs × BT slicesEqualFunc.con.ps) lo κ body nm K s)
theorem slicesEqualFunc.atl4 (n : Nat) (s : St) (K : Ex → St → Option (RT slicesEqualFunc.con.rs × BT slicesEqualFunc.con.ps)) : (slicesEqualFunc.lp n) true 4 (evK slicesEqualFunc.env (slicesEqualFunc.lp n) n (sub [1, 1, 0, 1, 0, 0] slicesEqualFunc.body)) slicesEqualFunc.nml4 K s = loops n (RT slicesEqualFunc.con.rs × BT slicesEqualFunc.con.ps) true 4 (evK slicesEqualFunc.env (slicesEqualFunc.lp n) n (sub [1, 1, 0, 1, 0, 0] slicesEqualFunc.body)) slicesEqualFunc.nml4 K s := by
  show (match slicesEqualFunc.shl4.dec s with | some v => slicesEqualFunc.l4 n (fun w0 => K .ret (slicesEqualFunc.outl4e1.enc (w0, ()))) (fun _ => K (.exit 0) (slicesEqualFunc.outl4e2.enc (()))) n v.1 v.2.1 v.2.2.1 v.2.2.2.1 | none => loops n (RT slicesEqualFunc.con.rs × BT slicesEqualFunc.con.ps) true 4 (evK slicesEqualFunc.env (slicesEqualFunc.lp n) n (sub [1, 1, 0, 1, 0, 0] slicesEqualFunc.body)) slicesEqualFunc.nml4 K s) = _
  cases h : slicesEqualFunc.shl4.dec s with
  | none => rfl
  | some v =>
    rw [Shp.dec_enc h]
    exact (evLoop_eq (sh := slicesEqualFunc.shl4) (body := evK slicesEqualFunc.env (slicesEqualFunc.lp n) n (sub [1, 1, 0, 1, 0, 0] slicesEqualFunc.body)) (nm := slicesEqualFunc.nml4) (K := K) (b := fun nx v => slicesEqualFunc.b4 n (fun x0 x1 x2 x3 => nx (x0, x1, x2, x3, ())) (fun w0 => K .ret (slicesEqualFunc.outl4e1.enc (w0, ()))) (fun _ => K (.exit 0) (slicesEqualFunc.outl4e2.enc (()))) v.1 v.2.1 v.2.2.1 v.2.2.2.1) (l := fun m v => slicesEqualFunc.l4 n (fun w0 => K .ret (slicesEqualFunc.outl4e1.enc (w0, ()))) (fun _ => K (.exit 0) (slicesEqualFunc.outl4e2.enc (()))) m v.1 v.2.1 v.2.2.1 v.2.2.2.1) (fun _ => rfl) (fun _ _ => rfl) (fun m v => by kernel_rfl) n v).symm
theorem slicesEqualFunc.eq (n : Nat) (x : PT slicesEqualFunc.con.ps) : evFuncO slicesEqualFunc.env Try.f50 slicesEqualFunc.body slicesEqualFunc.con.ps slicesEqualFunc.con.rs (slicesEqualFunc.lp n) n x = slicesEqualFunc.con.f n x := by kernel_rfl
theorem slicesEqualFunc.sound : SoundO Try.prog globs 50 slicesEqualFunc.con :=
  sound_byO (E := slicesEqualFunc.env) (c := slicesEqualFunc.body) (envOk (G := globs) (lc := [(51, valueSame.con)]) (lo := []) (envB_spec (by kernel_rfl)) rfl rfl ⟨.inl ⟨valueSame.sound, by kernel_rfl⟩, trivial⟩ rfl trivial (by kernel_rfl) (by kernel_rfl)) Try.func50 (by kernel_rfl) (by kernel_rfl) (by kernel_rfl) slicesEqualFunc.lp (l := [(true, sub [1, 1, 0, 1, 0, 0] slicesEqualFunc.body, slicesEqualFunc.nml4)]) (by kernel_rfl) (fun n => ⟨slicesEqualFunc.atl4 n, trivial⟩) slicesEqualFunc.eq
noncomputable def eventSame (fu : Nat) (a : S2) (b : S2) : Option (Bool × Unit) :=
  cond (a.1 == b.1) (
    (slicesEqualFunc fu a.2.1 b.2.1).bind fun r1 =>
    some (r1.1.1, ())) (
    some (false, ()))

noncomputable def eventSame.body : Code := Try.f16.body.getD .skip
noncomputable def eventSame.con : Con := { ps := [kS2, kS2], rs := [.bool], f := fun n x => eventSame n x.1 x.2.1 }
noncomputable def eventSame.env : Env := { tys := [(27, ⟨kS2, 32⟩), (4, ⟨.bool, 1⟩), (5, ⟨(.int .u8), 1⟩), (25, ⟨(.slice kS1), 24⟩)], elems := [], ptrs := [], cons := [], objs := [(50, [slicesEqualFunc.con])], loops := [], cuts := [], globs := globs, base := 0 }
noncomputable def eventSame.lp (n : Nat) : LP (Kd.struct eventSame.con.rs).T := fun lo κ body nm K s =>
  loops n (Kd.struct eventSame.con.rs).T lo κ body nm K s
theorem eventSame.eq (n : Nat) (x : (Kd.struct eventSame.con.ps).T) : evFunc eventSame.env Try.f16 eventSame.body eventSame.con.ps eventSame.con.rs (eventSame.lp n) n x = eventSame.con.f n x := by kernel_rfl
theorem eventSame.sound : Sound Try.prog globs 16 eventSame.con :=
  sound_by (E := eventSame.env) (c := eventSame.body) (envOk (G := globs) (lc := []) (lo := [(50, [slicesEqualFunc.con])]) (envB_spec (by kernel_rfl)) rfl rfl trivial rfl ⟨⟨⟨slicesEqualFunc.sound, trivial⟩, by kernel_rfl⟩, trivial⟩ (by kernel_rfl) (by kernel_rfl)) Try.func16 (by kernel_rfl) eventSame.lp (l := []) (by kernel_rfl) (fun n => trivial) eventSame.eq
noncomputable def ref05Same.b4 (fu : Nat) (next : Int → Int → S2 → S2 → Option (Bool × Unit)) (k1 : Bool → Option (Bool × Unit)) (k2 : Unit → Option (Bool × Unit)) (v : Int) (vx2 : Int) (b0 : S2) (b1 : S2) : Option (Bool × Unit) :=
  cond (decide (vx2 < v)) (
    chk (ixOk b0.2.1 vx2) <|
    let e1 := ixL ((0 : Int), (0 : Int), (0 : Nat), [], ()) b0.2.1 vx2
    chk (ixOk b1.2.1 vx2) <|
    let e2 := ixL ((0 : Int), (0 : Int), (0 : Nat), [], ()) b1.2.1 vx2
    (ref04Same fu e1 e2).bind fun r3 =>
    cond (!r3.1) (
      k1 false) (
      let t4 := IntKind.i64.wrap (vx2 + (1 : Int))
      next v t4 b0 b1)) (
    k2 ())
noncomputable def ref05Same.l4 (fu : Nat) (k1 : Bool → Option (Bool × Unit)) (k2 : Unit → Option (Bool × Unit)) : Nat → Int → Int → S2 → S2 → Option (Bool × Unit)
  | 0, _, _, _, _ => none
  | m + 1, v, vx2, b0, b1 => ref05Same.b4 fu (ref05Same.l4 fu k1 k2 m) k1 k2 v vx2 b0 b1
noncomputable def ref05Same (fu : Nat) (a : S2) (b : S2) : Option (Bool × Unit) :=
  cond (a.1 != b.1) (
    some (false, ())) (
    let t1 := (a.2.1.length : Int) != (b.2.1.length : Int)
    cond t1 (
      some (false, ())) (
      ref05Same.l4 fu (fun vq3 => 
          some (vq3, ())) (fun (_ : Unit) => 
          some (true, ())) fu (a.2.1.length : Int) (0 : Int) a b))

noncomputable def ref05Same.body : Code := Try.f17.body.getD .skip
abbrev ref05Same.shl4 : Shp := ⟨[.u, .u, .p 0 0, .p 1 0, .u, .u, .u, .u, .u, .u, .u, .u, .u, .u, .u, .u, .u, .u, .u, .u, .u, .u, .d (.int .i64), .d (.int .i64), .u, .u, .u, .u, .u, .u, .u, .u, .u, .u, .u, .u, .u, .u, .u], [.c [.g kS2], .c [.g kS2]]⟩
abbrev ref05Same.outl4e1 : Shp := ⟨[.u, .u, .u, .u, .d .bool, .u, .u, .u, .u, .u, .u, .u, .u, .u, .u, .u, .u, .u, .u, .u, .u, .u, .u, .u, .u, .u, .u, .u, .u, .u, .u, .u, .u, .u, .u, .u, .u, .u, .u], []⟩
abbrev ref05Same.outl4e2 : Shp := ⟨[.u, .u, .u, .u, .u, .u, .u, .u, .u, .u, .u, .u, .u, .u, .u, .u, .u, .u, .u, .u, .u, .u, .u, .u, .u, .u, .u, .u, .u, .u, .u, .u, .u, .u, .u, .u, .u, .u, .u], []⟩
noncomputable def ref05Same.nml4 : Norm := ⟨{ keep := [2, 3, 22, 23], shut := [(22, (.int .i64)), (23, (.int .i64))], retag := [], heap := 2, dead := [], cshut := [(0, 0, (.int .u8)), (0, 1, (.slice kS1)), (1, 0, (.int .u8)), (1, 1, (.slice kS1))], cretag := [] }, [(1, { keep := [4], shut := [(4, .bool)], retag := [], heap := 0, dead := [], cshut := [], cretag := [] }), (2, { keep := [], shut := [], retag := [], heap := 0, dead := [], cshut := [], cretag := [] })]⟩
noncomputable def ref05Same.con : Con := { ps := [kS2, kS2], rs := [.bool], f := fun n x => ref05Same n x.1 x.2.1 }
noncomputable def ref05Same.env : Env := { tys := [(27, ⟨kS2, 32⟩), (4, ⟨.bool, 1⟩), (5, ⟨(.int .u8), 1⟩), (25, ⟨(.slice kS1), 24⟩), (34, ⟨kS1, 40⟩), (3, ⟨(.int .i64), 8⟩)], elems := [(25, 34)], ptrs := [], cons := [(15, ref04Same.con)], objs := [], loops := [(4, ref05Same.nml4)], cuts := [], globs := globs, base := 0 }
noncomputable def ref05Same.lp (n : Nat) : LP (Kd.struct ref05Same.con.rs).T := fun lo κ body nm K s =>
  cond (lo && Nat.beq κ 4)
    (match ref05Same.shl4.dec s with
    | some v => ref05Same.l4 n (fun w0 => K .ret (ref05Same.outl4e1.enc (w0, ()))) (fun _ => K (.exit 0) (ref05Same.outl4e2.enc (()))) n v.1 v.2.1 v.2.2.1 v.2.2.2.1
    | none => loops n (Kd.struct ref05Same.con.rs).T lo κ body nm K s)
    (loops n (Kd.struct ref05Same.con.rs).T lo κ body nm K s)
theorem ref05Same.atl4 (n : Nat) (s : St) (K : Ex → St → Option (Kd.struct ref05Same.con.rs).T) : (ref05Same.lp n) true 4 (evK ref05Same.env (ref05Same.lp n) n (sub [1, 1, 0, 1, 0, 0] ref05Same.body)) ref05Same.nml4 K s = loops n (Kd.struct ref05Same.con.rs).T true 4 (evK ref05Same.env (ref05Same.lp n) n (sub [1, 1, 0, 1, 0, 0] ref05Same.body)) ref05Same.nml4 K s := by
  show (match ref05Same.shl4.dec s with | some v => ref05Same.l4 n (fun w0 => K .ret (ref05Same.outl4e1.enc (w0, ()))) (fun _ => K (.exit 0) (ref05Same.outl4e2.enc (()))) n v.1 v.2.1 v.2.2.1 v.2.2.2.1 | none => loops n (Kd.struct ref05Same.con.rs).T true 4 (evK ref05Same.env (ref05Same.lp n) n (sub [1, 1, 0, 1, 0, 0] ref05Same.body)) ref05Same.nml4 K s) = _
  cases h : ref05Same.shl4.dec s with
  | none => rfl
  | some v =>
    rw [Shp.dec_enc h]
    exact (evLoop_eq (sh := ref05Same.shl4) (body := evK ref05Same.env (ref05Same.lp n) n (sub [1, 1, 0, 1, 0, 0] ref05Same.body)) (nm := ref05Same.nml4) (K := K) (b := fun nx v => ref05Same.b4 n (fun x0 x1 x2 x3 => nx (x0, x1, x2, x3, ())) (fun w0 => K .ret (ref05Same.outl4e1.enc (w0, ()))) (fun _ => K (.exit 0) (ref05Same.outl4e2.enc (()))) v.1 v.2.1 v.2.2.1 v.2.2.2.1) (l := fun m v => ref05Same.l4 n (fun w0 => K .ret (ref05Same.outl4e1.enc (w0, ()))) (fun _ => K (.exit 0) (ref05Same.outl4e2.enc (()))) m v.1 v.2.1 v.2.2.1 v.2.2.2.1) (fun _ => rfl) (fun _ _ => rfl) (fun m v => by kernel_rfl) n v).symm
theorem ref05Same.eq (n : Nat) (x : (Kd.struct ref05Same.con.ps).T) : evFunc ref05Same.env Try.f17 ref05Same.body ref05Same.con.ps ref05Same.con.rs (ref05Same.lp n) n x = ref05Same.con.f n x := by kernel_rfl
theorem ref05Same.sound : Sound Try.prog globs 17 ref05Same.con :=
  sound_by (E := ref05Same.env) (c := ref05Same.body) (envOk (G := globs) (lc := [(15, ref04Same.con)]) (lo := []) (envB_spec (by kernel_rfl)) rfl rfl ⟨.inl ⟨ref04Same.sound, by kernel_rfl⟩, trivial⟩ rfl trivial (by kernel_rfl) (by kernel_rfl)) Try.func17 (by kernel_rfl) ref05Same.lp (l := [(true, sub [1, 1, 0, 1, 0, 0] ref05Same.body, ref05Same.nml4)]) (by kernel_rfl) (fun n => ⟨ref05Same.atl4 n, trivial⟩) ref05Same.eq
noncomputable def law05EventSame.b6 (fu : Nat) (next : Int → Int → S3 → S2 → S2 → Int → Nat → Option (Bool × Unit)) (k2 : S3 → S2 → S2 → Option (Bool × Unit)) (v : Int) (vx2 : Int) (b0 : S3) (b2 : S2) (b3 : S2) (c4 : Int) (nc4 : Nat) : Option (Bool × Unit) :=
  cond (decide (vx2 < v)) (
    chk (decide (0 ≤ vx2) && decide (vx2 < (nc4 : Int))) <|
    let t1 := IntKind.i64.wrap (vx2 + (1 : Int))
    next v t1 b0 b2 b3 c4 nc4) (
    k2 b0 b2 b3)
noncomputable def law05EventSame.l6 (fu : Nat) (k2 : S3 → S2 → S2 → Option (Bool × Unit)) : Nat → Int → Int → S3 → S2 → S2 → Int → Nat → Option (Bool × Unit)
  | 0, _, _, _, _, _, _, _ => none
  | m + 1, v, vx2, b0, b2, b3, c4, nc4 => law05EventSame.b6 fu (law05EventSame.l6 fu k2 m) k2 v vx2 b0 b2 b3 c4 nc4
noncomputable def law05EventSame.b11 (fu : Nat) (next : (List S1) → Int → Int → S3 → S2 → S2 → Option (Bool × Unit)) (k1 : Bool → Option (Bool × Unit)) (k4 : S3 → S2 → S2 → Option (Bool × Unit)) (v : List S1) (vx2 : Int) (vx3 : Int) (b0 : S3) (b2 : S2) (b3 : S2) : Option (Bool × Unit) :=
  cond (decide (vx3 < vx2)) (
    chk (ixOk v vx3) <|
    let e1 := ixL ((0 : Int), (0 : Int), (0 : Nat), [], ()) v vx3
    cond (e1.1 == (9 : Int)) (
      (ref04Same fu e1 ((9 : Int), (0 : Int), (0 : Nat), [], ())).bind fun r2 =>
      cond (!r2.1) (
        k1 false) (
        let t3 := IntKind.i64.wrap (vx3 + (1 : Int))
        next v vx2 t3 b0 b2 b3)) (
      let t4 := IntKind.i64.wrap (vx3 + (1 : Int))
      next v vx2 t4 b0 b2 b3)) (
    k4 b0 b2 b3)
noncomputable def law05EventSame.l11 (fu : Nat) (k1 : Bool → Option (Bool × Unit)) (k4 : S3 → S2 → S2 → Option (Bool × Unit)) : Nat → (List S1) → Int → Int → S3 → S2 → S2 → Option (Bool × Unit)
  | 0, _, _, _, _, _, _ => none
  | m + 1, v, vx2, vx3, b0, b2, b3 => law05EventSame.b11 fu (law05EventSame.l11 fu k1 k4 m) k1 k4 v vx2 vx3 b0 b2 b3
noncomputable def law05EventSame.j2 (fu : Nat) (k1 : Bool → Option (Bool × Unit)) (b0 : S3) (b2 : S2) (b3 : S2) : Option (Bool × Unit) :=
  (ref05Great fu b2).bind fun r1 =>
  cond r1.1 (
    (law05Fixed fu).bind fun r2 =>
    k1 r2.1) (
    (ref05Great fu b3).bind fun r3 =>
    cond r3.1 (
      (law05Fixed fu).bind fun r4 =>
      k1 r4.1) (
      (eventOwnJk fu b2).bind fun r5 =>
      law05EventSame.l6 fu (fun b0q3 b2q3 b3q3 => 
          law05EventSame.l11 fu (fun vq6 => 
              k1 vq6) (fun b0q7 b2q7 b3q7 => 
              (law05Fixed fu).bind fun r6 =>
              cond r6.1 (
                (eventSame fu b2q7 b3q7).bind fun r7 =>
                (ref05Same fu b2q7 b3q7).bind fun r8 =>
                cond (r7.1 == r8.1) (
                  (law05RawEvent fu b0q7).bind fun r9 =>
                  (ref05Same fu b2q7 r9.1).bind fun r10 =>
                  cond r10.1 (
                    (eventSame fu b2q7 b2q7).bind fun r11 =>
                    k1 r11.1) (
                    k1 false)) (
                  k1 false)) (
                k1 false)) fu b2q3.2.1 (b2q3.2.1.length : Int) (0 : Int) b0q3 b2q3 b3q3) fu (r5.1.1.2.1 : Int) (0 : Int) b0 b2 b3 r5.1.1.1 r5.1.1.2.1))
noncomputable def law05EventSame (fu : Nat) (xv : S3) (yv : S3) : Option (Bool × Unit) :=
  twice (
    (law05RawEvent fu xv).bind fun r1 =>
    (law05RawEvent fu yv).bind fun r2 =>
    law05EventSame.j2 fu (fun vq1 => 
        some (vq1, ())) xv r1.1 r2.1)

noncomputable def law05EventSame.body : Code := Try.f3.body.getD .skip
abbrev law05EventSame.shl6 : Shp := ⟨[.u, .u, .p 0 0, .u, .u, .p 2 0, .p 3 0, .p 4 0, .u, .u, .u, .u, .u, .u, .u, .u, .u, .u, .u, .u, .u, .u, .u, .u, .u, .u, .d (.int .i64), .d (.int .i64), .u, .u, .u, .u, .u, .u, .u, .u, .u, .u, .u, .u, .u, .u, .u, .u, .u, .u, .u, .u, .u, .u, .u, .u, .u, .u, .u, .u, .u, .u, .u, .u, .u, .u, .u, .u, .u, .u, .u, .u, .u, .u, .u, .u, .u, .u], [.c [.g kS3], .c [.u, .u], .c [.g kS2], .c [.g kS2], .c [.d (.int .u8), .jk kS1]]⟩
abbrev law05EventSame.outl6e2 : Shp := ⟨[.u, .u, .p 0 0, .u, .u, .p 2 0, .p 3 0, .u, .u, .u, .u, .u, .u, .u, .u, .u, .u, .u, .u, .u, .u, .u, .u, .u, .u, .u, .u, .u, .u, .u, .u, .u, .u, .u, .u, .u, .u, .u, .u, .u, .u, .u, .u, .u, .u, .u, .u, .u, .u, .u, .u, .u, .u, .u, .u, .u, .u, .u, .u, .u, .u, .u, .u, .u, .u, .u, .u, .u, .u, .u, .u, .u, .u, .u], [.c [.g kS3], .c [.u, .u], .c [.g kS2], .c [.g kS2]]⟩
noncomputable def law05EventSame.nml6 : Norm := ⟨{ keep := [2, 5, 6, 7, 26, 27], shut := [(26, (.int .i64)), (27, (.int .i64))], retag := [], heap := 5, dead := [1], cshut := [(0, 0, (.int .u8)), (0, 1, (.slice kS0)), (2, 0, (.int .u8)), (2, 1, (.slice kS1)), (3, 0, (.int .u8)), (3, 1, (.slice kS1)), (4, 0, (.int .u8))], cretag := [] }, [(2, { keep := [2, 5, 6], shut := [], retag := [], heap := 4, dead := [1], cshut := [(0, 0, (.int .u8)), (0, 1, (.slice kS0)), (2, 0, (.int .u8)), (2, 1, (.slice kS1)), (3, 0, (.int .u8)), (3, 1, (.slice kS1))], cretag := [] })]⟩
abbrev law05EventSame.shl11 : Shp := ⟨[.u, .u, .p 0 0, .u, .u, .p 2 0, .p 3 0, .u, .u, .u, .u, .u, .u, .u, .u, .u, .u, .u, .u, .u, .u, .u, .u, .u, .u, .u, .u, .u, .u, .u, .u, .u, .u, .u, .u, .u, .u, .d (.slice kS1), .d (.int .i64), .d (.int .i64), .u, .u, .u, .u, .u, .u, .u, .u, .u, .u, .u, .u, .u, .u, .u, .u, .u, .u, .u, .u, .u, .u, .u, .u, .u, .u, .u, .u, .u, .u, .u, .u, .u, .u], [.c [.g kS3], .c [.u, .u], .c [.g kS2], .c [.g kS2]]⟩
abbrev law05EventSame.outl11e1 : Shp := ⟨[.u, .u, .u, .u, .d .bool, .u, .u, .u, .u, .u, .u, .u, .u, .u, .u, .u, .u, .u, .u, .u, .u, .u, .u, .u, .u, .u, .u, .u, .u, .u, .u, .u, .u, .u, .u, .u, .u, .u, .u, .u, .u, .u, .u, .u, .u, .u, .u, .u, .u, .u, .u, .u, .u, .u, .u, .u, .u, .u, .u, .u, .u, .u, .u, .u, .u, .u, .u, .u, .u, .u, .u, .u, .u, .u], []⟩
abbrev law05EventSame.outl11e4 : Shp := ⟨[.u, .u, .p 0 0, .u, .u, .p 2 0, .p 3 0, .u, .u, .u, .u, .u, .u, .u, .u, .u, .u, .u, .u, .u, .u, .u, .u, .u, .u, .u, .u, .u, .u, .u, .u, .u, .u, .u, .u, .u, .u, .u, .u, .u, .u, .u, .u, .u, .u, .u, .u, .u, .u, .u, .u, .u, .u, .u, .u, .u, .u, .u, .u, .u, .u, .u, .u, .u, .u, .u, .u, .u, .u, .u, .u, .u, .u, .u], [.c [.g kS3], .c [.u, .u], .c [.g kS2], .c [.g kS2]]⟩
noncomputable def law05EventSame.nml11 : Norm := ⟨{ keep := [2, 5, 6, 37, 38, 39], shut := [(37, (.slice kS1)), (38, (.int .i64)), (39, (.int .i64))], retag := [], heap := 4, dead := [1], cshut := [(0, 0, (.int .u8)), (0, 1, (.slice kS0)), (2, 0, (.int .u8)), (2, 1, (.slice kS1)), (3, 0, (.int .u8)), (3, 1, (.slice kS1))], cretag := [] }, [(1, { keep := [4], shut := [(4, .bool)], retag := [], heap := 0, dead := [], cshut := [], cretag := [] }), (4, { keep := [2, 5, 6], shut := [], retag := [], heap := 4, dead := [1], cshut := [(0, 0, (.int .u8)), (0, 1, (.slice kS0)), (2, 0, (.int .u8)), (2, 1, (.slice kS1)), (3, 0, (.int .u8)), (3, 1, (.slice kS1))], cretag := [] })]⟩
abbrev law05EventSame.shj2 : Shp := ⟨[.u, .u, .p 0 0, .u, .u, .p 2 0, .p 3 0, .u, .u, .u, .u, .u, .u, .u, .u, .u, .u, .u, .u, .u, .u, .u, .u, .u, .u, .u, .u, .u, .u, .u, .u, .u, .u, .u, .u, .u, .u, .u, .u, .u, .u, .u, .u, .u, .u, .u, .u, .u, .u, .u, .u, .u, .u, .u, .u, .u, .u, .u, .u, .u, .u, .u, .u, .u, .u, .u, .u, .u, .u, .u, .u, .u, .u, .u], [.c [.g kS3], .c [.u, .u], .c [.g kS2], .c [.g kS2]]⟩
abbrev law05EventSame.outj2e1 : Shp := ⟨[.u, .u, .u, .u, .d .bool, .u, .u, .u, .u, .u, .u, .u, .u, .u, .u, .u, .u, .u, .u, .u, .u, .u, .u, .u, .u, .u, .u, .u, .u, .u, .u, .u, .u, .u, .u, .u, .u, .u, .u, .u, .u, .u, .u, .u, .u, .u, .u, .u, .u, .u, .u, .u, .u, .u, .u, .u, .u, .u, .u, .u, .u, .u, .u, .u, .u, .u, .u, .u, .u, .u, .u, .u, .u, .u], []⟩
noncomputable def law05EventSame.nmj2 : Norm := ⟨{ keep := [2, 5, 6], shut := [], retag := [], heap := 4, dead := [1], cshut := [(0, 0, (.int .u8)), (0, 1, (.slice kS0)), (2, 0, (.int .u8)), (2, 1, (.slice kS1)), (3, 0, (.int .u8)), (3, 1, (.slice kS1))], cretag := [] }, [(1, { keep := [4], shut := [(4, .bool)], retag := [], heap := 0, dead := [], cshut := [], cretag := [] })]⟩
noncomputable def law05EventSame.con : Con := { ps := [kS3, kS3], rs := [.bool], f := fun n x => law05EventSame n x.1 x.2.1 }
noncomputable def law05EventSame.env : Env := { tys := [(24, ⟨kS3, 32⟩), (4, ⟨.bool, 1⟩), (27, ⟨kS2, 32⟩), (25, ⟨(.slice kS1), 24⟩), (34, ⟨kS1, 40⟩), (3, ⟨(.int .i64), 8⟩), (5, ⟨(.int .u8), 1⟩)], elems := [(25, 34)], ptrs := [], cons := [(11, law05RawEvent.con), (12, ref05Great.con), (13, law05Fixed.con), (15, ref04Same.con), (16, eventSame.con), (17, ref05Same.con)], objs := [(14, [eventOwnJk.con])], loops := [(6, law05EventSame.nml6), (11, law05EventSame.nml11)], cuts := [(2, law05EventSame.nmj2)], globs := globs, base := 0, twos := [(1, 4, 5, 2, [0, 1, 2, 3, 5, 4, 6, 7])], rooms := [999999] }
noncomputable def law05EventSame.lp (n : Nat) : LP (Kd.struct law05EventSame.con.rs).T := fun lo κ body nm K s =>
  cond (lo && Nat.beq κ 6)
    (match law05EventSame.shl6.dec s with
    | some v => law05EventSame.l6 n (fun w0 w1 w2 => K (.exit 0) (law05EventSame.outl6e2.enc (w0, w1, w2, ()))) n v.1 v.2.1 v.2.2.1 v.2.2.2.1 v.2.2.2.2.1 v.2.2.2.2.2.1 v.2.2.2.2.2.2.1
    | none => loops n (Kd.struct law05EventSame.con.rs).T lo κ body nm K s)
    (cond (lo && Nat.beq κ 11)
    (match law05EventSame.shl11.dec s with
    | some v => law05EventSame.l11 n (fun w0 => K .ret (law05EventSame.outl11e1.enc (w0, ()))) (fun w0 w1 w2 => K (.exit 2) (law05EventSame.outl11e4.enc (w0, w1, w2, ()))) n v.1 v.2.1 v.2.2.1 v.2.2.2.1 v.2.2.2.2.1 v.2.2.2.2.2.1
    | none => loops n (Kd.struct law05EventSame.con.rs).T lo κ body nm K s)
    (cond (!lo && Nat.beq κ 2)
    (match law05EventSame.shj2.dec s with
    | some v => law05EventSame.j2 n (fun w0 => K .ret (law05EventSame.outj2e1.enc (w0, ()))) v.1 v.2.1 v.2.2.1
    | none => loops n (Kd.struct law05EventSame.con.rs).T lo κ body nm K s)
    (loops n (Kd.struct law05EventSame.con.rs).T lo κ body nm K s)))
theorem law05EventSame.atl6 (n : Nat) (s : St) (K : Ex → St → Option (Kd.struct law05EventSame.con.rs).T) : (law05EventSame.lp n) true 6 (evK law05EventSame.env (law05EventSame.lp n) n (sub [1, 1, 1, 1, 0, 1, 0, 0] law05EventSame.body)) law05EventSame.nml6 K s = loops n (Kd.struct law05EventSame.con.rs).T true 6 (evK law05EventSame.env (law05EventSame.lp n) n (sub [1, 1, 1, 1, 0, 1, 0, 0] law05EventSame.body)) law05EventSame.nml6 K s := by
  show (match law05EventSame.shl6.dec s with | some v => law05EventSame.l6 n (fun w0 w1 w2 => K (.exit 0) (law05EventSame.outl6e2.enc (w0, w1, w2, ()))) n v.1 v.2.1 v.2.2.1 v.2.2.2.1 v.2.2.2.2.1 v.2.2.2.2.2.1 v.2.2.2.2.2.2.1 | none => loops n (Kd.struct law05EventSame.con.rs).T true 6 (evK law05EventSame.env (law05EventSame.lp n) n (sub [1, 1, 1, 1, 0, 1, 0, 0] law05EventSame.body)) law05EventSame.nml6 K s) = _
  cases h : law05EventSame.shl6.dec s with
  | none => rfl
  | some v =>
    rw [Shp.dec_enc h]
    exact (evLoop_eq (sh := law05EventSame.shl6) (body := evK law05EventSame.env (law05EventSame.lp n) n (sub [1, 1, 1, 1, 0, 1, 0, 0] law05EventSame.body)) (nm := law05EventSame.nml6) (K := K) (b := fun nx v => law05EventSame.b6 n (fun x0 x1 x2 x3 x4 x5 x6 => nx (x0, x1, x2, x3, x4, x5, x6, ())) (fun w0 w1 w2 => K (.exit 0) (law05EventSame.outl6e2.enc (w0, w1, w2, ()))) v.1 v.2.1 v.2.2.1 v.2.2.2.1 v.2.2.2.2.1 v.2.2.2.2.2.1 v.2.2.2.2.2.2.1) (l := fun m v => law05EventSame.l6 n (fun w0 w1 w2 => K (.exit 0) (law05EventSame.outl6e2.enc (w0, w1, w2, ()))) m v.1 v.2.1 v.2.2.1 v.2.2.2.1 v.2.2.2.2.1 v.2.2.2.2.2.1 v.2.2.2.2.2.2.1) (fun _ => rfl) (fun _ _ => rfl) (fun m v => by kernel_rfl) n v).symm
theorem law05EventSame.atl11 (n : Nat) (s : St) (K : Ex → St → Option (Kd.struct law05EventSame.con.rs).T) : (law05EventSame.lp n) true 11 (evK law05EventSame.env (law05EventSame.lp n) n (sub [1, 1, 1, 1, 1, 0, 1, 0, 0] law05EventSame.body)) law05EventSame.nml11 K s = loops n (Kd.struct law05EventSame.con.rs).T true 11 (evK law05EventSame.env (law05EventSame.lp n) n (sub [1, 1, 1, 1, 1, 0, 1, 0, 0] law05EventSame.body)) law05EventSame.nml11 K s := by
  show (match law05EventSame.shl11.dec s with | some v => law05EventSame.l11 n (fun w0 => K .ret (law05EventSame.outl11e1.enc (w0, ()))) (fun w0 w1 w2 => K (.exit 2) (law05EventSame.outl11e4.enc (w0, w1, w2, ()))) n v.1 v.2.1 v.2.2.1 v.2.2.2.1 v.2.2.2.2.1 v.2.2.2.2.2.1 | none => loops n (Kd.struct law05EventSame.con.rs).T true 11 (evK law05EventSame.env (law05EventSame.lp n) n (sub [1, 1, 1, 1, 1, 0, 1, 0, 0] law05EventSame.body)) law05EventSame.nml11 K s) = _
  cases h : law05EventSame.shl11.dec s with
  | none => rfl
  | some v =>
    rw [Shp.dec_enc h]
    exact (evLoop_eq (sh := law05EventSame.shl11) (body := evK law05EventSame.env (law05EventSame.lp n) n (sub [1, 1, 1, 1, 1, 0, 1, 0, 0] law05EventSame.body)) (nm := law05EventSame.nml11) (K := K) (b := fun nx v => law05EventSame.b11 n (fun x0 x1 x2 x3 x4 x5 => nx (x0, x1, x2, x3, x4, x5, ())) (fun w0 => K .ret (law05EventSame.outl11e1.enc (w0, ()))) (fun w0 w1 w2 => K (.exit 2) (law05EventSame.outl11e4.enc (w0, w1, w2, ()))) v.1 v.2.1 v.2.2.1 v.2.2.2.1 v.2.2.2.2.1 v.2.2.2.2.2.1) (l := fun m v => law05EventSame.l11 n (fun w0 => K .ret (law05EventSame.outl11e1.enc (w0, ()))) (fun w0 w1 w2 => K (.exit 2) (law05EventSame.outl11e4.enc (w0, w1, w2, ()))) m v.1 v.2.1 v.2.2.1 v.2.2.2.1 v.2.2.2.2.1 v.2.2.2.2.2.1) (fun _ => rfl) (fun _ _ => rfl) (fun m v => by kernel_rfl) n v).symm
theorem law05EventSame.atj2 (n : Nat) (s : St) (K : Ex → St → Option (Kd.struct law05EventSame.con.rs).T) : (law05EventSame.lp n) false 2 (evK law05EventSame.env (law05EventSame.lp n) n (sub [1, 1] law05EventSame.body)) law05EventSame.nmj2 K s = loops n (Kd.struct law05EventSame.con.rs).T false 2 (evK law05EventSame.env (law05EventSame.lp n) n (sub [1, 1] law05EventSame.body)) law05EventSame.nmj2 K s := by
  show (match law05EventSame.shj2.dec s with | some v => law05EventSame.j2 n (fun w0 => K .ret (law05EventSame.outj2e1.enc (w0, ()))) v.1 v.2.1 v.2.2.1 | none => loops n (Kd.struct law05EventSame.con.rs).T false 2 (evK law05EventSame.env (law05EventSame.lp n) n (sub [1, 1] law05EventSame.body)) law05EventSame.nmj2 K s) = _
  cases h : law05EventSame.shj2.dec s with
  | none => rfl
  | some v =>
    rw [Shp.dec_enc h]
    kernel_rfl
theorem law05EventSame.eq (n : Nat) (x : (Kd.struct law05EventSame.con.ps).T) : evFunc law05EventSame.env Try.f3 law05EventSame.body law05EventSame.con.ps law05EventSame.con.rs (law05EventSame.lp n) n x = law05EventSame.con.f n x := by kernel_rfl
theorem law05EventSame.sound : Sound Try.prog globs 3 law05EventSame.con :=
  sound_by (E := law05EventSame.env) (c := law05EventSame.body) (envOk (G := globs) (lc := [(11, law05RawEvent.con), (12, ref05Great.con), (13, law05Fixed.con), (15, ref04Same.con), (16, eventSame.con), (17, ref05Same.con)]) (lo := [(14, [eventOwnJk.con])]) (envB_spec (by kernel_rfl)) rfl rfl ⟨.inl ⟨law05RawEvent.sound, by kernel_rfl⟩, ⟨.inl ⟨ref05Great.sound, by kernel_rfl⟩, ⟨.inl ⟨law05Fixed.sound, by kernel_rfl⟩, ⟨.inl ⟨ref04Same.sound, by kernel_rfl⟩, ⟨.inl ⟨eventSame.sound, by kernel_rfl⟩, ⟨.inl ⟨ref05Same.sound, by kernel_rfl⟩, trivial⟩⟩⟩⟩⟩⟩ rfl ⟨⟨⟨eventOwnJk.sound, trivial⟩, by kernel_rfl⟩, trivial⟩ (by kernel_rfl) (by kernel_rfl)) Try.func3 (by kernel_rfl) law05EventSame.lp (l := [(true, sub [1, 1, 1, 1, 0, 1, 0, 0] law05EventSame.body, law05EventSame.nml6), (true, sub [1, 1, 1, 1, 1, 0, 1, 0, 0] law05EventSame.body, law05EventSame.nml11), (false, sub [1, 1] law05EventSame.body, law05EventSame.nmj2)]) (by kernel_rfl) (fun n => ⟨law05EventSame.atl6 n, ⟨law05EventSame.atl11 n, ⟨law05EventSame.atj2 n, trivial⟩⟩⟩) law05EventSame.eq
end
end Go.Shal.Pr
