/- Prints of functions, and proofs that they are what the code computes. By an AI agent. -/
import Derived.Test.YtbhigcnmdobmoaaDoorShC
import Derived.Test.YtbhigcnmdobmoaaDoorProg
set_option linter.unusedVariables false
set_option maxRecDepth 100000
namespace Go.Shal.Pr
open Go Go.Shal Go.Proofs
noncomputable section
def tabPredSays : List (List Bool) := [[false, false, false], [false, true, false], [true, false, true], [true, false, false], [true, true, false], [false, false, true], [false, true, true]]
def globs : Globs := [(0, ⟨(.arr 7 (.arr 3 .bool)), tabPredSays⟩)]
abbrev kS0 : Kd := .struct [(.int .u8), (.int .i64), (.int .u64), .str]
abbrev S0 : Type := Int × Int × Int × (List Int) × Unit
abbrev kS1 : Kd := .struct [(.int .u8), (.int .i64), .flt, .str]
abbrev S1 : Type := Int × Int × Nat × (List Int) × Unit
abbrev kS2 : Kd := .struct [(.int .u8), (.int .u8), kS1]
abbrev S2 : Type := Int × Int × S1 × Unit
abbrev kS3 : Kd := .struct [.bool, (.int .u8), (.slice kS2)]
abbrev S3 : Type := Bool × Int × (List S2) × Unit
abbrev kS4 : Kd := .struct [(.int .u8), (.int .u8), kS0]
abbrev S4 : Type := Int × Int × S0 × Unit
abbrev kS5 : Kd := .struct [.bool, (.int .u8), (.slice kS4)]
abbrev S5 : Type := Bool × Int × (List S4) × Unit
abbrev kS6 : Kd := .struct [(.int .u8), (.slice kS1)]
abbrev S6 : Type := Int × (List S1) × Unit
abbrev kS7 : Kd := .struct [.bool, (.int .i64), (.int .u64)]
abbrev S7 : Type := Bool × Int × Int × Unit
abbrev kS8 : Kd := .struct [.bool, (.int .u8), .nsl]
abbrev S8 : Type := Bool × Int × Unit × Unit
noncomputable def law04RawValue (fu : Nat) (rv : S0) : Option (S1 × Unit) :=
  (extFrom.f fu (rv.2.2.1, ())).bind fun r1 =>
  some ((rv.1, rv.2.1, r1.1, rv.2.2.2.1, ()), ())

noncomputable def law04RawValue.body : Code := Tryd.f16.body.getD .skip
noncomputable def law04RawValue.con : Con := { ps := [kS0], rs := [kS1], f := fun n x => law04RawValue n x.1 }
noncomputable def law04RawValue.env : Env := { tys := [(43, ⟨kS0, 40⟩), (46, ⟨kS1, 40⟩), (5, ⟨(.int .u8), 1⟩), (2, ⟨(.int .i64), 8⟩), (41, ⟨(.int .u64), 8⟩), (9, ⟨.str, 16⟩)], elems := [], ptrs := [], cons := [(31, extFrom)], objs := [], loops := [], cuts := [], globs := globs, base := 0 }
noncomputable def law04RawValue.lp (n : Nat) : LP (Kd.struct law04RawValue.con.rs).T := fun lo κ body nm K s =>
  loops n (Kd.struct law04RawValue.con.rs).T lo κ body nm K s
theorem law04RawValue.eq (n : Nat) (x : (Kd.struct law04RawValue.con.ps).T) : evFunc law04RawValue.env Tryd.f16 law04RawValue.body law04RawValue.con.ps law04RawValue.con.rs (law04RawValue.lp n) n x = law04RawValue.con.f n x := by kernel_rfl
theorem law04RawValue.sound : Sound Tryd.prog globs 16 law04RawValue.con :=
  sound_by (E := law04RawValue.env) (c := law04RawValue.body) (envOk (G := globs) (lc := [(31, extFrom)]) (lo := []) (envB_spec (by kernel_rfl)) rfl rfl ⟨.inr (extFrom_ok Tryd.func31 (by kernel_rfl) (by kernel_rfl) (by kernel_rfl) (by kernel_rfl)), trivial⟩ rfl trivial (by kernel_rfl) (by kernel_rfl)) Tryd.func16 (by kernel_rfl) law04RawValue.lp (l := []) (by kernel_rfl) (fun n => trivial) law04RawValue.eq
noncomputable def law10RawPred.b3 (fu : Nat) (next : (List S4) → Int → Int → Bool → Int → (List S2) → Bool → Int → (List S2) → Option (S3 × Unit)) (k2 : Bool → Int → (List S2) → Bool → Int → (List S2) → Option (S3 × Unit)) (v : List S4) (vx2 : Int) (vx3 : Int) (c1 : Bool) (c1x2 : Int) (c1x3 : List S2) (c2 : Bool) (c2x2 : Int) (c2x3 : List S2) : Option (S3 × Unit) :=
  cond (decide (vx3 < vx2)) (
    chk (ixOk v vx3) <|
    let e1 := ixL ((0 : Int), (0 : Int), ((0 : Int), (0 : Int), (0 : Int), [], ()), ()) v vx3
    let t2 := decide (vx3 < (10 : Int))
    cond t2 (
      (law04RawValue fu e1.2.2.1).bind fun r3 =>
      let t4 := [(e1.1, e1.2.1, r3.1, ())]
      chk (apOk c2x3 t4 48) <|
      let t5 := IntKind.i64.wrap (vx3 + (1 : Int))
      next v vx2 t5 c1 c1x2 c1x3 c2 c2x2 (c2x3 ++ t4)) (
      let t6 := IntKind.i64.wrap (vx3 + (1 : Int))
      next v vx2 t6 c1 c1x2 c1x3 c2 c2x2 c2x3)) (
    k2 c1 c1x2 c1x3 c2 c2x2 c2x3)
noncomputable def law10RawPred.l3 (fu : Nat) (k2 : Bool → Int → (List S2) → Bool → Int → (List S2) → Option (S3 × Unit)) : Nat → (List S4) → Int → Int → Bool → Int → (List S2) → Bool → Int → (List S2) → Option (S3 × Unit)
  | 0, _, _, _, _, _, _, _, _, _ => none
  | m + 1, v, vx2, vx3, c1, c1x2, c1x3, c2, c2x2, c2x3 => law10RawPred.b3 fu (law10RawPred.l3 fu k2 m) k2 v vx2 vx3 c1 c1x2 c1x3 c2 c2x2 c2x3
noncomputable def law10RawPred (fu : Nat) (rv : S5) : Option (S3 × Unit) :=
  law10RawPred.l3 fu (fun c1q2 c1q2x2 c1q2x3 c2q2 c2q2x2 c2q2x3 => 
      some ((c2q2, c2q2x2, c2q2x3, ()), ())) fu rv.2.2.1 (rv.2.2.1.length : Int) (0 : Int) false (0 : Int) [] rv.1 rv.2.1 []

noncomputable def law10RawPred.body : Code := Tryd.f7.body.getD .skip
abbrev law10RawPred.shl3 : Shp := ⟨[.u, .u, .p 1 0, .p 2 0, .u, .u, .u, .u, .u, .u, .u, .u, .d (.slice kS4), .d (.int .i64), .d (.int .i64), .u, .u, .u, .u, .u, .u, .u, .u, .u, .u, .u, .u, .u, .u, .u, .u, .u, .u, .u, .u, .u], [.c [.u, .u, .u], .c [.d .bool, .d (.int .u8), .o 1052 kS2], .c [.d .bool, .d (.int .u8), .o 1102 kS2]]⟩
abbrev law10RawPred.outl3e2 : Shp := ⟨[.u, .u, .p 1 0, .p 2 0, .u, .u, .u, .u, .u, .u, .u, .u, .u, .u, .u, .u, .u, .u, .u, .u, .u, .u, .u, .u, .u, .u, .u, .u, .u, .u, .u, .u, .u, .u, .u, .u], [.c [.u, .u, .u], .c [.d .bool, .d (.int .u8), .o 1052 kS2], .c [.d .bool, .d (.int .u8), .o 1102 kS2]]⟩
noncomputable def law10RawPred.nml3 : Norm := ⟨{ keep := [2, 3, 12, 13, 14], shut := [(12, (.slice kS4)), (13, (.int .i64)), (14, (.int .i64))], retag := [], heap := 3, dead := [0], cshut := [(1, 0, .bool), (1, 1, (.int .u8)), (2, 0, .bool), (2, 1, (.int .u8))], cretag := [(1, 2, 1052, kS2), (2, 2, 1102, kS2)] }, [(2, { keep := [2, 3], shut := [], retag := [], heap := 3, dead := [0], cshut := [(1, 0, .bool), (1, 1, (.int .u8)), (2, 0, .bool), (2, 1, (.int .u8))], cretag := [(1, 2, 1052, kS2), (2, 2, 1102, kS2)] })]⟩
noncomputable def law10RawPred.con : Con := { ps := [kS5], rs := [kS3], f := fun n x => law10RawPred n x.1 }
noncomputable def law10RawPred.env : Env := { tys := [(24, ⟨kS5, 32⟩), (30, ⟨kS3, 32⟩), (4, ⟨.bool, 1⟩), (5, ⟨(.int .u8), 1⟩), (22, ⟨(.slice kS4), 24⟩), (66, ⟨kS4, 48⟩), (3, ⟨(.int .i64), 8⟩), (28, ⟨(.slice kS2), 24⟩), (43, ⟨kS0, 40⟩), (50, ⟨kS2, 48⟩)], elems := [(22, 66), (28, 50)], ptrs := [], cons := [(16, law04RawValue.con)], objs := [], loops := [(3, law10RawPred.nml3)], cuts := [], globs := globs, base := 0 }
noncomputable def law10RawPred.lp (n : Nat) : LP (Kd.struct law10RawPred.con.rs).T := fun lo κ body nm K s =>
  cond (lo && Nat.beq κ 3)
    (match law10RawPred.shl3.dec s with
    | some v => law10RawPred.l3 n (fun w0 w1 w2 w3 w4 w5 => K (.exit 0) (law10RawPred.outl3e2.enc (w0, w1, w2, w3, w4, w5, ()))) n v.1 v.2.1 v.2.2.1 v.2.2.2.1 v.2.2.2.2.1 v.2.2.2.2.2.1 v.2.2.2.2.2.2.1 v.2.2.2.2.2.2.2.1 v.2.2.2.2.2.2.2.2.1
    | none => loops n (Kd.struct law10RawPred.con.rs).T lo κ body nm K s)
    (loops n (Kd.struct law10RawPred.con.rs).T lo κ body nm K s)
theorem law10RawPred.atl3 (n : Nat) (s : St) (K : Ex → St → Option (Kd.struct law10RawPred.con.rs).T) : (law10RawPred.lp n) true 3 (evK law10RawPred.env (law10RawPred.lp n) n (sub [1, 1, 0, 1, 0, 0] law10RawPred.body)) law10RawPred.nml3 K s = loops n (Kd.struct law10RawPred.con.rs).T true 3 (evK law10RawPred.env (law10RawPred.lp n) n (sub [1, 1, 0, 1, 0, 0] law10RawPred.body)) law10RawPred.nml3 K s := by
  show (match law10RawPred.shl3.dec s with | some v => law10RawPred.l3 n (fun w0 w1 w2 w3 w4 w5 => K (.exit 0) (law10RawPred.outl3e2.enc (w0, w1, w2, w3, w4, w5, ()))) n v.1 v.2.1 v.2.2.1 v.2.2.2.1 v.2.2.2.2.1 v.2.2.2.2.2.1 v.2.2.2.2.2.2.1 v.2.2.2.2.2.2.2.1 v.2.2.2.2.2.2.2.2.1 | none => loops n (Kd.struct law10RawPred.con.rs).T true 3 (evK law10RawPred.env (law10RawPred.lp n) n (sub [1, 1, 0, 1, 0, 0] law10RawPred.body)) law10RawPred.nml3 K s) = _
  cases h : law10RawPred.shl3.dec s with
  | none => rfl
  | some v =>
    rw [Shp.dec_enc h]
    exact (evLoop_eq (sh := law10RawPred.shl3) (body := evK law10RawPred.env (law10RawPred.lp n) n (sub [1, 1, 0, 1, 0, 0] law10RawPred.body)) (nm := law10RawPred.nml3) (K := K) (b := fun nx v => law10RawPred.b3 n (fun x0 x1 x2 x3 x4 x5 x6 x7 x8 => nx (x0, x1, x2, x3, x4, x5, x6, x7, x8, ())) (fun w0 w1 w2 w3 w4 w5 => K (.exit 0) (law10RawPred.outl3e2.enc (w0, w1, w2, w3, w4, w5, ()))) v.1 v.2.1 v.2.2.1 v.2.2.2.1 v.2.2.2.2.1 v.2.2.2.2.2.1 v.2.2.2.2.2.2.1 v.2.2.2.2.2.2.2.1 v.2.2.2.2.2.2.2.2.1) (l := fun m v => law10RawPred.l3 n (fun w0 w1 w2 w3 w4 w5 => K (.exit 0) (law10RawPred.outl3e2.enc (w0, w1, w2, w3, w4, w5, ()))) m v.1 v.2.1 v.2.2.1 v.2.2.2.1 v.2.2.2.2.1 v.2.2.2.2.2.1 v.2.2.2.2.2.2.1 v.2.2.2.2.2.2.2.1 v.2.2.2.2.2.2.2.2.1) (fun _ => rfl) (fun _ _ => rfl) (fun m v => by kernel_rfl) n v).symm
theorem law10RawPred.eq (n : Nat) (x : (Kd.struct law10RawPred.con.ps).T) : evFunc law10RawPred.env Tryd.f7 law10RawPred.body law10RawPred.con.ps law10RawPred.con.rs (law10RawPred.lp n) n x = law10RawPred.con.f n x := by kernel_rfl
theorem law10RawPred.sound : Sound Tryd.prog globs 7 law10RawPred.con :=
  sound_by (E := law10RawPred.env) (c := law10RawPred.body) (envOk (G := globs) (lc := [(16, law04RawValue.con)]) (lo := []) (envB_spec (by kernel_rfl)) rfl rfl ⟨.inl ⟨law04RawValue.sound, by kernel_rfl⟩, trivial⟩ rfl trivial (by kernel_rfl) (by kernel_rfl)) Tryd.func7 (by kernel_rfl) law10RawPred.lp (l := [(true, sub [1, 1, 0, 1, 0, 0] law10RawPred.body, law10RawPred.nml3)]) (by kernel_rfl) (fun n => ⟨law10RawPred.atl3 n, trivial⟩) law10RawPred.eq
noncomputable def ref10Great.b5 (fu : Nat) (next : Int → Int → Int → S3 → Option (Bool × Unit)) (k2 : Int → Option (Bool × Unit)) (n : Int) (v : Int) (vx2 : Int) (b0 : S3) : Option (Bool × Unit) :=
  cond (decide (vx2 < v)) (
    chk (ixOk b0.2.2.1 vx2) <|
    let e1 := ixL ((0 : Int), (0 : Int), ((0 : Int), (0 : Int), (0 : Nat), [], ()), ()) b0.2.2.1 vx2
    let t2 := (e1.2.2.1.2.2.2.1.length : Int)
    let t3 := IntKind.i64.wrap (n + min2 t2 (3000 : Int))
    let t4 := IntKind.i64.wrap (vx2 + (1 : Int))
    next t3 v t4 b0) (
    k2 n)
noncomputable def ref10Great.l5 (fu : Nat) (k2 : Int → Option (Bool × Unit)) : Nat → Int → Int → Int → S3 → Option (Bool × Unit)
  | 0, _, _, _, _ => none
  | m + 1, n, v, vx2, b0 => ref10Great.b5 fu (ref10Great.l5 fu k2 m) k2 n v vx2 b0
noncomputable def ref10Great (fu : Nat) (p : S3) : Option (Bool × Unit) :=
  let t1 := decide ((p.2.2.1.length : Int) > (20 : Int))
  cond t1 (
    some (true, ())) (
    ref10Great.l5 fu (fun nq2 => 
        let t2 := decide (nq2 > (3000 : Int))
        some (t2, ())) fu (p.2.2.1.length : Int) (p.2.2.1.length : Int) (0 : Int) p)

noncomputable def ref10Great.body : Code := Tryd.f9.body.getD .skip
abbrev ref10Great.shl5 : Shp := ⟨[.u, .p 0 0, .u, .d (.int .i64), .u, .u, .u, .u, .u, .u, .u, .u, .d (.int .i64), .d (.int .i64), .u, .u, .u, .u, .u, .u, .u, .u, .u, .u, .u, .u, .u, .u, .u, .u], [.c [.g kS3]]⟩
abbrev ref10Great.outl5e2 : Shp := ⟨[.u, .u, .u, .d (.int .i64), .u, .u, .u, .u, .u, .u, .u, .u, .u, .u, .u, .u, .u, .u, .u, .u, .u, .u, .u, .u, .u, .u, .u, .u, .u, .u], []⟩
noncomputable def ref10Great.nml5 : Norm := ⟨{ keep := [1, 3, 12, 13], shut := [(3, (.int .i64)), (12, (.int .i64)), (13, (.int .i64))], retag := [], heap := 1, dead := [], cshut := [(0, 0, .bool), (0, 1, (.int .u8)), (0, 2, (.slice kS2))], cretag := [] }, [(2, { keep := [3], shut := [(3, (.int .i64))], retag := [], heap := 0, dead := [], cshut := [], cretag := [] })]⟩
noncomputable def ref10Great.con : Con := { ps := [kS3], rs := [.bool], f := fun n x => ref10Great n x.1 }
noncomputable def ref10Great.env : Env := { tys := [(30, ⟨kS3, 32⟩), (4, ⟨.bool, 1⟩), (28, ⟨(.slice kS2), 24⟩), (50, ⟨kS2, 48⟩), (3, ⟨(.int .i64), 8⟩), (46, ⟨kS1, 40⟩), (9, ⟨.str, 16⟩)], elems := [(28, 50)], ptrs := [], cons := [], objs := [], loops := [(5, ref10Great.nml5)], cuts := [], globs := globs, base := 0 }
noncomputable def ref10Great.lp (n : Nat) : LP (Kd.struct ref10Great.con.rs).T := fun lo κ body nm K s =>
  cond (lo && Nat.beq κ 5)
    (match ref10Great.shl5.dec s with
    | some v => ref10Great.l5 n (fun w0 => K (.exit 0) (ref10Great.outl5e2.enc (w0, ()))) n v.1 v.2.1 v.2.2.1 v.2.2.2.1
    | none => loops n (Kd.struct ref10Great.con.rs).T lo κ body nm K s)
    (loops n (Kd.struct ref10Great.con.rs).T lo κ body nm K s)
theorem ref10Great.atl5 (n : Nat) (s : St) (K : Ex → St → Option (Kd.struct ref10Great.con.rs).T) : (ref10Great.lp n) true 5 (evK ref10Great.env (ref10Great.lp n) n (sub [1, 1, 1, 0, 1, 0, 0] ref10Great.body)) ref10Great.nml5 K s = loops n (Kd.struct ref10Great.con.rs).T true 5 (evK ref10Great.env (ref10Great.lp n) n (sub [1, 1, 1, 0, 1, 0, 0] ref10Great.body)) ref10Great.nml5 K s := by
  show (match ref10Great.shl5.dec s with | some v => ref10Great.l5 n (fun w0 => K (.exit 0) (ref10Great.outl5e2.enc (w0, ()))) n v.1 v.2.1 v.2.2.1 v.2.2.2.1 | none => loops n (Kd.struct ref10Great.con.rs).T true 5 (evK ref10Great.env (ref10Great.lp n) n (sub [1, 1, 1, 0, 1, 0, 0] ref10Great.body)) ref10Great.nml5 K s) = _
  cases h : ref10Great.shl5.dec s with
  | none => rfl
  | some v =>
    rw [Shp.dec_enc h]
    exact (evLoop_eq (sh := ref10Great.shl5) (body := evK ref10Great.env (ref10Great.lp n) n (sub [1, 1, 1, 0, 1, 0, 0] ref10Great.body)) (nm := ref10Great.nml5) (K := K) (b := fun nx v => ref10Great.b5 n (fun x0 x1 x2 x3 => nx (x0, x1, x2, x3, ())) (fun w0 => K (.exit 0) (ref10Great.outl5e2.enc (w0, ()))) v.1 v.2.1 v.2.2.1 v.2.2.2.1) (l := fun m v => ref10Great.l5 n (fun w0 => K (.exit 0) (ref10Great.outl5e2.enc (w0, ()))) m v.1 v.2.1 v.2.2.1 v.2.2.2.1) (fun _ => rfl) (fun _ _ => rfl) (fun m v => by kernel_rfl) n v).symm
theorem ref10Great.eq (n : Nat) (x : (Kd.struct ref10Great.con.ps).T) : evFunc ref10Great.env Tryd.f9 ref10Great.body ref10Great.con.ps ref10Great.con.rs (ref10Great.lp n) n x = ref10Great.con.f n x := by kernel_rfl
theorem ref10Great.sound : Sound Tryd.prog globs 9 ref10Great.con :=
  sound_by (E := ref10Great.env) (c := ref10Great.body) (envOk (G := globs) (lc := []) (lo := []) (envB_spec (by kernel_rfl)) rfl rfl trivial rfl trivial (by kernel_rfl) (by kernel_rfl)) Tryd.func9 (by kernel_rfl) ref10Great.lp (l := [(true, sub [1, 1, 1, 0, 1, 0, 0] ref10Great.body, ref10Great.nml5)]) (by kernel_rfl) (fun n => ⟨ref10Great.atl5 n, trivial⟩) ref10Great.eq
noncomputable def valueHeld (fu : Nat) (v : S1) : Option (S1 × Unit) :=
  cond (v.1 == (1 : Int)) (
    some ((v.1, v.2.1, (0 : Nat), [], ()), ())) (
    cond (v.1 == (2 : Int)) (
      some ((v.1, (0 : Int), v.2.2.1, [], ()), ())) (
      cond (v.1 == (3 : Int)) (
        some ((v.1, (0 : Int), (0 : Nat), v.2.2.2.1, ()), ())) (
        some ((v.1, (0 : Int), (0 : Nat), [], ()), ()))))

noncomputable def valueHeld.body : Code := Tryd.f58.body.getD .skip
noncomputable def valueHeld.con : Con := { ps := [kS1], rs := [kS1], f := fun n x => valueHeld n x.1 }
noncomputable def valueHeld.env : Env := { tys := [(46, ⟨kS1, 40⟩), (5, ⟨(.int .u8), 1⟩), (2, ⟨(.int .i64), 8⟩), (44, ⟨.flt, 8⟩), (9, ⟨.str, 16⟩)], elems := [], ptrs := [], cons := [], objs := [], loops := [], cuts := [], globs := globs, base := 0 }
noncomputable def valueHeld.lp (n : Nat) : LP (Kd.struct valueHeld.con.rs).T := fun lo κ body nm K s =>
  loops n (Kd.struct valueHeld.con.rs).T lo κ body nm K s
theorem valueHeld.eq (n : Nat) (x : (Kd.struct valueHeld.con.ps).T) : evFunc valueHeld.env Tryd.f58 valueHeld.body valueHeld.con.ps valueHeld.con.rs (valueHeld.lp n) n x = valueHeld.con.f n x := by kernel_rfl
theorem valueHeld.sound : Sound Tryd.prog globs 58 valueHeld.con :=
  sound_by (E := valueHeld.env) (c := valueHeld.body) (envOk (G := globs) (lc := []) (lo := []) (envB_spec (by kernel_rfl)) rfl rfl trivial rfl trivial (by kernel_rfl) (by kernel_rfl)) Tryd.func58 (by kernel_rfl) valueHeld.lp (l := []) (by kernel_rfl) (fun n => trivial) valueHeld.eq
noncomputable def valueMay (fu : Nat) (v : S1) : Option (Bool × Unit) :=
  (valueHeld fu v).bind fun r1 =>
  cond (decide (v.1 ≤ (3 : Int))) (
    let t2 := decide ((v.2.2.2.1.length : Int) ≤ (255 : Int))
    cond t2 (
      cond (r1.1.2.1 == v.2.1) (
        let t3 := r1.1.2.2.2.1 == v.2.2.2.1
        cond t3 (
          (extBits.f fu (r1.1.2.2.1, ())).bind fun r4 =>
          (extBits.f fu (v.2.2.1, ())).bind fun r5 =>
          some (r4.1 == r5.1, ())) (
          some (false, ()))) (
        some (false, ()))) (
      some (false, ()))) (
    some (false, ()))

noncomputable def valueMay.body : Code := Tryd.f47.body.getD .skip
noncomputable def valueMay.con : Con := { ps := [kS1], rs := [.bool], f := fun n x => valueMay n x.1 }
noncomputable def valueMay.env : Env := { tys := [(46, ⟨kS1, 40⟩), (4, ⟨.bool, 1⟩), (5, ⟨(.int .u8), 1⟩), (9, ⟨.str, 16⟩), (2, ⟨(.int .i64), 8⟩), (44, ⟨.flt, 8⟩)], elems := [], ptrs := [], cons := [(58, valueHeld.con), (52, extBits)], objs := [], loops := [], cuts := [], globs := globs, base := 0 }
noncomputable def valueMay.lp (n : Nat) : LP (Kd.struct valueMay.con.rs).T := fun lo κ body nm K s =>
  loops n (Kd.struct valueMay.con.rs).T lo κ body nm K s
theorem valueMay.eq (n : Nat) (x : (Kd.struct valueMay.con.ps).T) : evFunc valueMay.env Tryd.f47 valueMay.body valueMay.con.ps valueMay.con.rs (valueMay.lp n) n x = valueMay.con.f n x := by kernel_rfl
theorem valueMay.sound : Sound Tryd.prog globs 47 valueMay.con :=
  sound_by (E := valueMay.env) (c := valueMay.body) (envOk (G := globs) (lc := [(58, valueHeld.con), (52, extBits)]) (lo := []) (envB_spec (by kernel_rfl)) rfl rfl ⟨.inl ⟨valueHeld.sound, by kernel_rfl⟩, ⟨.inr (extBits_ok Tryd.func52 (by kernel_rfl) (by kernel_rfl) (by kernel_rfl) (by kernel_rfl)), trivial⟩⟩ rfl trivial (by kernel_rfl) (by kernel_rfl)) Tryd.func47 (by kernel_rfl) valueMay.lp (l := []) (by kernel_rfl) (fun n => trivial) valueMay.eq
noncomputable def predRight (fu : Nat) (tv : S2) : Option (Bool × Unit) :=
  (valueMay fu tv.2.2.1).bind fun r1 =>
  cond (!r1.1) (
    some (false, ())) (
    cond (tv.2.1 == (7 : Int)) (
      some (tv.2.2.1.1 == (0 : Int), ())) (
      cond (tv.2.1 == (8 : Int)) (
        some (tv.2.2.1.1 == (3 : Int), ())) (
        let t2 := decide (tv.2.1 ≥ (1 : Int))
        cond t2 (
          let t3 := decide (tv.2.1 ≤ (6 : Int))
          cond t3 (
            some (tv.2.2.1.1 != (0 : Int), ())) (
            some (false, ()))) (
          some (false, ())))))

noncomputable def predRight.body : Code := Tryd.f25.body.getD .skip
noncomputable def predRight.con : Con := { ps := [kS2], rs := [.bool], f := fun n x => predRight n x.1 }
noncomputable def predRight.env : Env := { tys := [(50, ⟨kS2, 48⟩), (4, ⟨.bool, 1⟩), (46, ⟨kS1, 40⟩), (5, ⟨(.int .u8), 1⟩)], elems := [], ptrs := [], cons := [(47, valueMay.con)], objs := [], loops := [], cuts := [], globs := globs, base := 0 }
noncomputable def predRight.lp (n : Nat) : LP (Kd.struct predRight.con.rs).T := fun lo κ body nm K s =>
  loops n (Kd.struct predRight.con.rs).T lo κ body nm K s
theorem predRight.eq (n : Nat) (x : (Kd.struct predRight.con.ps).T) : evFunc predRight.env Tryd.f25 predRight.body predRight.con.ps predRight.con.rs (predRight.lp n) n x = predRight.con.f n x := by kernel_rfl
theorem predRight.sound : Sound Tryd.prog globs 25 predRight.con :=
  sound_by (E := predRight.env) (c := predRight.body) (envOk (G := globs) (lc := [(47, valueMay.con)]) (lo := []) (envB_spec (by kernel_rfl)) rfl rfl ⟨.inl ⟨valueMay.sound, by kernel_rfl⟩, trivial⟩ rfl trivial (by kernel_rfl) (by kernel_rfl)) Tryd.func25 (by kernel_rfl) predRight.lp (l := []) (by kernel_rfl) (fun n => trivial) predRight.eq
noncomputable def predMay1 (fu : Nat) (tv : S2) : Option (Bool × Unit) :=
  (predRight fu tv).bind fun r1 =>
  some (!r1.1, ())

noncomputable def predMay1.body : Code := Tryd.f24.body.getD .skip
noncomputable def predMay1.con : Con := { ps := [kS2], rs := [.bool], f := fun n x => predMay1 n x.1 }
noncomputable def predMay1.env : Env := { tys := [(50, ⟨kS2, 48⟩), (4, ⟨.bool, 1⟩)], elems := [], ptrs := [], cons := [(25, predRight.con)], objs := [], loops := [], cuts := [], globs := globs, base := 0 }
noncomputable def predMay1.lp (n : Nat) : LP (Kd.struct predMay1.con.rs).T := fun lo κ body nm K s =>
  loops n (Kd.struct predMay1.con.rs).T lo κ body nm K s
theorem predMay1.eq (n : Nat) (x : (Kd.struct predMay1.con.ps).T) : evFunc predMay1.env Tryd.f24 predMay1.body predMay1.con.ps predMay1.con.rs (predMay1.lp n) n x = predMay1.con.f n x := by kernel_rfl
theorem predMay1.sound : Sound Tryd.prog globs 24 predMay1.con :=
  sound_by (E := predMay1.env) (c := predMay1.body) (envOk (G := globs) (lc := [(25, predRight.con)]) (lo := []) (envB_spec (by kernel_rfl)) rfl rfl ⟨.inl ⟨predRight.sound, by kernel_rfl⟩, trivial⟩ rfl trivial (by kernel_rfl) (by kernel_rfl)) Tryd.func24 (by kernel_rfl) predMay1.lp (l := []) (by kernel_rfl) (fun n => trivial) predMay1.eq
noncomputable def slicesIndexFunc.b2 (fu : Nat) (next : (List S2) → Int → Int → Option ((Int × Unit) × (Unit))) (k1 : Int → Option ((Int × Unit) × (Unit))) (k2 : Unit → Option ((Int × Unit) × (Unit))) (sv : List S2) (v : Int) (vx2 : Int) : Option ((Int × Unit) × (Unit)) :=
  cond (decide (vx2 < v)) (
    chk (ixOk sv vx2) <|
    let e1 := ixL ((0 : Int), (0 : Int), ((0 : Int), (0 : Int), (0 : Nat), [], ()), ()) sv vx2
    (predMay1 fu e1).bind fun r2 =>
    cond r2.1 (
      k1 vx2) (
      let t3 := IntKind.i64.wrap (vx2 + (1 : Int))
      next sv v t3)) (
    k2 ())
noncomputable def slicesIndexFunc.l2 (fu : Nat) (k1 : Int → Option ((Int × Unit) × (Unit))) (k2 : Unit → Option ((Int × Unit) × (Unit))) : Nat → (List S2) → Int → Int → Option ((Int × Unit) × (Unit))
  | 0, _, _, _ => none
  | m + 1, sv, v, vx2 => slicesIndexFunc.b2 fu (slicesIndexFunc.l2 fu k1 k2 m) k1 k2 sv v vx2
noncomputable def slicesIndexFunc (fu : Nat) (sv : List S2) : Option ((Int × Unit) × (Unit)) :=
  slicesIndexFunc.l2 fu (fun vq3 => 
      some ((vq3, ()), (()))) (fun (_ : Unit) => 
      some (((-1 : Int), ()), (()))) fu sv (sv.length : Int) (0 : Int)

noncomputable def slicesIndexFunc.body : Code := Tryd.f46.body.getD .skip
abbrev slicesIndexFunc.shl2 : Shp := ⟨[.d (.slice kS2), .f 24, .u, .u, .u, .u, .u, .d (.int .i64), .d (.int .i64), .u, .u, .u, .u, .u, .u, .u, .u, .u, .u], []⟩
abbrev slicesIndexFunc.outl2e1 : Shp := ⟨[.u, .u, .u, .u, .d (.int .i64), .u, .u, .u, .u, .u, .u, .u, .u, .u, .u, .u, .u, .u, .u], []⟩
abbrev slicesIndexFunc.outl2e2 : Shp := ⟨[.u, .u, .u, .u, .u, .u, .u, .u, .u, .u, .u, .u, .u, .u, .u, .u, .u, .u, .u], []⟩
noncomputable def slicesIndexFunc.nml2 : Norm := ⟨{ keep := [0, 1, 7, 8], shut := [(0, (.slice kS2)), (7, (.int .i64)), (8, (.int .i64))], retag := [], heap := 0, dead := [], cshut := [], cretag := [] }, [(1, { keep := [4], shut := [(4, (.int .i64))], retag := [], heap := 0, dead := [], cshut := [], cretag := [] }), (2, { keep := [], shut := [], retag := [], heap := 0, dead := [], cshut := [], cretag := [] })]⟩
noncomputable def slicesIndexFunc.con : OCon := { ps := [.dat (.slice kS2), .fn 24], rs := [.dat (.int .i64)], f := fun n x => slicesIndexFunc n x.1 }
noncomputable def slicesIndexFunc.env : Env := { tys := [(3, ⟨(.int .i64), 8⟩), (50, ⟨kS2, 48⟩)], elems := [(28, 50)], ptrs := [], cons := [(24, predMay1.con)], objs := [], loops := [(2, slicesIndexFunc.nml2)], cuts := [], globs := globs, base := 0 }
noncomputable def slicesIndexFunc.lp (n : Nat) : LP (RT slicesIndexFunc.con.rs × BT slicesIndexFunc.con.ps) := fun lo κ body nm K s =>
  cond (lo && Nat.beq κ 2)
    (match slicesIndexFunc.shl2.dec s with
    | some v => slicesIndexFunc.l2 n (fun w0 => K .ret (slicesIndexFunc.outl2e1.enc (w0, ()))) (fun _ => K (.exit 0) (slicesIndexFunc.outl2e2.enc (()))) n v.1 v.2.1 v.2.2.1
    | none => loops n (RT slicesIndexFunc.con.rs × BT slicesIndexFunc.con.ps) lo κ body nm K s)
    (loops n (RT slicesIndexFunc.con.rs × BT slicesIndexFunc.con.ps) lo κ body nm K s)
theorem slicesIndexFunc.atl2 (n : Nat) (s : St) (K : Ex → St → Option (RT slicesIndexFunc.con.rs × BT slicesIndexFunc.con.ps)) : (slicesIndexFunc.lp n) true 2 (evK slicesIndexFunc.env (slicesIndexFunc.lp n) n (sub [1, 0, 1, 0, 0] slicesIndexFunc.body)) slicesIndexFunc.nml2 K s = loops n (RT slicesIndexFunc.con.rs × BT slicesIndexFunc.con.ps) true 2 (evK slicesIndexFunc.env (slicesIndexFunc.lp n) n (sub [1, 0, 1, 0, 0] slicesIndexFunc.body)) slicesIndexFunc.nml2 K s := by
  show (match slicesIndexFunc.shl2.dec s with | some v => slicesIndexFunc.l2 n (fun w0 => K .ret (slicesIndexFunc.outl2e1.enc (w0, ()))) (fun _ => K (.exit 0) (slicesIndexFunc.outl2e2.enc (()))) n v.1 v.2.1 v.2.2.1 | none => loops n (RT slicesIndexFunc.con.rs × BT slicesIndexFunc.con.ps) true 2 (evK slicesIndexFunc.env (slicesIndexFunc.lp n) n (sub [1, 0, 1, 0, 0] slicesIndexFunc.body)) slicesIndexFunc.nml2 K s) = _
  cases h : slicesIndexFunc.shl2.dec s with
  | none => rfl
  | some v =>
    rw [Shp.dec_enc h]
    exact (evLoop_eq (sh := slicesIndexFunc.shl2) (body := evK slicesIndexFunc.env (slicesIndexFunc.lp n) n (sub [1, 0, 1, 0, 0] slicesIndexFunc.body)) (nm := slicesIndexFunc.nml2) (K := K) (b := fun nx v => slicesIndexFunc.b2 n (fun x0 x1 x2 => nx (x0, x1, x2, ())) (fun w0 => K .ret (slicesIndexFunc.outl2e1.enc (w0, ()))) (fun _ => K (.exit 0) (slicesIndexFunc.outl2e2.enc (()))) v.1 v.2.1 v.2.2.1) (l := fun m v => slicesIndexFunc.l2 n (fun w0 => K .ret (slicesIndexFunc.outl2e1.enc (w0, ()))) (fun _ => K (.exit 0) (slicesIndexFunc.outl2e2.enc (()))) m v.1 v.2.1 v.2.2.1) (fun _ => rfl) (fun _ _ => rfl) (fun m v => by kernel_rfl) n v).symm
theorem slicesIndexFunc.eq (n : Nat) (x : PT slicesIndexFunc.con.ps) : evFuncO slicesIndexFunc.env Tryd.f46 slicesIndexFunc.body slicesIndexFunc.con.ps slicesIndexFunc.con.rs (slicesIndexFunc.lp n) n x = slicesIndexFunc.con.f n x := by kernel_rfl
theorem slicesIndexFunc.sound : SoundO Tryd.prog globs 46 slicesIndexFunc.con :=
  sound_byO (E := slicesIndexFunc.env) (c := slicesIndexFunc.body) (envOk (G := globs) (lc := [(24, predMay1.con)]) (lo := []) (envB_spec (by kernel_rfl)) rfl rfl ⟨.inl ⟨predMay1.sound, by kernel_rfl⟩, trivial⟩ rfl trivial (by kernel_rfl) (by kernel_rfl)) Tryd.func46 (by kernel_rfl) (by kernel_rfl) (by kernel_rfl) slicesIndexFunc.lp (l := [(true, sub [1, 0, 1, 0, 0] slicesIndexFunc.body, slicesIndexFunc.nml2)]) (by kernel_rfl) (fun n => ⟨slicesIndexFunc.atl2 n, trivial⟩) slicesIndexFunc.eq
noncomputable def slicesContainsFunc (fu : Nat) (sv : List S2) : Option ((Bool × Unit) × (Unit)) :=
  (slicesIndexFunc fu sv).bind fun r1 =>
  let t2 := decide (r1.1.1 ≥ (0 : Int))
  some ((t2, ()), (()))

noncomputable def slicesContainsFunc.body : Code := Tryd.f23.body.getD .skip
noncomputable def slicesContainsFunc.con : OCon := { ps := [.dat (.slice kS2), .fn 24], rs := [.dat .bool], f := fun n x => slicesContainsFunc n x.1 }
noncomputable def slicesContainsFunc.env : Env := { tys := [(4, ⟨.bool, 1⟩)], elems := [], ptrs := [], cons := [], objs := [(46, [slicesIndexFunc.con])], loops := [], cuts := [], globs := globs, base := 0 }
noncomputable def slicesContainsFunc.lp (n : Nat) : LP (RT slicesContainsFunc.con.rs × BT slicesContainsFunc.con.ps) := fun lo κ body nm K s =>
  loops n (RT slicesContainsFunc.con.rs × BT slicesContainsFunc.con.ps) lo κ body nm K s
theorem slicesContainsFunc.eq (n : Nat) (x : PT slicesContainsFunc.con.ps) : evFuncO slicesContainsFunc.env Tryd.f23 slicesContainsFunc.body slicesContainsFunc.con.ps slicesContainsFunc.con.rs (slicesContainsFunc.lp n) n x = slicesContainsFunc.con.f n x := by kernel_rfl
theorem slicesContainsFunc.sound : SoundO Tryd.prog globs 23 slicesContainsFunc.con :=
  sound_byO (E := slicesContainsFunc.env) (c := slicesContainsFunc.body) (envOk (G := globs) (lc := []) (lo := [(46, [slicesIndexFunc.con])]) (envB_spec (by kernel_rfl)) rfl rfl trivial rfl ⟨⟨⟨slicesIndexFunc.sound, trivial⟩, by kernel_rfl⟩, trivial⟩ (by kernel_rfl) (by kernel_rfl)) Tryd.func23 (by kernel_rfl) (by kernel_rfl) (by kernel_rfl) slicesContainsFunc.lp (l := []) (by kernel_rfl) (fun n => trivial) slicesContainsFunc.eq
noncomputable def predMay (fu : Nat) (p : S3) : Option (Bool × Unit) :=
  cond p.1 (
    cond (p.2.1 != (0 : Int)) (
      some (false, ())) (
      let t1 := decide ((p.2.2.1.length : Int) > (4 : Int))
      cond t1 (
        some (false, ())) (
        (slicesContainsFunc fu p.2.2.1).bind fun r2 =>
        some (!r2.1.1, ())))) (
    let t3 := decide ((p.2.2.1.length : Int) > (4 : Int))
    cond t3 (
      some (false, ())) (
      (slicesContainsFunc fu p.2.2.1).bind fun r4 =>
      some (!r4.1.1, ())))

noncomputable def predMay.body : Code := Tryd.f12.body.getD .skip
noncomputable def predMay.con : Con := { ps := [kS3], rs := [.bool], f := fun n x => predMay n x.1 }
noncomputable def predMay.env : Env := { tys := [(30, ⟨kS3, 32⟩), (4, ⟨.bool, 1⟩), (5, ⟨(.int .u8), 1⟩), (28, ⟨(.slice kS2), 24⟩), (50, ⟨kS2, 48⟩)], elems := [(28, 50)], ptrs := [], cons := [], objs := [(23, [slicesContainsFunc.con])], loops := [], cuts := [], globs := globs, base := 0 }
noncomputable def predMay.lp (n : Nat) : LP (Kd.struct predMay.con.rs).T := fun lo κ body nm K s =>
  loops n (Kd.struct predMay.con.rs).T lo κ body nm K s
theorem predMay.eq (n : Nat) (x : (Kd.struct predMay.con.ps).T) : evFunc predMay.env Tryd.f12 predMay.body predMay.con.ps predMay.con.rs (predMay.lp n) n x = predMay.con.f n x := by kernel_rfl
theorem predMay.sound : Sound Tryd.prog globs 12 predMay.con :=
  sound_by (E := predMay.env) (c := predMay.body) (envOk (G := globs) (lc := []) (lo := [(23, [slicesContainsFunc.con])]) (envB_spec (by kernel_rfl)) rfl rfl trivial rfl ⟨⟨⟨slicesContainsFunc.sound, trivial⟩, by kernel_rfl⟩, trivial⟩ (by kernel_rfl) (by kernel_rfl)) Tryd.func12 (by kernel_rfl) predMay.lp (l := []) (by kernel_rfl) (fun n => trivial) predMay.eq
noncomputable def eventMay1 (fu : Nat) (v : S1) : Option (Bool × Unit) :=
  (valueMay fu v).bind fun r1 =>
  some (!r1.1, ())

noncomputable def eventMay1.body : Code := Tryd.f49.body.getD .skip
noncomputable def eventMay1.con : Con := { ps := [kS1], rs := [.bool], f := fun n x => eventMay1 n x.1 }
noncomputable def eventMay1.env : Env := { tys := [(46, ⟨kS1, 40⟩), (4, ⟨.bool, 1⟩)], elems := [], ptrs := [], cons := [(47, valueMay.con)], objs := [], loops := [], cuts := [], globs := globs, base := 0 }
noncomputable def eventMay1.lp (n : Nat) : LP (Kd.struct eventMay1.con.rs).T := fun lo κ body nm K s =>
  loops n (Kd.struct eventMay1.con.rs).T lo κ body nm K s
theorem eventMay1.eq (n : Nat) (x : (Kd.struct eventMay1.con.ps).T) : evFunc eventMay1.env Tryd.f49 eventMay1.body eventMay1.con.ps eventMay1.con.rs (eventMay1.lp n) n x = eventMay1.con.f n x := by kernel_rfl
theorem eventMay1.sound : Sound Tryd.prog globs 49 eventMay1.con :=
  sound_by (E := eventMay1.env) (c := eventMay1.body) (envOk (G := globs) (lc := [(47, valueMay.con)]) (lo := []) (envB_spec (by kernel_rfl)) rfl rfl ⟨.inl ⟨valueMay.sound, by kernel_rfl⟩, trivial⟩ rfl trivial (by kernel_rfl) (by kernel_rfl)) Tryd.func49 (by kernel_rfl) eventMay1.lp (l := []) (by kernel_rfl) (fun n => trivial) eventMay1.eq
noncomputable def slicesIndexFuncF70.b2 (fu : Nat) (next : (List S1) → Int → Int → Option ((Int × Unit) × (Unit))) (k1 : Int → Option ((Int × Unit) × (Unit))) (k2 : Unit → Option ((Int × Unit) × (Unit))) (sv : List S1) (v : Int) (vx2 : Int) : Option ((Int × Unit) × (Unit)) :=
  cond (decide (vx2 < v)) (
    chk (ixOk sv vx2) <|
    let e1 := ixL ((0 : Int), (0 : Int), (0 : Nat), [], ()) sv vx2
    (eventMay1 fu e1).bind fun r2 =>
    cond r2.1 (
      k1 vx2) (
      let t3 := IntKind.i64.wrap (vx2 + (1 : Int))
      next sv v t3)) (
    k2 ())
noncomputable def slicesIndexFuncF70.l2 (fu : Nat) (k1 : Int → Option ((Int × Unit) × (Unit))) (k2 : Unit → Option ((Int × Unit) × (Unit))) : Nat → (List S1) → Int → Int → Option ((Int × Unit) × (Unit))
  | 0, _, _, _ => none
  | m + 1, sv, v, vx2 => slicesIndexFuncF70.b2 fu (slicesIndexFuncF70.l2 fu k1 k2 m) k1 k2 sv v vx2
noncomputable def slicesIndexFuncF70 (fu : Nat) (sv : List S1) : Option ((Int × Unit) × (Unit)) :=
  slicesIndexFuncF70.l2 fu (fun vq3 => 
      some ((vq3, ()), (()))) (fun (_ : Unit) => 
      some (((-1 : Int), ()), (()))) fu sv (sv.length : Int) (0 : Int)

noncomputable def slicesIndexFuncF70.body : Code := Tryd.f70.body.getD .skip
abbrev slicesIndexFuncF70.shl2 : Shp := ⟨[.d (.slice kS1), .f 49, .u, .u, .u, .u, .u, .d (.int .i64), .d (.int .i64), .u, .u, .u, .u, .u, .u, .u, .u, .u, .u], []⟩
abbrev slicesIndexFuncF70.outl2e1 : Shp := ⟨[.u, .u, .u, .u, .d (.int .i64), .u, .u, .u, .u, .u, .u, .u, .u, .u, .u, .u, .u, .u, .u], []⟩
abbrev slicesIndexFuncF70.outl2e2 : Shp := ⟨[.u, .u, .u, .u, .u, .u, .u, .u, .u, .u, .u, .u, .u, .u, .u, .u, .u, .u, .u], []⟩
noncomputable def slicesIndexFuncF70.nml2 : Norm := ⟨{ keep := [0, 1, 7, 8], shut := [(0, (.slice kS1)), (7, (.int .i64)), (8, (.int .i64))], retag := [], heap := 0, dead := [], cshut := [], cretag := [] }, [(1, { keep := [4], shut := [(4, (.int .i64))], retag := [], heap := 0, dead := [], cshut := [], cretag := [] }), (2, { keep := [], shut := [], retag := [], heap := 0, dead := [], cshut := [], cretag := [] })]⟩
noncomputable def slicesIndexFuncF70.con : OCon := { ps := [.dat (.slice kS1), .fn 49], rs := [.dat (.int .i64)], f := fun n x => slicesIndexFuncF70 n x.1 }
noncomputable def slicesIndexFuncF70.env : Env := { tys := [(3, ⟨(.int .i64), 8⟩), (46, ⟨kS1, 40⟩)], elems := [(32, 46)], ptrs := [], cons := [(49, eventMay1.con)], objs := [], loops := [(2, slicesIndexFuncF70.nml2)], cuts := [], globs := globs, base := 0 }
noncomputable def slicesIndexFuncF70.lp (n : Nat) : LP (RT slicesIndexFuncF70.con.rs × BT slicesIndexFuncF70.con.ps) := fun lo κ body nm K s =>
  cond (lo && Nat.beq κ 2)
    (match slicesIndexFuncF70.shl2.dec s with
    | some v => slicesIndexFuncF70.l2 n (fun w0 => K .ret (slicesIndexFuncF70.outl2e1.enc (w0, ()))) (fun _ => K (.exit 0) (slicesIndexFuncF70.outl2e2.enc (()))) n v.1 v.2.1 v.2.2.1
    | none => loops n (RT slicesIndexFuncF70.con.rs × BT slicesIndexFuncF70.con.ps) lo κ body nm K s)
    (loops n (RT slicesIndexFuncF70.con.rs × BT slicesIndexFuncF70.con.ps) lo κ body nm K s)
theorem slicesIndexFuncF70.atl2 (n : Nat) (s : St) (K : Ex → St → Option (RT slicesIndexFuncF70.con.rs × BT slicesIndexFuncF70.con.ps)) : (slicesIndexFuncF70.lp n) true 2 (evK slicesIndexFuncF70.env (slicesIndexFuncF70.lp n) n (sub [1, 0, 1, 0, 0] slicesIndexFuncF70.body)) slicesIndexFuncF70.nml2 K s = loops n (RT slicesIndexFuncF70.con.rs × BT slicesIndexFuncF70.con.ps) true 2 (evK slicesIndexFuncF70.env (slicesIndexFuncF70.lp n) n (sub [1, 0, 1, 0, 0] slicesIndexFuncF70.body)) slicesIndexFuncF70.nml2 K s := by
  show (match slicesIndexFuncF70.shl2.dec s with | some v => slicesIndexFuncF70.l2 n (fun w0 => K .ret (slicesIndexFuncF70.outl2e1.enc (w0, ()))) (fun _ => K (.exit 0) (slicesIndexFuncF70.outl2e2.enc (()))) n v.1 v.2.1 v.2.2.1 | none => loops n (RT slicesIndexFuncF70.con.rs × BT slicesIndexFuncF70.con.ps) true 2 (evK slicesIndexFuncF70.env (slicesIndexFuncF70.lp n) n (sub [1, 0, 1, 0, 0] slicesIndexFuncF70.body)) slicesIndexFuncF70.nml2 K s) = _
  cases h : slicesIndexFuncF70.shl2.dec s with
  | none => rfl
  | some v =>
    rw [Shp.dec_enc h]
    exact (evLoop_eq (sh := slicesIndexFuncF70.shl2) (body := evK slicesIndexFuncF70.env (slicesIndexFuncF70.lp n) n (sub [1, 0, 1, 0, 0] slicesIndexFuncF70.body)) (nm := slicesIndexFuncF70.nml2) (K := K) (b := fun nx v => slicesIndexFuncF70.b2 n (fun x0 x1 x2 => nx (x0, x1, x2, ())) (fun w0 => K .ret (slicesIndexFuncF70.outl2e1.enc (w0, ()))) (fun _ => K (.exit 0) (slicesIndexFuncF70.outl2e2.enc (()))) v.1 v.2.1 v.2.2.1) (l := fun m v => slicesIndexFuncF70.l2 n (fun w0 => K .ret (slicesIndexFuncF70.outl2e1.enc (w0, ()))) (fun _ => K (.exit 0) (slicesIndexFuncF70.outl2e2.enc (()))) m v.1 v.2.1 v.2.2.1) (fun _ => rfl) (fun _ _ => rfl) (fun m v => by kernel_rfl) n v).symm
theorem slicesIndexFuncF70.eq (n : Nat) (x : PT slicesIndexFuncF70.con.ps) : evFuncO slicesIndexFuncF70.env Tryd.f70 slicesIndexFuncF70.body slicesIndexFuncF70.con.ps slicesIndexFuncF70.con.rs (slicesIndexFuncF70.lp n) n x = slicesIndexFuncF70.con.f n x := by kernel_rfl
theorem slicesIndexFuncF70.sound : SoundO Tryd.prog globs 70 slicesIndexFuncF70.con :=
  sound_byO (E := slicesIndexFuncF70.env) (c := slicesIndexFuncF70.body) (envOk (G := globs) (lc := [(49, eventMay1.con)]) (lo := []) (envB_spec (by kernel_rfl)) rfl rfl ⟨.inl ⟨eventMay1.sound, by kernel_rfl⟩, trivial⟩ rfl trivial (by kernel_rfl) (by kernel_rfl)) Tryd.func70 (by kernel_rfl) (by kernel_rfl) (by kernel_rfl) slicesIndexFuncF70.lp (l := [(true, sub [1, 0, 1, 0, 0] slicesIndexFuncF70.body, slicesIndexFuncF70.nml2)]) (by kernel_rfl) (fun n => ⟨slicesIndexFuncF70.atl2 n, trivial⟩) slicesIndexFuncF70.eq
noncomputable def slicesContainsFuncF48 (fu : Nat) (sv : List S1) : Option ((Bool × Unit) × (Unit)) :=
  (slicesIndexFuncF70 fu sv).bind fun r1 =>
  let t2 := decide (r1.1.1 ≥ (0 : Int))
  some ((t2, ()), (()))

noncomputable def slicesContainsFuncF48.body : Code := Tryd.f48.body.getD .skip
noncomputable def slicesContainsFuncF48.con : OCon := { ps := [.dat (.slice kS1), .fn 49], rs := [.dat .bool], f := fun n x => slicesContainsFuncF48 n x.1 }
noncomputable def slicesContainsFuncF48.env : Env := { tys := [(4, ⟨.bool, 1⟩)], elems := [], ptrs := [], cons := [], objs := [(70, [slicesIndexFuncF70.con])], loops := [], cuts := [], globs := globs, base := 0 }
noncomputable def slicesContainsFuncF48.lp (n : Nat) : LP (RT slicesContainsFuncF48.con.rs × BT slicesContainsFuncF48.con.ps) := fun lo κ body nm K s =>
  loops n (RT slicesContainsFuncF48.con.rs × BT slicesContainsFuncF48.con.ps) lo κ body nm K s
theorem slicesContainsFuncF48.eq (n : Nat) (x : PT slicesContainsFuncF48.con.ps) : evFuncO slicesContainsFuncF48.env Tryd.f48 slicesContainsFuncF48.body slicesContainsFuncF48.con.ps slicesContainsFuncF48.con.rs (slicesContainsFuncF48.lp n) n x = slicesContainsFuncF48.con.f n x := by kernel_rfl
theorem slicesContainsFuncF48.sound : SoundO Tryd.prog globs 48 slicesContainsFuncF48.con :=
  sound_byO (E := slicesContainsFuncF48.env) (c := slicesContainsFuncF48.body) (envOk (G := globs) (lc := []) (lo := [(70, [slicesIndexFuncF70.con])]) (envB_spec (by kernel_rfl)) rfl rfl trivial rfl ⟨⟨⟨slicesIndexFuncF70.sound, trivial⟩, by kernel_rfl⟩, trivial⟩ (by kernel_rfl) (by kernel_rfl)) Tryd.func48 (by kernel_rfl) (by kernel_rfl) (by kernel_rfl) slicesContainsFuncF48.lp (l := []) (by kernel_rfl) (fun n => trivial) slicesContainsFuncF48.eq
noncomputable def eventMay (fu : Nat) (ev : S6) : Option (Bool × Unit) :=
  let t1 := decide ((ev.2.1.length : Int) ≤ (8 : Int))
  cond t1 (
    (slicesContainsFuncF48 fu ev.2.1).bind fun r2 =>
    some (!r2.1.1, ())) (
    some (false, ()))

noncomputable def eventMay.body : Code := Tryd.f27.body.getD .skip
noncomputable def eventMay.con : Con := { ps := [kS6], rs := [.bool], f := fun n x => eventMay n x.1 }
noncomputable def eventMay.env : Env := { tys := [(34, ⟨kS6, 32⟩), (4, ⟨.bool, 1⟩), (32, ⟨(.slice kS1), 24⟩), (46, ⟨kS1, 40⟩)], elems := [(32, 46)], ptrs := [], cons := [], objs := [(48, [slicesContainsFuncF48.con])], loops := [], cuts := [], globs := globs, base := 0 }
noncomputable def eventMay.lp (n : Nat) : LP (Kd.struct eventMay.con.rs).T := fun lo κ body nm K s =>
  loops n (Kd.struct eventMay.con.rs).T lo κ body nm K s
theorem eventMay.eq (n : Nat) (x : (Kd.struct eventMay.con.ps).T) : evFunc eventMay.env Tryd.f27 eventMay.body eventMay.con.ps eventMay.con.rs (eventMay.lp n) n x = eventMay.con.f n x := by kernel_rfl
theorem eventMay.sound : Sound Tryd.prog globs 27 eventMay.con :=
  sound_by (E := eventMay.env) (c := eventMay.body) (envOk (G := globs) (lc := []) (lo := [(48, [slicesContainsFuncF48.con])]) (envB_spec (by kernel_rfl)) rfl rfl trivial rfl ⟨⟨⟨slicesContainsFuncF48.sound, trivial⟩, by kernel_rfl⟩, trivial⟩ (by kernel_rfl) (by kernel_rfl)) Tryd.func27 (by kernel_rfl) eventMay.lp (l := []) (by kernel_rfl) (fun n => trivial) eventMay.eq
noncomputable def stringsliteHasPrefix (fu : Nat) (sv : List Int) (prefixv : List Int) : Option (Bool × Unit) :=
  let t1 := decide ((sv.length : Int) ≥ (prefixv.length : Int))
  cond t1 (
    chk (cutOk sv (0 : Int) (prefixv.length : Int)) <|
    let t2 := cutL sv (0 : Int) (prefixv.length : Int)
    some (t2 == prefixv, ())) (
    some (false, ()))

noncomputable def stringsliteHasPrefix.body : Code := Tryd.f71.body.getD .skip
noncomputable def stringsliteHasPrefix.con : Con := { ps := [.str, .str], rs := [.bool], f := fun n x => stringsliteHasPrefix n x.1 x.2.1 }
noncomputable def stringsliteHasPrefix.env : Env := { tys := [(4, ⟨.bool, 1⟩), (9, ⟨.str, 16⟩)], elems := [], ptrs := [], cons := [], objs := [], loops := [], cuts := [], globs := globs, base := 0 }
noncomputable def stringsliteHasPrefix.lp (n : Nat) : LP (Kd.struct stringsliteHasPrefix.con.rs).T := fun lo κ body nm K s =>
  loops n (Kd.struct stringsliteHasPrefix.con.rs).T lo κ body nm K s
theorem stringsliteHasPrefix.eq (n : Nat) (x : (Kd.struct stringsliteHasPrefix.con.ps).T) : evFunc stringsliteHasPrefix.env Tryd.f71 stringsliteHasPrefix.body stringsliteHasPrefix.con.ps stringsliteHasPrefix.con.rs (stringsliteHasPrefix.lp n) n x = stringsliteHasPrefix.con.f n x := by kernel_rfl
theorem stringsliteHasPrefix.sound : Sound Tryd.prog globs 71 stringsliteHasPrefix.con :=
  sound_by (E := stringsliteHasPrefix.env) (c := stringsliteHasPrefix.body) (envOk (G := globs) (lc := []) (lo := []) (envB_spec (by kernel_rfl)) rfl rfl trivial rfl trivial (by kernel_rfl) (by kernel_rfl)) Tryd.func71 (by kernel_rfl) stringsliteHasPrefix.lp (l := []) (by kernel_rfl) (fun n => trivial) stringsliteHasPrefix.eq
noncomputable def stringsHasPrefix (fu : Nat) (sv : List Int) (prefixv : List Int) : Option (Bool × Unit) :=
  (stringsliteHasPrefix fu sv prefixv).bind fun r1 =>
  some (r1.1, ())

noncomputable def stringsHasPrefix.body : Code := Tryd.f50.body.getD .skip
noncomputable def stringsHasPrefix.con : Con := { ps := [.str, .str], rs := [.bool], f := fun n x => stringsHasPrefix n x.1 x.2.1 }
noncomputable def stringsHasPrefix.env : Env := { tys := [(4, ⟨.bool, 1⟩)], elems := [], ptrs := [], cons := [(71, stringsliteHasPrefix.con)], objs := [], loops := [], cuts := [], globs := globs, base := 0 }
noncomputable def stringsHasPrefix.lp (n : Nat) : LP (Kd.struct stringsHasPrefix.con.rs).T := fun lo κ body nm K s =>
  loops n (Kd.struct stringsHasPrefix.con.rs).T lo κ body nm K s
theorem stringsHasPrefix.eq (n : Nat) (x : (Kd.struct stringsHasPrefix.con.ps).T) : evFunc stringsHasPrefix.env Tryd.f50 stringsHasPrefix.body stringsHasPrefix.con.ps stringsHasPrefix.con.rs (stringsHasPrefix.lp n) n x = stringsHasPrefix.con.f n x := by kernel_rfl
theorem stringsHasPrefix.sound : Sound Tryd.prog globs 50 stringsHasPrefix.con :=
  sound_by (E := stringsHasPrefix.env) (c := stringsHasPrefix.body) (envOk (G := globs) (lc := [(71, stringsliteHasPrefix.con)]) (lo := []) (envB_spec (by kernel_rfl)) rfl rfl ⟨.inl ⟨stringsliteHasPrefix.sound, by kernel_rfl⟩, trivial⟩ rfl trivial (by kernel_rfl) (by kernel_rfl)) Tryd.func50 (by kernel_rfl) stringsHasPrefix.lp (l := []) (by kernel_rfl) (fun n => trivial) stringsHasPrefix.eq
noncomputable def bytealgCompareString (fu : Nat) (a : List Int) (b : List Int) : Option (Int × Unit) :=
  (extCmp.f fu (a, b, ())).bind fun r1 =>
  some (r1.1, ())

noncomputable def bytealgCompareString.body : Code := Tryd.f83.body.getD .skip
noncomputable def bytealgCompareString.con : Con := { ps := [.str, .str], rs := [(.int .i64)], f := fun n x => bytealgCompareString n x.1 x.2.1 }
noncomputable def bytealgCompareString.env : Env := { tys := [(3, ⟨(.int .i64), 8⟩)], elems := [], ptrs := [], cons := [(87, extCmp)], objs := [], loops := [], cuts := [], globs := globs, base := 0 }
noncomputable def bytealgCompareString.lp (n : Nat) : LP (Kd.struct bytealgCompareString.con.rs).T := fun lo κ body nm K s =>
  loops n (Kd.struct bytealgCompareString.con.rs).T lo κ body nm K s
theorem bytealgCompareString.eq (n : Nat) (x : (Kd.struct bytealgCompareString.con.ps).T) : evFunc bytealgCompareString.env Tryd.f83 bytealgCompareString.body bytealgCompareString.con.ps bytealgCompareString.con.rs (bytealgCompareString.lp n) n x = bytealgCompareString.con.f n x := by kernel_rfl
theorem bytealgCompareString.sound : Sound Tryd.prog globs 83 bytealgCompareString.con :=
  sound_by (E := bytealgCompareString.env) (c := bytealgCompareString.body) (envOk (G := globs) (lc := [(87, extCmp)]) (lo := []) (envB_spec (by kernel_rfl)) rfl rfl ⟨.inr (extCmp_ok Tryd.func87 (by kernel_rfl) (by kernel_rfl) (by kernel_rfl) (by kernel_rfl)), trivial⟩ rfl trivial (by kernel_rfl) (by kernel_rfl)) Tryd.func83 (by kernel_rfl) bytealgCompareString.lp (l := []) (by kernel_rfl) (fun n => trivial) bytealgCompareString.eq
noncomputable def stringsCompare (fu : Nat) (a : List Int) (b : List Int) : Option (Int × Unit) :=
  (bytealgCompareString fu a b).bind fun r1 =>
  some (r1.1, ())

noncomputable def stringsCompare.body : Code := Tryd.f72.body.getD .skip
noncomputable def stringsCompare.con : Con := { ps := [.str, .str], rs := [(.int .i64)], f := fun n x => stringsCompare n x.1 x.2.1 }
noncomputable def stringsCompare.env : Env := { tys := [(3, ⟨(.int .i64), 8⟩)], elems := [], ptrs := [], cons := [(83, bytealgCompareString.con)], objs := [], loops := [], cuts := [], globs := globs, base := 0 }
noncomputable def stringsCompare.lp (n : Nat) : LP (Kd.struct stringsCompare.con.rs).T := fun lo κ body nm K s =>
  loops n (Kd.struct stringsCompare.con.rs).T lo κ body nm K s
theorem stringsCompare.eq (n : Nat) (x : (Kd.struct stringsCompare.con.ps).T) : evFunc stringsCompare.env Tryd.f72 stringsCompare.body stringsCompare.con.ps stringsCompare.con.rs (stringsCompare.lp n) n x = stringsCompare.con.f n x := by kernel_rfl
theorem stringsCompare.sound : Sound Tryd.prog globs 72 stringsCompare.con :=
  sound_by (E := stringsCompare.env) (c := stringsCompare.body) (envOk (G := globs) (lc := [(83, bytealgCompareString.con)]) (lo := []) (envB_spec (by kernel_rfl)) rfl rfl ⟨.inl ⟨bytealgCompareString.sound, by kernel_rfl⟩, trivial⟩ rfl trivial (by kernel_rfl) (by kernel_rfl)) Tryd.func72 (by kernel_rfl) stringsCompare.lp (l := []) (by kernel_rfl) (fun n => trivial) stringsCompare.eq
noncomputable def realCompare (fu : Nat) (a : Nat) (b : Nat) : Option (Int × Bool × Unit) :=
  cond (fLss a b) (
    some ((-1 : Int), true, ())) (
    cond (fGtr a b) (
      some ((1 : Int), true, ())) (
      some ((0 : Int), fEql a b, ())))

noncomputable def realCompare.body : Code := Tryd.f73.body.getD .skip
noncomputable def realCompare.con : Con := { ps := [.flt, .flt], rs := [(.int .i64), .bool], f := fun n x => realCompare n x.1 x.2.1 }
noncomputable def realCompare.env : Env := { tys := [(3, ⟨(.int .i64), 8⟩), (4, ⟨.bool, 1⟩)], elems := [], ptrs := [], cons := [], objs := [], loops := [], cuts := [], globs := globs, base := 0 }
noncomputable def realCompare.lp (n : Nat) : LP (Kd.struct realCompare.con.rs).T := fun lo κ body nm K s =>
  loops n (Kd.struct realCompare.con.rs).T lo κ body nm K s
theorem realCompare.eq (n : Nat) (x : (Kd.struct realCompare.con.ps).T) : evFunc realCompare.env Tryd.f73 realCompare.body realCompare.con.ps realCompare.con.rs (realCompare.lp n) n x = realCompare.con.f n x := by kernel_rfl
theorem realCompare.sound : Sound Tryd.prog globs 73 realCompare.con :=
  sound_by (E := realCompare.env) (c := realCompare.body) (envOk (G := globs) (lc := []) (lo := []) (envB_spec (by kernel_rfl)) rfl rfl trivial rfl trivial (by kernel_rfl) (by kernel_rfl)) Tryd.func73 (by kernel_rfl) realCompare.lp (l := []) (by kernel_rfl) (fun n => trivial) realCompare.eq
noncomputable def mathFloor (fu : Nat) (xv : Nat) : Option (Nat × Unit) :=
  (extFloor.f fu (xv, ())).bind fun r1 =>
  some (r1.1, ())

noncomputable def mathFloor.body : Code := Tryd.f84.body.getD .skip
noncomputable def mathFloor.con : Con := { ps := [.flt], rs := [.flt], f := fun n x => mathFloor n x.1 }
noncomputable def mathFloor.env : Env := { tys := [(44, ⟨.flt, 8⟩)], elems := [], ptrs := [], cons := [(88, extFloor)], objs := [], loops := [], cuts := [], globs := globs, base := 0 }
noncomputable def mathFloor.lp (n : Nat) : LP (Kd.struct mathFloor.con.rs).T := fun lo κ body nm K s =>
  loops n (Kd.struct mathFloor.con.rs).T lo κ body nm K s
theorem mathFloor.eq (n : Nat) (x : (Kd.struct mathFloor.con.ps).T) : evFunc mathFloor.env Tryd.f84 mathFloor.body mathFloor.con.ps mathFloor.con.rs (mathFloor.lp n) n x = mathFloor.con.f n x := by kernel_rfl
theorem mathFloor.sound : Sound Tryd.prog globs 84 mathFloor.con :=
  sound_by (E := mathFloor.env) (c := mathFloor.body) (envOk (G := globs) (lc := [(88, extFloor)]) (lo := []) (envB_spec (by kernel_rfl)) rfl rfl ⟨.inr (extFloor_ok Tryd.func88 (by kernel_rfl) (by kernel_rfl) (by kernel_rfl) (by kernel_rfl)), trivial⟩ rfl trivial (by kernel_rfl) (by kernel_rfl)) Tryd.func84 (by kernel_rfl) mathFloor.lp (l := []) (by kernel_rfl) (fun n => trivial) mathFloor.eq
noncomputable def cmpIsNaN (fu : Nat) (xv : Int) : Option (Bool × Unit) :=
  some (xv != xv, ())

noncomputable def cmpIsNaN.body : Code := Tryd.f90.body.getD .skip
noncomputable def cmpIsNaN.con : Con := { ps := [(.int .i64)], rs := [.bool], f := fun n x => cmpIsNaN n x.1 }
noncomputable def cmpIsNaN.env : Env := { tys := [(4, ⟨.bool, 1⟩)], elems := [], ptrs := [], cons := [], objs := [], loops := [], cuts := [], globs := globs, base := 0 }
noncomputable def cmpIsNaN.lp (n : Nat) : LP (Kd.struct cmpIsNaN.con.rs).T := fun lo κ body nm K s =>
  loops n (Kd.struct cmpIsNaN.con.rs).T lo κ body nm K s
theorem cmpIsNaN.eq (n : Nat) (x : (Kd.struct cmpIsNaN.con.ps).T) : evFunc cmpIsNaN.env Tryd.f90 cmpIsNaN.body cmpIsNaN.con.ps cmpIsNaN.con.rs (cmpIsNaN.lp n) n x = cmpIsNaN.con.f n x := by kernel_rfl
theorem cmpIsNaN.sound : Sound Tryd.prog globs 90 cmpIsNaN.con :=
  sound_by (E := cmpIsNaN.env) (c := cmpIsNaN.body) (envOk (G := globs) (lc := []) (lo := []) (envB_spec (by kernel_rfl)) rfl rfl trivial rfl trivial (by kernel_rfl) (by kernel_rfl)) Tryd.func90 (by kernel_rfl) cmpIsNaN.lp (l := []) (by kernel_rfl) (fun n => trivial) cmpIsNaN.eq
noncomputable def cmpCompare (fu : Nat) (xv : Int) (yv : Int) : Option (Int × Unit) :=
  (cmpIsNaN fu xv).bind fun r1 =>
  (cmpIsNaN fu yv).bind fun r2 =>
  cond r1.1 (
    cond r2.1 (
      some ((0 : Int), ())) (
      some ((-1 : Int), ()))) (
    cond r2.1 (
      some ((1 : Int), ())) (
      cond (decide (xv < yv)) (
        some ((-1 : Int), ())) (
        cond (decide (xv > yv)) (
          some ((1 : Int), ())) (
          some ((0 : Int), ())))))

noncomputable def cmpCompare.body : Code := Tryd.f85.body.getD .skip
noncomputable def cmpCompare.con : Con := { ps := [(.int .i64), (.int .i64)], rs := [(.int .i64)], f := fun n x => cmpCompare n x.1 x.2.1 }
noncomputable def cmpCompare.env : Env := { tys := [(3, ⟨(.int .i64), 8⟩)], elems := [], ptrs := [], cons := [(90, cmpIsNaN.con)], objs := [], loops := [], cuts := [], globs := globs, base := 0 }
noncomputable def cmpCompare.lp (n : Nat) : LP (Kd.struct cmpCompare.con.rs).T := fun lo κ body nm K s =>
  loops n (Kd.struct cmpCompare.con.rs).T lo κ body nm K s
theorem cmpCompare.eq (n : Nat) (x : (Kd.struct cmpCompare.con.ps).T) : evFunc cmpCompare.env Tryd.f85 cmpCompare.body cmpCompare.con.ps cmpCompare.con.rs (cmpCompare.lp n) n x = cmpCompare.con.f n x := by kernel_rfl
theorem cmpCompare.sound : Sound Tryd.prog globs 85 cmpCompare.con :=
  sound_by (E := cmpCompare.env) (c := cmpCompare.body) (envOk (G := globs) (lc := [(90, cmpIsNaN.con)]) (lo := []) (envB_spec (by kernel_rfl)) rfl rfl ⟨.inl ⟨cmpIsNaN.sound, by kernel_rfl⟩, trivial⟩ rfl trivial (by kernel_rfl) (by kernel_rfl)) Tryd.func85 (by kernel_rfl) cmpCompare.lp (l := []) (by kernel_rfl) (fun n => trivial) cmpCompare.eq
noncomputable def realAgainst (fu : Nat) (n : Int) (xv : Nat) : Option (Int × Bool × Unit) :=
  cond (fNeq xv xv) (
    some ((0 : Int), false, ())) (
    let t1 := fGeq xv (4890909195324358656 : Nat)
    cond t1 (
      some ((-1 : Int), true, ())) (
      let t2 := fLss xv (14114281232179134464 : Nat)
      cond t2 (
        some ((1 : Int), true, ())) (
        (mathFloor fu xv).bind fun r3 =>
        chk (fIntOk .i64 r3.1) <|
        (cmpCompare fu n (fInt .i64 r3.1)).bind fun r4 =>
        cond (r4.1 == (0 : Int)) (
          cond (fGtr xv r3.1) (
            some ((-1 : Int), true, ())) (
            some (r4.1, true, ()))) (
          some (r4.1, true, ())))))

noncomputable def realAgainst.body : Code := Tryd.f74.body.getD .skip
noncomputable def realAgainst.con : Con := { ps := [(.int .i64), .flt], rs := [(.int .i64), .bool], f := fun n x => realAgainst n x.1 x.2.1 }
noncomputable def realAgainst.env : Env := { tys := [(3, ⟨(.int .i64), 8⟩), (4, ⟨.bool, 1⟩), (2, ⟨(.int .i64), 8⟩), (44, ⟨.flt, 8⟩)], elems := [], ptrs := [], cons := [(84, mathFloor.con), (85, cmpCompare.con)], objs := [], loops := [], cuts := [], globs := globs, base := 0 }
noncomputable def realAgainst.lp (n : Nat) : LP (Kd.struct realAgainst.con.rs).T := fun lo κ body nm K s =>
  loops n (Kd.struct realAgainst.con.rs).T lo κ body nm K s
theorem realAgainst.eq (n : Nat) (x : (Kd.struct realAgainst.con.ps).T) : evFunc realAgainst.env Tryd.f74 realAgainst.body realAgainst.con.ps realAgainst.con.rs (realAgainst.lp n) n x = realAgainst.con.f n x := by kernel_rfl
theorem realAgainst.sound : Sound Tryd.prog globs 74 realAgainst.con :=
  sound_by (E := realAgainst.env) (c := realAgainst.body) (envOk (G := globs) (lc := [(84, mathFloor.con), (85, cmpCompare.con)]) (lo := []) (envB_spec (by kernel_rfl)) rfl rfl ⟨.inl ⟨mathFloor.sound, by kernel_rfl⟩, ⟨.inl ⟨cmpCompare.sound, by kernel_rfl⟩, trivial⟩⟩ rfl trivial (by kernel_rfl) (by kernel_rfl)) Tryd.func74 (by kernel_rfl) realAgainst.lp (l := []) (by kernel_rfl) (fun n => trivial) realAgainst.eq
noncomputable def valueCompare (fu : Nat) (a : S1) (b : S1) : Option (Int × Bool × Unit) :=
  (valueMay fu a).bind fun r1 =>
  cond (!r1.1) (
    some ((0 : Int), false, ())) (
    (valueMay fu b).bind fun r2 =>
    cond (!r2.1) (
      some ((0 : Int), false, ())) (
      let t3 := [List.getD ([a.1, b.1]) 0 (0 : Int), List.getD ([a.1, b.1]) 1 (0 : Int)]
      let t4 := t3 == ([(3 : Int), (3 : Int)])
      cond t4 (
        (stringsCompare fu a.2.2.2.1 b.2.2.2.1).bind fun r5 =>
        some (r5.1, true, ())) (
        let t6 := [List.getD ([a.1, b.1]) 0 (0 : Int), List.getD ([a.1, b.1]) 1 (0 : Int)]
        let t7 := t6 == ([(2 : Int), (2 : Int)])
        cond t7 (
          (realCompare fu a.2.2.1 b.2.2.1).bind fun r8 =>
          some (r8.1, r8.2.1, ())) (
          let t9 := [List.getD ([a.1, b.1]) 0 (0 : Int), List.getD ([a.1, b.1]) 1 (0 : Int)]
          let t10 := t9 == ([(1 : Int), (2 : Int)])
          cond t10 (
            (realAgainst fu a.2.1 b.2.2.1).bind fun r11 =>
            some (r11.1, r11.2.1, ())) (
            let t12 := [List.getD ([a.1, b.1]) 0 (0 : Int), List.getD ([a.1, b.1]) 1 (0 : Int)]
            let t13 := t12 == ([(2 : Int), (1 : Int)])
            cond t13 (
              (realAgainst fu b.2.1 a.2.2.1).bind fun r14 =>
              let t15 := IntKind.i64.wrap (0 - r14.1)
              some (t15, r14.2.1, ())) (
              let t16 := [List.getD ([a.1, b.1]) 0 (0 : Int), List.getD ([a.1, b.1]) 1 (0 : Int)]
              let t17 := t16 == ([(1 : Int), (1 : Int)])
              cond t17 (
                cond (decide (a.2.1 < b.2.1)) (
                  some ((-1 : Int), true, ())) (
                  cond (decide (a.2.1 > b.2.1)) (
                    some ((1 : Int), true, ())) (
                    some ((0 : Int), true, ())))) (
                some ((0 : Int), false, ()))))))))

noncomputable def valueCompare.body : Code := Tryd.f51.body.getD .skip
noncomputable def valueCompare.con : Con := { ps := [kS1, kS1], rs := [(.int .i64), .bool], f := fun n x => valueCompare n x.1 x.2.1 }
noncomputable def valueCompare.env : Env := { tys := [(46, ⟨kS1, 40⟩), (3, ⟨(.int .i64), 8⟩), (4, ⟨.bool, 1⟩), (5, ⟨(.int .u8), 1⟩), (113, ⟨(.arr 2 (.int .u8)), 2⟩), (9, ⟨.str, 16⟩), (44, ⟨.flt, 8⟩), (2, ⟨(.int .i64), 8⟩)], elems := [], ptrs := [], cons := [(47, valueMay.con), (72, stringsCompare.con), (73, realCompare.con), (74, realAgainst.con)], objs := [], loops := [], cuts := [], globs := globs, base := 0 }
noncomputable def valueCompare.lp (n : Nat) : LP (Kd.struct valueCompare.con.rs).T := fun lo κ body nm K s =>
  loops n (Kd.struct valueCompare.con.rs).T lo κ body nm K s
theorem valueCompare.eq (n : Nat) (x : (Kd.struct valueCompare.con.ps).T) : evFunc valueCompare.env Tryd.f51 valueCompare.body valueCompare.con.ps valueCompare.con.rs (valueCompare.lp n) n x = valueCompare.con.f n x := by kernel_rfl
theorem valueCompare.sound : Sound Tryd.prog globs 51 valueCompare.con :=
  sound_by (E := valueCompare.env) (c := valueCompare.body) (envOk (G := globs) (lc := [(47, valueMay.con), (72, stringsCompare.con), (73, realCompare.con), (74, realAgainst.con)]) (lo := []) (envB_spec (by kernel_rfl)) rfl rfl ⟨.inl ⟨valueMay.sound, by kernel_rfl⟩, ⟨.inl ⟨stringsCompare.sound, by kernel_rfl⟩, ⟨.inl ⟨realCompare.sound, by kernel_rfl⟩, ⟨.inl ⟨realAgainst.sound, by kernel_rfl⟩, trivial⟩⟩⟩⟩ rfl trivial (by kernel_rfl) (by kernel_rfl)) Tryd.func51 (by kernel_rfl) valueCompare.lp (l := []) (by kernel_rfl) (fun n => trivial) valueCompare.eq
noncomputable def predHoldsF28 (fu : Nat) (tv : S2) (fields : List S1) : Option (Bool × Unit) :=
  let t1 := decide (IntKind.i64.wrap tv.1 ≥ (fields.length : Int))
  cond t1 (
    some (false, ())) (
    chk (ixOk fields tv.1) <|
    let e2 := ixL ((0 : Int), (0 : Int), (0 : Nat), [], ()) fields tv.1
    cond (tv.2.1 == (7 : Int)) (
      some (e2.1 != (0 : Int), ())) (
      cond (tv.2.1 == (8 : Int)) (
        cond (e2.1 == (3 : Int)) (
          (stringsHasPrefix fu e2.2.2.2.1 tv.2.2.1.2.2.2.1).bind fun r3 =>
          some (r3.1, ())) (
          some (false, ()))) (
        (valueCompare fu e2 tv.2.2.1).bind fun r4 =>
        cond r4.2.1 (
          let t5 := IntKind.i64.wrap (r4.1 + (1 : Int))
          chk (ixArr 7 tv.2.1) <|
          let e6 := ixL (List.replicate 3 false) tabPredSays tv.2.1
          chk (ixArr 3 t5) <|
          let e7 := ixL false e6 t5
          some (e7, ())) (
          some (false, ())))))

noncomputable def predHoldsF28.body : Code := Tryd.f28.body.getD .skip
noncomputable def predHoldsF28.con : Con := { ps := [kS2, (.slice kS1)], rs := [.bool], f := fun n x => predHoldsF28 n x.1 x.2.1 }
noncomputable def predHoldsF28.env : Env := { tys := [(50, ⟨kS2, 48⟩), (4, ⟨.bool, 1⟩), (5, ⟨(.int .u8), 1⟩), (3, ⟨(.int .i64), 8⟩), (46, ⟨kS1, 40⟩), (9, ⟨.str, 16⟩), (93, ⟨(.arr 7 (.arr 3 .bool)), 21⟩), (92, ⟨(.arr 3 .bool), 3⟩)], elems := [(32, 46)], ptrs := [], cons := [(50, stringsHasPrefix.con), (51, valueCompare.con)], objs := [], loops := [], cuts := [], globs := globs, base := 0 }
noncomputable def predHoldsF28.lp (n : Nat) : LP (Kd.struct predHoldsF28.con.rs).T := fun lo κ body nm K s =>
  loops n (Kd.struct predHoldsF28.con.rs).T lo κ body nm K s
theorem predHoldsF28.eq (n : Nat) (x : (Kd.struct predHoldsF28.con.ps).T) : evFunc predHoldsF28.env Tryd.f28 predHoldsF28.body predHoldsF28.con.ps predHoldsF28.con.rs (predHoldsF28.lp n) n x = predHoldsF28.con.f n x := by kernel_rfl
theorem predHoldsF28.sound : Sound Tryd.prog globs 28 predHoldsF28.con :=
  sound_by (E := predHoldsF28.env) (c := predHoldsF28.body) (envOk (G := globs) (lc := [(50, stringsHasPrefix.con), (51, valueCompare.con)]) (lo := []) (envB_spec (by kernel_rfl)) rfl rfl ⟨.inl ⟨stringsHasPrefix.sound, by kernel_rfl⟩, ⟨.inl ⟨valueCompare.sound, by kernel_rfl⟩, trivial⟩⟩ rfl trivial (by kernel_rfl) (by kernel_rfl)) Tryd.func28 (by kernel_rfl) predHoldsF28.lp (l := []) (by kernel_rfl) (fun n => trivial) predHoldsF28.eq
noncomputable def predHolds.b4 (fu : Nat) (next : (List S2) → Int → Int → S6 → Option (Bool × Unit)) (k1 : Bool → Option (Bool × Unit)) (k2 : Unit → Option (Bool × Unit)) (v : List S2) (vx2 : Int) (vx3 : Int) (b1 : S6) : Option (Bool × Unit) :=
  cond (decide (vx3 < vx2)) (
    chk (ixOk v vx3) <|
    let e1 := ixL ((0 : Int), (0 : Int), ((0 : Int), (0 : Int), (0 : Nat), [], ()), ()) v vx3
    (predHoldsF28 fu e1 b1.2.1).bind fun r2 =>
    cond (!r2.1) (
      k1 false) (
      let t3 := IntKind.i64.wrap (vx3 + (1 : Int))
      next v vx2 t3 b1)) (
    k2 ())
noncomputable def predHolds.l4 (fu : Nat) (k1 : Bool → Option (Bool × Unit)) (k2 : Unit → Option (Bool × Unit)) : Nat → (List S2) → Int → Int → S6 → Option (Bool × Unit)
  | 0, _, _, _, _ => none
  | m + 1, v, vx2, vx3, b1 => predHolds.b4 fu (predHolds.l4 fu k1 k2 m) k1 k2 v vx2 vx3 b1
noncomputable def predHolds.j3 (fu : Nat) (k1 : Bool → Option (Bool × Unit)) (b0 : S3) (b1 : S6) : Option (Bool × Unit) :=
  predHolds.l4 fu (fun vq5 => 
      k1 vq5) (fun (_ : Unit) => 
      k1 true) fu b0.2.2.1 (b0.2.2.1.length : Int) (0 : Int) b1
noncomputable def predHolds (fu : Nat) (p : S3) (ev : S6) : Option (Bool × Unit) :=
  (predMay fu p).bind fun r1 =>
  cond (!r1.1) (
    some (false, ())) (
    (eventMay fu ev).bind fun r2 =>
    cond (!r2.1) (
      some (false, ())) (
      cond (!p.1) (
        cond (p.2.1 != ev.1) (
          some (false, ())) (
          predHolds.j3 fu (fun vq1 => 
              some (vq1, ())) p ev)) (
        predHolds.j3 fu (fun vq2 => 
            some (vq2, ())) p ev)))

noncomputable def predHolds.body : Code := Tryd.f14.body.getD .skip
abbrev predHolds.shl4 : Shp := ⟨[.u, .u, .u, .p 1 0, .u, .u, .u, .u, .u, .u, .u, .u, .u, .u, .u, .u, .u, .u, .u, .u, .u, .u, .u, .u, .u, .u, .u, .u, .d (.slice kS2), .d (.int .i64), .d (.int .i64), .u, .u, .u, .u, .u, .u, .u, .u, .u], [.c [.u, .u, .u], .c [.g kS6]]⟩
abbrev predHolds.outl4e1 : Shp := ⟨[.u, .u, .u, .u, .d .bool, .u, .u, .u, .u, .u, .u, .u, .u, .u, .u, .u, .u, .u, .u, .u, .u, .u, .u, .u, .u, .u, .u, .u, .u, .u, .u, .u, .u, .u, .u, .u, .u, .u, .u, .u], []⟩
abbrev predHolds.outl4e2 : Shp := ⟨[.u, .u, .u, .u, .u, .u, .u, .u, .u, .u, .u, .u, .u, .u, .u, .u, .u, .u, .u, .u, .u, .u, .u, .u, .u, .u, .u, .u, .u, .u, .u, .u, .u, .u, .u, .u, .u, .u, .u, .u], []⟩
noncomputable def predHolds.nml4 : Norm := ⟨{ keep := [3, 28, 29, 30], shut := [(28, (.slice kS2)), (29, (.int .i64)), (30, (.int .i64))], retag := [], heap := 2, dead := [0], cshut := [(1, 0, (.int .u8)), (1, 1, (.slice kS1))], cretag := [] }, [(1, { keep := [4], shut := [(4, .bool)], retag := [], heap := 0, dead := [], cshut := [], cretag := [] }), (2, { keep := [], shut := [], retag := [], heap := 0, dead := [], cshut := [], cretag := [] })]⟩
abbrev predHolds.shj3 : Shp := ⟨[.u, .u, .p 0 0, .p 1 0, .u, .u, .u, .u, .u, .u, .u, .u, .u, .u, .u, .u, .u, .u, .u, .u, .u, .u, .u, .u, .u, .u, .u, .u, .u, .u, .u, .u, .u, .u, .u, .u, .u, .u, .u, .u], [.c [.g kS3], .c [.g kS6]]⟩
abbrev predHolds.outj3e1 : Shp := ⟨[.u, .u, .u, .u, .d .bool, .u, .u, .u, .u, .u, .u, .u, .u, .u, .u, .u, .u, .u, .u, .u, .u, .u, .u, .u, .u, .u, .u, .u, .u, .u, .u, .u, .u, .u, .u, .u, .u, .u, .u, .u], []⟩
noncomputable def predHolds.nmj3 : Norm := ⟨{ keep := [2, 3], shut := [], retag := [], heap := 2, dead := [], cshut := [(0, 0, .bool), (0, 1, (.int .u8)), (0, 2, (.slice kS2)), (1, 0, (.int .u8)), (1, 1, (.slice kS1))], cretag := [] }, [(1, { keep := [4], shut := [(4, .bool)], retag := [], heap := 0, dead := [], cshut := [], cretag := [] })]⟩
noncomputable def predHolds.con : Con := { ps := [kS3, kS6], rs := [.bool], f := fun n x => predHolds n x.1 x.2.1 }
noncomputable def predHolds.env : Env := { tys := [(30, ⟨kS3, 32⟩), (34, ⟨kS6, 32⟩), (4, ⟨.bool, 1⟩), (5, ⟨(.int .u8), 1⟩), (28, ⟨(.slice kS2), 24⟩), (50, ⟨kS2, 48⟩), (3, ⟨(.int .i64), 8⟩), (32, ⟨(.slice kS1), 24⟩)], elems := [(28, 50)], ptrs := [], cons := [(12, predMay.con), (27, eventMay.con), (28, predHoldsF28.con)], objs := [], loops := [(4, predHolds.nml4)], cuts := [(3, predHolds.nmj3)], globs := globs, base := 0 }
noncomputable def predHolds.lp (n : Nat) : LP (Kd.struct predHolds.con.rs).T := fun lo κ body nm K s =>
  cond (lo && Nat.beq κ 4)
    (match predHolds.shl4.dec s with
    | some v => predHolds.l4 n (fun w0 => K .ret (predHolds.outl4e1.enc (w0, ()))) (fun _ => K (.exit 0) (predHolds.outl4e2.enc (()))) n v.1 v.2.1 v.2.2.1 v.2.2.2.1
    | none => loops n (Kd.struct predHolds.con.rs).T lo κ body nm K s)
    (cond (!lo && Nat.beq κ 3)
    (match predHolds.shj3.dec s with
    | some v => predHolds.j3 n (fun w0 => K .ret (predHolds.outj3e1.enc (w0, ()))) v.1 v.2.1
    | none => loops n (Kd.struct predHolds.con.rs).T lo κ body nm K s)
    (loops n (Kd.struct predHolds.con.rs).T lo κ body nm K s))
theorem predHolds.atl4 (n : Nat) (s : St) (K : Ex → St → Option (Kd.struct predHolds.con.rs).T) : (predHolds.lp n) true 4 (evK predHolds.env (predHolds.lp n) n (sub [1, 1, 0, 1, 0, 0] predHolds.body)) predHolds.nml4 K s = loops n (Kd.struct predHolds.con.rs).T true 4 (evK predHolds.env (predHolds.lp n) n (sub [1, 1, 0, 1, 0, 0] predHolds.body)) predHolds.nml4 K s := by
  show (match predHolds.shl4.dec s with | some v => predHolds.l4 n (fun w0 => K .ret (predHolds.outl4e1.enc (w0, ()))) (fun _ => K (.exit 0) (predHolds.outl4e2.enc (()))) n v.1 v.2.1 v.2.2.1 v.2.2.2.1 | none => loops n (Kd.struct predHolds.con.rs).T true 4 (evK predHolds.env (predHolds.lp n) n (sub [1, 1, 0, 1, 0, 0] predHolds.body)) predHolds.nml4 K s) = _
  cases h : predHolds.shl4.dec s with
  | none => rfl
  | some v =>
    rw [Shp.dec_enc h]
    exact (evLoop_eq (sh := predHolds.shl4) (body := evK predHolds.env (predHolds.lp n) n (sub [1, 1, 0, 1, 0, 0] predHolds.body)) (nm := predHolds.nml4) (K := K) (b := fun nx v => predHolds.b4 n (fun x0 x1 x2 x3 => nx (x0, x1, x2, x3, ())) (fun w0 => K .ret (predHolds.outl4e1.enc (w0, ()))) (fun _ => K (.exit 0) (predHolds.outl4e2.enc (()))) v.1 v.2.1 v.2.2.1 v.2.2.2.1) (l := fun m v => predHolds.l4 n (fun w0 => K .ret (predHolds.outl4e1.enc (w0, ()))) (fun _ => K (.exit 0) (predHolds.outl4e2.enc (()))) m v.1 v.2.1 v.2.2.1 v.2.2.2.1) (fun _ => rfl) (fun _ _ => rfl) (fun m v => by kernel_rfl) n v).symm
theorem predHolds.atj3 (n : Nat) (s : St) (K : Ex → St → Option (Kd.struct predHolds.con.rs).T) : (predHolds.lp n) false 3 (evK predHolds.env (predHolds.lp n) n (sub [1, 1] predHolds.body)) predHolds.nmj3 K s = loops n (Kd.struct predHolds.con.rs).T false 3 (evK predHolds.env (predHolds.lp n) n (sub [1, 1] predHolds.body)) predHolds.nmj3 K s := by
  show (match predHolds.shj3.dec s with | some v => predHolds.j3 n (fun w0 => K .ret (predHolds.outj3e1.enc (w0, ()))) v.1 v.2.1 | none => loops n (Kd.struct predHolds.con.rs).T false 3 (evK predHolds.env (predHolds.lp n) n (sub [1, 1] predHolds.body)) predHolds.nmj3 K s) = _
  cases h : predHolds.shj3.dec s with
  | none => rfl
  | some v =>
    rw [Shp.dec_enc h]
    kernel_rfl
theorem predHolds.eq (n : Nat) (x : (Kd.struct predHolds.con.ps).T) : evFunc predHolds.env Tryd.f14 predHolds.body predHolds.con.ps predHolds.con.rs (predHolds.lp n) n x = predHolds.con.f n x := by kernel_rfl
theorem predHolds.sound : Sound Tryd.prog globs 14 predHolds.con :=
  sound_by (E := predHolds.env) (c := predHolds.body) (envOk (G := globs) (lc := [(12, predMay.con), (27, eventMay.con), (28, predHoldsF28.con)]) (lo := []) (envB_spec (by kernel_rfl)) rfl rfl ⟨.inl ⟨predMay.sound, by kernel_rfl⟩, ⟨.inl ⟨eventMay.sound, by kernel_rfl⟩, ⟨.inl ⟨predHoldsF28.sound, by kernel_rfl⟩, trivial⟩⟩⟩ rfl trivial (by kernel_rfl) (by kernel_rfl)) Tryd.func14 (by kernel_rfl) predHolds.lp (l := [(true, sub [1, 1, 0, 1, 0, 0] predHolds.body, predHolds.nml4), (false, sub [1, 1] predHolds.body, predHolds.nmj3)]) (by kernel_rfl) (fun n => ⟨predHolds.atl4 n, ⟨predHolds.atj3 n, trivial⟩⟩) predHolds.eq
noncomputable def law10Fixed (fu : Nat) : Option (Bool × Unit) :=
  let t1 := [((0 : Int), (5 : Int), ((1 : Int), (5 : Int), (0 : Nat), [], ()), ())]
  let t2 := [((1 : Int), (7 : Int), (0 : Nat), [], ())]
  (predHolds fu (false, (1 : Int), t1, ()) ((1 : Int), t2, ())).bind fun r3 =>
  cond r3.1 (
    let t4 := [((1 : Int), (5 : Int), (0 : Nat), [], ())]
    (predHolds fu (false, (1 : Int), t1, ()) ((1 : Int), t4, ())).bind fun r5 =>
    cond (!r5.1) (
      (predHolds fu (false, (1 : Int), t1, ()) ((1 : Int), [], ())).bind fun r6 =>
      some (!r6.1, ())) (
      some (false, ()))) (
    some (false, ()))

noncomputable def law10Fixed.body : Code := Tryd.f11.body.getD .skip
noncomputable def law10Fixed.con : Con := { ps := [], rs := [.bool], f := fun n x => law10Fixed n }
noncomputable def law10Fixed.env : Env := { tys := [(4, ⟨.bool, 1⟩), (46, ⟨kS1, 40⟩), (50, ⟨kS2, 48⟩), (30, ⟨kS3, 32⟩), (34, ⟨kS6, 32⟩)], elems := [(28, 50), (32, 46)], ptrs := [], cons := [(14, predHolds.con)], objs := [], loops := [], cuts := [], globs := globs, base := 0 }
noncomputable def law10Fixed.lp (n : Nat) : LP (Kd.struct law10Fixed.con.rs).T := fun lo κ body nm K s =>
  loops n (Kd.struct law10Fixed.con.rs).T lo κ body nm K s
theorem law10Fixed.eq (n : Nat) (x : (Kd.struct law10Fixed.con.ps).T) : evFunc law10Fixed.env Tryd.f11 law10Fixed.body law10Fixed.con.ps law10Fixed.con.rs (law10Fixed.lp n) n x = law10Fixed.con.f n x := by kernel_rfl
theorem law10Fixed.sound : Sound Tryd.prog globs 11 law10Fixed.con :=
  sound_by (E := law10Fixed.env) (c := law10Fixed.body) (envOk (G := globs) (lc := [(14, predHolds.con)]) (lo := []) (envB_spec (by kernel_rfl)) rfl rfl ⟨.inl ⟨predHolds.sound, by kernel_rfl⟩, trivial⟩ rfl trivial (by kernel_rfl) (by kernel_rfl)) Tryd.func11 (by kernel_rfl) law10Fixed.lp (l := []) (by kernel_rfl) (fun n => trivial) law10Fixed.eq
noncomputable def slicesClone (fu : Nat) (sv : List Int) : Option (((List Int) × Unit) × (Unit)) :=
  nilQ sv (
    some (([], ()), (()))) (
    chk (apOk [] sv 1) <|
    some (([] ++ sv, ()), (())))

noncomputable def slicesClone.body : Code := Tryd.f41.body.getD .skip
noncomputable def slicesClone.con : OCon := { ps := [.dat (.slice (.int .u8))], rs := [.own (.int .u8)], f := fun n x => slicesClone n x.1 }
noncomputable def slicesClone.env : Env := { tys := [(56, ⟨(.slice (.int .u8)), 24⟩), (5, ⟨(.int .u8), 1⟩)], elems := [(56, 5)], ptrs := [], cons := [], objs := [], loops := [], cuts := [], globs := globs, base := 0 }
noncomputable def slicesClone.lp (n : Nat) : LP (RT slicesClone.con.rs × BT slicesClone.con.ps) := fun lo κ body nm K s =>
  loops n (RT slicesClone.con.rs × BT slicesClone.con.ps) lo κ body nm K s
theorem slicesClone.eq (n : Nat) (x : PT slicesClone.con.ps) : evFuncO slicesClone.env Tryd.f41 slicesClone.body slicesClone.con.ps slicesClone.con.rs (slicesClone.lp n) n x = slicesClone.con.f n x := by kernel_rfl
theorem slicesClone.sound : SoundO Tryd.prog globs 41 slicesClone.con :=
  sound_byO (E := slicesClone.env) (c := slicesClone.body) (envOk (G := globs) (lc := []) (lo := []) (envB_spec (by kernel_rfl)) rfl rfl trivial rfl trivial (by kernel_rfl) (by kernel_rfl)) Tryd.func41 (by kernel_rfl) (by kernel_rfl) (by kernel_rfl) slicesClone.lp (l := []) (by kernel_rfl) (fun n => trivial) slicesClone.eq
noncomputable def bitsLen64.j7 (fu : Nat) (k1 : Int → Option (Int × Unit)) (xv : Int) (n : Int) : Option (Int × Unit) :=
  let t1 := decide (xv ≥ (256 : Int))
  cond t1 (
    let t2 := IntKind.i64.wrap (n + (8 : Int))
    let t3 := IntKind.u8.wrap (sShr .u64 xv (8 : Int))
    chk (ixOk ([0, 1, 2, 2, 3, 3, 3, 3, 4, 4, 4, 4, 4, 4, 4, 4, 5, 5, 5, 5, 5, 5, 5, 5, 5, 5, 5, 5, 5, 5, 5, 5, 6, 6, 6, 6, 6, 6, 6, 6, 6, 6, 6, 6, 6, 6, 6, 6, 6, 6, 6, 6, 6, 6, 6, 6, 6, 6, 6, 6, 6, 6, 6, 6, 7, 7, 7, 7, 7, 7, 7, 7, 7, 7, 7, 7, 7, 7, 7, 7, 7, 7, 7, 7, 7, 7, 7, 7, 7, 7, 7, 7, 7, 7, 7, 7, 7, 7, 7, 7, 7, 7, 7, 7, 7, 7, 7, 7, 7, 7, 7, 7, 7, 7, 7, 7, 7, 7, 7, 7, 7, 7, 7, 7, 7, 7, 7, 7, 8, 8, 8, 8, 8, 8, 8, 8, 8, 8, 8, 8, 8, 8, 8, 8, 8, 8, 8, 8, 8, 8, 8, 8, 8, 8, 8, 8, 8, 8, 8, 8, 8, 8, 8, 8, 8, 8, 8, 8, 8, 8, 8, 8, 8, 8, 8, 8, 8, 8, 8, 8, 8, 8, 8, 8, 8, 8, 8, 8, 8, 8, 8, 8, 8, 8, 8, 8, 8, 8, 8, 8, 8, 8, 8, 8, 8, 8, 8, 8, 8, 8, 8, 8, 8, 8, 8, 8, 8, 8, 8, 8, 8, 8, 8, 8, 8, 8, 8, 8, 8, 8, 8, 8, 8, 8, 8, 8, 8, 8, 8, 8, 8, 8, 8, 8, 8, 8, 8, 8, 8, 8, 8, 8, 8, 8, 8, 8] : List Int) t3) <|
    let t4 := ixL (0 : Int) ([0, 1, 2, 2, 3, 3, 3, 3, 4, 4, 4, 4, 4, 4, 4, 4, 5, 5, 5, 5, 5, 5, 5, 5, 5, 5, 5, 5, 5, 5, 5, 5, 6, 6, 6, 6, 6, 6, 6, 6, 6, 6, 6, 6, 6, 6, 6, 6, 6, 6, 6, 6, 6, 6, 6, 6, 6, 6, 6, 6, 6, 6, 6, 6, 7, 7, 7, 7, 7, 7, 7, 7, 7, 7, 7, 7, 7, 7, 7, 7, 7, 7, 7, 7, 7, 7, 7, 7, 7, 7, 7, 7, 7, 7, 7, 7, 7, 7, 7, 7, 7, 7, 7, 7, 7, 7, 7, 7, 7, 7, 7, 7, 7, 7, 7, 7, 7, 7, 7, 7, 7, 7, 7, 7, 7, 7, 7, 7, 8, 8, 8, 8, 8, 8, 8, 8, 8, 8, 8, 8, 8, 8, 8, 8, 8, 8, 8, 8, 8, 8, 8, 8, 8, 8, 8, 8, 8, 8, 8, 8, 8, 8, 8, 8, 8, 8, 8, 8, 8, 8, 8, 8, 8, 8, 8, 8, 8, 8, 8, 8, 8, 8, 8, 8, 8, 8, 8, 8, 8, 8, 8, 8, 8, 8, 8, 8, 8, 8, 8, 8, 8, 8, 8, 8, 8, 8, 8, 8, 8, 8, 8, 8, 8, 8, 8, 8, 8, 8, 8, 8, 8, 8, 8, 8, 8, 8, 8, 8, 8, 8, 8, 8, 8, 8, 8, 8, 8, 8, 8, 8, 8, 8, 8, 8, 8, 8, 8, 8, 8, 8, 8, 8, 8, 8, 8, 8] : List Int) t3
    let t5 := IntKind.i64.wrap (t2 + IntKind.i64.wrap t4)
    k1 t5) (
    chk (ixOk ([0, 1, 2, 2, 3, 3, 3, 3, 4, 4, 4, 4, 4, 4, 4, 4, 5, 5, 5, 5, 5, 5, 5, 5, 5, 5, 5, 5, 5, 5, 5, 5, 6, 6, 6, 6, 6, 6, 6, 6, 6, 6, 6, 6, 6, 6, 6, 6, 6, 6, 6, 6, 6, 6, 6, 6, 6, 6, 6, 6, 6, 6, 6, 6, 7, 7, 7, 7, 7, 7, 7, 7, 7, 7, 7, 7, 7, 7, 7, 7, 7, 7, 7, 7, 7, 7, 7, 7, 7, 7, 7, 7, 7, 7, 7, 7, 7, 7, 7, 7, 7, 7, 7, 7, 7, 7, 7, 7, 7, 7, 7, 7, 7, 7, 7, 7, 7, 7, 7, 7, 7, 7, 7, 7, 7, 7, 7, 7, 8, 8, 8, 8, 8, 8, 8, 8, 8, 8, 8, 8, 8, 8, 8, 8, 8, 8, 8, 8, 8, 8, 8, 8, 8, 8, 8, 8, 8, 8, 8, 8, 8, 8, 8, 8, 8, 8, 8, 8, 8, 8, 8, 8, 8, 8, 8, 8, 8, 8, 8, 8, 8, 8, 8, 8, 8, 8, 8, 8, 8, 8, 8, 8, 8, 8, 8, 8, 8, 8, 8, 8, 8, 8, 8, 8, 8, 8, 8, 8, 8, 8, 8, 8, 8, 8, 8, 8, 8, 8, 8, 8, 8, 8, 8, 8, 8, 8, 8, 8, 8, 8, 8, 8, 8, 8, 8, 8, 8, 8, 8, 8, 8, 8, 8, 8, 8, 8, 8, 8, 8, 8, 8, 8, 8, 8, 8, 8] : List Int) (IntKind.u8.wrap xv)) <|
    let t6 := ixL (0 : Int) ([0, 1, 2, 2, 3, 3, 3, 3, 4, 4, 4, 4, 4, 4, 4, 4, 5, 5, 5, 5, 5, 5, 5, 5, 5, 5, 5, 5, 5, 5, 5, 5, 6, 6, 6, 6, 6, 6, 6, 6, 6, 6, 6, 6, 6, 6, 6, 6, 6, 6, 6, 6, 6, 6, 6, 6, 6, 6, 6, 6, 6, 6, 6, 6, 7, 7, 7, 7, 7, 7, 7, 7, 7, 7, 7, 7, 7, 7, 7, 7, 7, 7, 7, 7, 7, 7, 7, 7, 7, 7, 7, 7, 7, 7, 7, 7, 7, 7, 7, 7, 7, 7, 7, 7, 7, 7, 7, 7, 7, 7, 7, 7, 7, 7, 7, 7, 7, 7, 7, 7, 7, 7, 7, 7, 7, 7, 7, 7, 8, 8, 8, 8, 8, 8, 8, 8, 8, 8, 8, 8, 8, 8, 8, 8, 8, 8, 8, 8, 8, 8, 8, 8, 8, 8, 8, 8, 8, 8, 8, 8, 8, 8, 8, 8, 8, 8, 8, 8, 8, 8, 8, 8, 8, 8, 8, 8, 8, 8, 8, 8, 8, 8, 8, 8, 8, 8, 8, 8, 8, 8, 8, 8, 8, 8, 8, 8, 8, 8, 8, 8, 8, 8, 8, 8, 8, 8, 8, 8, 8, 8, 8, 8, 8, 8, 8, 8, 8, 8, 8, 8, 8, 8, 8, 8, 8, 8, 8, 8, 8, 8, 8, 8, 8, 8, 8, 8, 8, 8, 8, 8, 8, 8, 8, 8, 8, 8, 8, 8, 8, 8, 8, 8, 8, 8, 8, 8] : List Int) (IntKind.u8.wrap xv)
    let t7 := IntKind.i64.wrap (n + IntKind.i64.wrap t6)
    k1 t7)
noncomputable def bitsLen64.j4 (fu : Nat) (k1 : Int → Option (Int × Unit)) (xv : Int) (n : Int) : Option (Int × Unit) :=
  let t1 := decide (xv ≥ (65536 : Int))
  cond t1 (
    let t2 := IntKind.i64.wrap (n + (16 : Int))
    bitsLen64.j7 fu (fun nq3 => 
        k1 nq3) (sShr .u64 xv (16 : Int)) t2) (
    bitsLen64.j7 fu (fun nq4 => 
        k1 nq4) xv n)
noncomputable def bitsLen64 (fu : Nat) (xv : Int) : Option (Int × Unit) :=
  let t1 := decide (xv ≥ (4294967296 : Int))
  cond t1 (
    bitsLen64.j4 fu (fun nq1 => 
        some (nq1, ())) (sShr .u64 xv (32 : Int)) (32 : Int)) (
    bitsLen64.j4 fu (fun nq2 => 
        some (nq2, ())) xv (0 : Int))

noncomputable def bitsLen64.body : Code := Tryd.f91.body.getD .skip
abbrev bitsLen64.shj7 : Shp := ⟨[.d (.int .u64), .u, .d (.int .i64), .u, .u, .u, .u, .u, .u, .u, .u, .u, .u, .u, .u, .u, .u, .u, .u, .u, .u, .u, .u, .u, .u], []⟩
abbrev bitsLen64.outj7e1 : Shp := ⟨[.u, .u, .d (.int .i64), .u, .u, .u, .u, .u, .u, .u, .u, .u, .u, .u, .u, .u, .u, .u, .u, .u, .u, .u, .u, .u, .u], []⟩
noncomputable def bitsLen64.nmj7 : Norm := ⟨{ keep := [0, 2], shut := [(0, (.int .u64)), (2, (.int .i64))], retag := [], heap := 0, dead := [], cshut := [], cretag := [] }, [(1, { keep := [2], shut := [(2, (.int .i64))], retag := [], heap := 0, dead := [], cshut := [], cretag := [] })]⟩
abbrev bitsLen64.shj4 : Shp := ⟨[.d (.int .u64), .u, .d (.int .i64), .u, .u, .u, .u, .u, .u, .u, .u, .u, .u, .u, .u, .u, .u, .u, .u, .u, .u, .u, .u, .u, .u], []⟩
abbrev bitsLen64.outj4e1 : Shp := ⟨[.u, .u, .d (.int .i64), .u, .u, .u, .u, .u, .u, .u, .u, .u, .u, .u, .u, .u, .u, .u, .u, .u, .u, .u, .u, .u, .u], []⟩
noncomputable def bitsLen64.nmj4 : Norm := ⟨{ keep := [0, 2], shut := [(0, (.int .u64)), (2, (.int .i64))], retag := [], heap := 0, dead := [], cshut := [], cretag := [] }, [(1, { keep := [2], shut := [(2, (.int .i64))], retag := [], heap := 0, dead := [], cshut := [], cretag := [] })]⟩
noncomputable def bitsLen64.con : Con := { ps := [(.int .u64)], rs := [(.int .i64)], f := fun n x => bitsLen64 n x.1 }
noncomputable def bitsLen64.env : Env := { tys := [(3, ⟨(.int .i64), 8⟩), (5, ⟨(.int .u8), 1⟩), (41, ⟨(.int .u64), 8⟩), (9, ⟨.str, 16⟩)], elems := [], ptrs := [], cons := [], objs := [], loops := [], cuts := [(7, bitsLen64.nmj7), (4, bitsLen64.nmj4)], globs := globs, base := 0 }
noncomputable def bitsLen64.lp (n : Nat) : LP (Kd.struct bitsLen64.con.rs).T := fun lo κ body nm K s =>
  cond (!lo && Nat.beq κ 7)
    (match bitsLen64.shj7.dec s with
    | some v => bitsLen64.j7 n (fun w0 => K .ret (bitsLen64.outj7e1.enc (w0, ()))) v.1 v.2.1
    | none => loops n (Kd.struct bitsLen64.con.rs).T lo κ body nm K s)
    (cond (!lo && Nat.beq κ 4)
    (match bitsLen64.shj4.dec s with
    | some v => bitsLen64.j4 n (fun w0 => K .ret (bitsLen64.outj4e1.enc (w0, ()))) v.1 v.2.1
    | none => loops n (Kd.struct bitsLen64.con.rs).T lo κ body nm K s)
    (loops n (Kd.struct bitsLen64.con.rs).T lo κ body nm K s))
theorem bitsLen64.atj7 (n : Nat) (s : St) (K : Ex → St → Option (Kd.struct bitsLen64.con.rs).T) : (bitsLen64.lp n) false 7 (evK bitsLen64.env (bitsLen64.lp n) n (sub [1, 1, 1] bitsLen64.body)) bitsLen64.nmj7 K s = loops n (Kd.struct bitsLen64.con.rs).T false 7 (evK bitsLen64.env (bitsLen64.lp n) n (sub [1, 1, 1] bitsLen64.body)) bitsLen64.nmj7 K s := by
  show (match bitsLen64.shj7.dec s with | some v => bitsLen64.j7 n (fun w0 => K .ret (bitsLen64.outj7e1.enc (w0, ()))) v.1 v.2.1 | none => loops n (Kd.struct bitsLen64.con.rs).T false 7 (evK bitsLen64.env (bitsLen64.lp n) n (sub [1, 1, 1] bitsLen64.body)) bitsLen64.nmj7 K s) = _
  cases h : bitsLen64.shj7.dec s with
  | none => rfl
  | some v =>
    rw [Shp.dec_enc h]
    kernel_rfl
theorem bitsLen64.atj4 (n : Nat) (s : St) (K : Ex → St → Option (Kd.struct bitsLen64.con.rs).T) : (bitsLen64.lp n) false 4 (evK bitsLen64.env (bitsLen64.lp n) n (sub [1, 1] bitsLen64.body)) bitsLen64.nmj4 K s = loops n (Kd.struct bitsLen64.con.rs).T false 4 (evK bitsLen64.env (bitsLen64.lp n) n (sub [1, 1] bitsLen64.body)) bitsLen64.nmj4 K s := by
  show (match bitsLen64.shj4.dec s with | some v => bitsLen64.j4 n (fun w0 => K .ret (bitsLen64.outj4e1.enc (w0, ()))) v.1 v.2.1 | none => loops n (Kd.struct bitsLen64.con.rs).T false 4 (evK bitsLen64.env (bitsLen64.lp n) n (sub [1, 1] bitsLen64.body)) bitsLen64.nmj4 K s) = _
  cases h : bitsLen64.shj4.dec s with
  | none => rfl
  | some v =>
    rw [Shp.dec_enc h]
    kernel_rfl
theorem bitsLen64.eq (n : Nat) (x : (Kd.struct bitsLen64.con.ps).T) : evFunc bitsLen64.env Tryd.f91 bitsLen64.body bitsLen64.con.ps bitsLen64.con.rs (bitsLen64.lp n) n x = bitsLen64.con.f n x := by kernel_rfl
theorem bitsLen64.sound : Sound Tryd.prog globs 91 bitsLen64.con :=
  sound_by (E := bitsLen64.env) (c := bitsLen64.body) (envOk (G := globs) (lc := []) (lo := []) (envB_spec (by kernel_rfl)) rfl rfl trivial rfl trivial (by kernel_rfl) (by kernel_rfl)) Tryd.func91 (by kernel_rfl) bitsLen64.lp (l := [(false, sub [1, 1, 1] bitsLen64.body, bitsLen64.nmj7), (false, sub [1, 1] bitsLen64.body, bitsLen64.nmj4)]) (by kernel_rfl) (fun n => ⟨bitsLen64.atj7 n, ⟨bitsLen64.atj4 n, trivial⟩⟩) bitsLen64.eq
noncomputable def packSize (fu : Nat) (n : Int) : Option (Int × Unit) :=
  (bitsLen64 fu n).bind fun r1 =>
  let t2 := IntKind.i64.wrap (max2 r1.1 (1 : Int) + (6 : Int))
  let t3 := IntKind.i64.wrap (Int.tdiv t2 (7 : Int))
  some (t3, ())

noncomputable def packSize.body : Code := Tryd.f86.body.getD .skip
noncomputable def packSize.con : Con := { ps := [(.int .u64)], rs := [(.int .i64)], f := fun n x => packSize n x.1 }
noncomputable def packSize.env : Env := { tys := [(3, ⟨(.int .i64), 8⟩)], elems := [], ptrs := [], cons := [(91, bitsLen64.con)], objs := [], loops := [], cuts := [], globs := globs, base := 0 }
noncomputable def packSize.lp (n : Nat) : LP (Kd.struct packSize.con.rs).T := fun lo κ body nm K s =>
  loops n (Kd.struct packSize.con.rs).T lo κ body nm K s
theorem packSize.eq (n : Nat) (x : (Kd.struct packSize.con.ps).T) : evFunc packSize.env Tryd.f86 packSize.body packSize.con.ps packSize.con.rs (packSize.lp n) n x = packSize.con.f n x := by kernel_rfl
theorem packSize.sound : Sound Tryd.prog globs 86 packSize.con :=
  sound_by (E := packSize.env) (c := packSize.body) (envOk (G := globs) (lc := [(91, bitsLen64.con)]) (lo := []) (envB_spec (by kernel_rfl)) rfl rfl ⟨.inl ⟨bitsLen64.sound, by kernel_rfl⟩, trivial⟩ rfl trivial (by kernel_rfl) (by kernel_rfl)) Tryd.func86 (by kernel_rfl) packSize.lp (l := []) (by kernel_rfl) (fun n => trivial) packSize.eq
noncomputable def packOwn (fu : Nat) (b : List Int) (room : Int) : Option (((List Int) × Unit) × (Unit)) :=
  let t1 := IntKind.i64.wrap ((b.length : Int) + room)
  chk (mkOk (0 : Int) t1 1) <|
  let t2 := List.replicate (0 : Int).toNat (0 : Int)
  chk (apOk t2 b 1) <|
  some ((t2 ++ b, ()), (()))

noncomputable def packOwn.body : Code := Tryd.f79.body.getD .skip
noncomputable def packOwn.con : OCon := { ps := [.dat (.slice (.int .u8)), .dat (.int .i64)], rs := [.own (.int .u8)], f := fun n x => packOwn n x.1 x.2.1 }
noncomputable def packOwn.env : Env := { tys := [(56, ⟨(.slice (.int .u8)), 24⟩), (5, ⟨(.int .u8), 1⟩)], elems := [(56, 5)], ptrs := [], cons := [], objs := [], loops := [], cuts := [], globs := globs, base := 0 }
noncomputable def packOwn.lp (n : Nat) : LP (RT packOwn.con.rs × BT packOwn.con.ps) := fun lo κ body nm K s =>
  loops n (RT packOwn.con.rs × BT packOwn.con.ps) lo κ body nm K s
theorem packOwn.eq (n : Nat) (x : PT packOwn.con.ps) : evFuncO packOwn.env Tryd.f79 packOwn.body packOwn.con.ps packOwn.con.rs (packOwn.lp n) n x = packOwn.con.f n x := by kernel_rfl
theorem packOwn.sound : SoundO Tryd.prog globs 79 packOwn.con :=
  sound_byO (E := packOwn.env) (c := packOwn.body) (envOk (G := globs) (lc := []) (lo := []) (envB_spec (by kernel_rfl)) rfl rfl trivial rfl trivial (by kernel_rfl) (by kernel_rfl)) Tryd.func79 (by kernel_rfl) (by kernel_rfl) (by kernel_rfl) packOwn.lp (l := []) (by kernel_rfl) (fun n => trivial) packOwn.eq
noncomputable def packPut.b2 (fu : Nat) (next : Int → (List Int) → Option (((List Int) × Unit) × (Unit))) (k2 : Int → (List Int) → Option (((List Int) × Unit) × (Unit))) (n : Int) (out : List Int) : Option (((List Int) × Unit) × (Unit)) :=
  cond (decide (n ≥ (128 : Int))) (
    let t1 := bOr .u8 (IntKind.u8.wrap n) (128 : Int)
    chk (apOk out ([t1]) 1) <|
    next (sShr .u64 n (7 : Int)) (out ++ ([t1]))) (
    k2 n out)
noncomputable def packPut.l2 (fu : Nat) (k2 : Int → (List Int) → Option (((List Int) × Unit) × (Unit))) : Nat → Int → (List Int) → Option (((List Int) × Unit) × (Unit))
  | 0, _, _ => none
  | m + 1, n, out => packPut.b2 fu (packPut.l2 fu k2 m) k2 n out
noncomputable def packPut (fu : Nat) (b : List Int) (n : Int) : Option (((List Int) × Unit) × (Unit)) :=
  (packSize fu n).bind fun r1 =>
  (packOwn fu b r1.1).bind fun r2 =>
  packPut.l2 fu (fun nq2 outq2 => 
      chk (apOk outq2 ([IntKind.u8.wrap nq2]) 1) <|
      let t3 := outq2 ++ ([IntKind.u8.wrap nq2])
      some ((t3, ()), (()))) fu n r2.1.1

noncomputable def packPut.body : Code := Tryd.f78.body.getD .skip
abbrev packPut.shl2 : Shp := ⟨[.u, .d (.int .u64), .u, .u, .u, .o 5 (.int .u8), .u, .u, .u, .u, .u, .u, .u, .u, .u, .u, .u, .u, .u, .u, .u, .u, .u, .u, .u], []⟩
abbrev packPut.outl2e2 : Shp := ⟨[.u, .d (.int .u64), .u, .u, .u, .o 5 (.int .u8), .u, .u, .u, .u, .u, .u, .u, .u, .u, .u, .u, .u, .u, .u, .u, .u, .u, .u, .u], []⟩
noncomputable def packPut.nml2 : Norm := ⟨{ keep := [1, 5], shut := [(1, (.int .u64))], retag := [(5, 5, (.int .u8))], heap := 0, dead := [], cshut := [], cretag := [] }, [(2, { keep := [1, 5], shut := [(1, (.int .u64))], retag := [(5, 5, (.int .u8))], heap := 0, dead := [], cshut := [], cretag := [] })]⟩
noncomputable def packPut.con : OCon := { ps := [.dat (.slice (.int .u8)), .dat (.int .u64)], rs := [.own (.int .u8)], f := fun n x => packPut n x.1 x.2.1 }
noncomputable def packPut.env : Env := { tys := [(56, ⟨(.slice (.int .u8)), 24⟩), (5, ⟨(.int .u8), 1⟩), (41, ⟨(.int .u64), 8⟩)], elems := [(56, 5)], ptrs := [], cons := [(86, packSize.con)], objs := [(79, [packOwn.con])], loops := [(2, packPut.nml2)], cuts := [], globs := globs, base := 0 }
noncomputable def packPut.lp (n : Nat) : LP (RT packPut.con.rs × BT packPut.con.ps) := fun lo κ body nm K s =>
  cond (lo && Nat.beq κ 2)
    (match packPut.shl2.dec s with
    | some v => packPut.l2 n (fun w0 w1 => K (.exit 0) (packPut.outl2e2.enc (w0, w1, ()))) n v.1 v.2.1
    | none => loops n (RT packPut.con.rs × BT packPut.con.ps) lo κ body nm K s)
    (loops n (RT packPut.con.rs × BT packPut.con.ps) lo κ body nm K s)
theorem packPut.atl2 (n : Nat) (s : St) (K : Ex → St → Option (RT packPut.con.rs × BT packPut.con.ps)) : (packPut.lp n) true 2 (evK packPut.env (packPut.lp n) n (sub [1, 1, 0, 0, 0] packPut.body)) packPut.nml2 K s = loops n (RT packPut.con.rs × BT packPut.con.ps) true 2 (evK packPut.env (packPut.lp n) n (sub [1, 1, 0, 0, 0] packPut.body)) packPut.nml2 K s := by
  show (match packPut.shl2.dec s with | some v => packPut.l2 n (fun w0 w1 => K (.exit 0) (packPut.outl2e2.enc (w0, w1, ()))) n v.1 v.2.1 | none => loops n (RT packPut.con.rs × BT packPut.con.ps) true 2 (evK packPut.env (packPut.lp n) n (sub [1, 1, 0, 0, 0] packPut.body)) packPut.nml2 K s) = _
  cases h : packPut.shl2.dec s with
  | none => rfl
  | some v =>
    rw [Shp.dec_enc h]
    exact (evLoop_eq (sh := packPut.shl2) (body := evK packPut.env (packPut.lp n) n (sub [1, 1, 0, 0, 0] packPut.body)) (nm := packPut.nml2) (K := K) (b := fun nx v => packPut.b2 n (fun x0 x1 => nx (x0, x1, ())) (fun w0 w1 => K (.exit 0) (packPut.outl2e2.enc (w0, w1, ()))) v.1 v.2.1) (l := fun m v => packPut.l2 n (fun w0 w1 => K (.exit 0) (packPut.outl2e2.enc (w0, w1, ()))) m v.1 v.2.1) (fun _ => rfl) (fun _ _ => rfl) (fun m v => by kernel_rfl) n v).symm
theorem packPut.eq (n : Nat) (x : PT packPut.con.ps) : evFuncO packPut.env Tryd.f78 packPut.body packPut.con.ps packPut.con.rs (packPut.lp n) n x = packPut.con.f n x := by kernel_rfl
theorem packPut.sound : SoundO Tryd.prog globs 78 packPut.con :=
  sound_byO (E := packPut.env) (c := packPut.body) (envOk (G := globs) (lc := [(86, packSize.con)]) (lo := [(79, [packOwn.con])]) (envB_spec (by kernel_rfl)) rfl rfl ⟨.inl ⟨packSize.sound, by kernel_rfl⟩, trivial⟩ rfl ⟨⟨⟨packOwn.sound, trivial⟩, by kernel_rfl⟩, trivial⟩ (by kernel_rfl) (by kernel_rfl)) Tryd.func78 (by kernel_rfl) (by kernel_rfl) (by kernel_rfl) packPut.lp (l := [(true, sub [1, 1, 0, 0, 0] packPut.body, packPut.nml2)]) (by kernel_rfl) (fun n => ⟨packPut.atl2 n, trivial⟩) packPut.eq
noncomputable def packPutInt (fu : Nat) (b : List Int) (n : Int) : Option (((List Int) × Unit) × (Unit)) :=
  let t1 := sShl .u64 (IntKind.u64.wrap n) (1 : Int)
  let t2 := IntKind.u64.wrap (sShr .i64 n (63 : Int))
  (packPut fu b (bXor .u64 t1 t2)).bind fun r3 =>
  some ((r3.1.1, ()), (()))

noncomputable def packPutInt.body : Code := Tryd.f61.body.getD .skip
noncomputable def packPutInt.con : OCon := { ps := [.dat (.slice (.int .u8)), .dat (.int .i64)], rs := [.own (.int .u8)], f := fun n x => packPutInt n x.1 x.2.1 }
noncomputable def packPutInt.env : Env := { tys := [(56, ⟨(.slice (.int .u8)), 24⟩), (41, ⟨(.int .u64), 8⟩), (2, ⟨(.int .i64), 8⟩)], elems := [], ptrs := [], cons := [], objs := [(78, [packPut.con])], loops := [], cuts := [], globs := globs, base := 0 }
noncomputable def packPutInt.lp (n : Nat) : LP (RT packPutInt.con.rs × BT packPutInt.con.ps) := fun lo κ body nm K s =>
  loops n (RT packPutInt.con.rs × BT packPutInt.con.ps) lo κ body nm K s
theorem packPutInt.eq (n : Nat) (x : PT packPutInt.con.ps) : evFuncO packPutInt.env Tryd.f61 packPutInt.body packPutInt.con.ps packPutInt.con.rs (packPutInt.lp n) n x = packPutInt.con.f n x := by kernel_rfl
theorem packPutInt.sound : SoundO Tryd.prog globs 61 packPutInt.con :=
  sound_byO (E := packPutInt.env) (c := packPutInt.body) (envOk (G := globs) (lc := []) (lo := [(78, [packPut.con])]) (envB_spec (by kernel_rfl)) rfl rfl trivial rfl ⟨⟨⟨packPut.sound, trivial⟩, by kernel_rfl⟩, trivial⟩ (by kernel_rfl) (by kernel_rfl)) Tryd.func61 (by kernel_rfl) (by kernel_rfl) (by kernel_rfl) packPutInt.lp (l := []) (by kernel_rfl) (fun n => trivial) packPutInt.eq
noncomputable def realBits (fu : Nat) (xv : Nat) : Option (Int × Unit) :=
  cond (fNeq xv xv) (
    some ((9221120237041090560 : Int), ())) (
    (extBits.f fu (xv, ())).bind fun r1 =>
    some (r1.1, ()))

noncomputable def realBits.body : Code := Tryd.f77.body.getD .skip
noncomputable def realBits.con : Con := { ps := [.flt], rs := [(.int .u64)], f := fun n x => realBits n x.1 }
noncomputable def realBits.env : Env := { tys := [(41, ⟨(.int .u64), 8⟩)], elems := [], ptrs := [], cons := [(52, extBits)], objs := [], loops := [], cuts := [], globs := globs, base := 0 }
noncomputable def realBits.lp (n : Nat) : LP (Kd.struct realBits.con.rs).T := fun lo κ body nm K s =>
  loops n (Kd.struct realBits.con.rs).T lo κ body nm K s
theorem realBits.eq (n : Nat) (x : (Kd.struct realBits.con.ps).T) : evFunc realBits.env Tryd.f77 realBits.body realBits.con.ps realBits.con.rs (realBits.lp n) n x = realBits.con.f n x := by kernel_rfl
theorem realBits.sound : Sound Tryd.prog globs 77 realBits.con :=
  sound_by (E := realBits.env) (c := realBits.body) (envOk (G := globs) (lc := [(52, extBits)]) (lo := []) (envB_spec (by kernel_rfl)) rfl rfl ⟨.inr (extBits_ok Tryd.func52 (by kernel_rfl) (by kernel_rfl) (by kernel_rfl) (by kernel_rfl)), trivial⟩ rfl trivial (by kernel_rfl) (by kernel_rfl)) Tryd.func77 (by kernel_rfl) realBits.lp (l := []) (by kernel_rfl) (fun n => trivial) realBits.eq
noncomputable def packPutReal.b4 (fu : Nat) (next : (List Int) → Int → Int → Option (((List Int) × Unit) × (Unit))) (k2 : (List Int) → Option (((List Int) × Unit) × (Unit))) (out : List Int) (n : Int) (i : Int) : Option (((List Int) × Unit) × (Unit)) :=
  cond (decide (i ≥ (0 : Int))) (
    chk (!decide (i < 0)) <|
    let t1 := IntKind.u8.wrap (sShr .u64 n i)
    chk (apOk out ([t1]) 1) <|
    let t2 := IntKind.i64.wrap (i - (8 : Int))
    next (out ++ ([t1])) n t2) (
    k2 out)
noncomputable def packPutReal.l4 (fu : Nat) (k2 : (List Int) → Option (((List Int) × Unit) × (Unit))) : Nat → (List Int) → Int → Int → Option (((List Int) × Unit) × (Unit))
  | 0, _, _, _ => none
  | m + 1, out, n, i => packPutReal.b4 fu (packPutReal.l4 fu k2 m) k2 out n i
noncomputable def packPutReal (fu : Nat) (b : List Int) (xv : Nat) : Option (((List Int) × Unit) × (Unit)) :=
  (packOwn fu b (8 : Int)).bind fun r1 =>
  (realBits fu xv).bind fun r2 =>
  packPutReal.l4 fu (fun outq2 => 
      some ((outq2, ()), (()))) fu r1.1.1 r2.1 (56 : Int)

noncomputable def packPutReal.body : Code := Tryd.f62.body.getD .skip
abbrev packPutReal.shl4 : Shp := ⟨[.u, .u, .u, .u, .u, .o 5 (.int .u8), .d (.int .u64), .d (.int .i64), .u, .u, .u, .u, .u, .u, .u, .u, .u, .u, .u, .u, .u, .u, .u, .u], []⟩
abbrev packPutReal.outl4e2 : Shp := ⟨[.u, .u, .u, .u, .u, .o 5 (.int .u8), .u, .u, .u, .u, .u, .u, .u, .u, .u, .u, .u, .u, .u, .u, .u, .u, .u, .u], []⟩
noncomputable def packPutReal.nml4 : Norm := ⟨{ keep := [5, 6, 7], shut := [(6, (.int .u64)), (7, (.int .i64))], retag := [(5, 5, (.int .u8))], heap := 0, dead := [], cshut := [], cretag := [] }, [(2, { keep := [5], shut := [], retag := [(5, 5, (.int .u8))], heap := 0, dead := [], cshut := [], cretag := [] })]⟩
noncomputable def packPutReal.con : OCon := { ps := [.dat (.slice (.int .u8)), .dat .flt], rs := [.own (.int .u8)], f := fun n x => packPutReal n x.1 x.2.1 }
noncomputable def packPutReal.env : Env := { tys := [(56, ⟨(.slice (.int .u8)), 24⟩), (3, ⟨(.int .i64), 8⟩), (5, ⟨(.int .u8), 1⟩), (41, ⟨(.int .u64), 8⟩)], elems := [(56, 5)], ptrs := [], cons := [(77, realBits.con)], objs := [(79, [packOwn.con])], loops := [(4, packPutReal.nml4)], cuts := [], globs := globs, base := 0 }
noncomputable def packPutReal.lp (n : Nat) : LP (RT packPutReal.con.rs × BT packPutReal.con.ps) := fun lo κ body nm K s =>
  cond (lo && Nat.beq κ 4)
    (match packPutReal.shl4.dec s with
    | some v => packPutReal.l4 n (fun w0 => K (.exit 0) (packPutReal.outl4e2.enc (w0, ()))) n v.1 v.2.1 v.2.2.1
    | none => loops n (RT packPutReal.con.rs × BT packPutReal.con.ps) lo κ body nm K s)
    (loops n (RT packPutReal.con.rs × BT packPutReal.con.ps) lo κ body nm K s)
theorem packPutReal.atl4 (n : Nat) (s : St) (K : Ex → St → Option (RT packPutReal.con.rs × BT packPutReal.con.ps)) : (packPutReal.lp n) true 4 (evK packPutReal.env (packPutReal.lp n) n (sub [1, 1, 1, 0, 1, 0, 0] packPutReal.body)) packPutReal.nml4 K s = loops n (RT packPutReal.con.rs × BT packPutReal.con.ps) true 4 (evK packPutReal.env (packPutReal.lp n) n (sub [1, 1, 1, 0, 1, 0, 0] packPutReal.body)) packPutReal.nml4 K s := by
  show (match packPutReal.shl4.dec s with | some v => packPutReal.l4 n (fun w0 => K (.exit 0) (packPutReal.outl4e2.enc (w0, ()))) n v.1 v.2.1 v.2.2.1 | none => loops n (RT packPutReal.con.rs × BT packPutReal.con.ps) true 4 (evK packPutReal.env (packPutReal.lp n) n (sub [1, 1, 1, 0, 1, 0, 0] packPutReal.body)) packPutReal.nml4 K s) = _
  cases h : packPutReal.shl4.dec s with
  | none => rfl
  | some v =>
    rw [Shp.dec_enc h]
    exact (evLoop_eq (sh := packPutReal.shl4) (body := evK packPutReal.env (packPutReal.lp n) n (sub [1, 1, 1, 0, 1, 0, 0] packPutReal.body)) (nm := packPutReal.nml4) (K := K) (b := fun nx v => packPutReal.b4 n (fun x0 x1 x2 => nx (x0, x1, x2, ())) (fun w0 => K (.exit 0) (packPutReal.outl4e2.enc (w0, ()))) v.1 v.2.1 v.2.2.1) (l := fun m v => packPutReal.l4 n (fun w0 => K (.exit 0) (packPutReal.outl4e2.enc (w0, ()))) m v.1 v.2.1 v.2.2.1) (fun _ => rfl) (fun _ _ => rfl) (fun m v => by kernel_rfl) n v).symm
theorem packPutReal.eq (n : Nat) (x : PT packPutReal.con.ps) : evFuncO packPutReal.env Tryd.f62 packPutReal.body packPutReal.con.ps packPutReal.con.rs (packPutReal.lp n) n x = packPutReal.con.f n x := by kernel_rfl
theorem packPutReal.sound : SoundO Tryd.prog globs 62 packPutReal.con :=
  sound_byO (E := packPutReal.env) (c := packPutReal.body) (envOk (G := globs) (lc := [(77, realBits.con)]) (lo := [(79, [packOwn.con])]) (envB_spec (by kernel_rfl)) rfl rfl ⟨.inl ⟨realBits.sound, by kernel_rfl⟩, trivial⟩ rfl ⟨⟨⟨packOwn.sound, trivial⟩, by kernel_rfl⟩, trivial⟩ (by kernel_rfl) (by kernel_rfl)) Tryd.func62 (by kernel_rfl) (by kernel_rfl) (by kernel_rfl) packPutReal.lp (l := [(true, sub [1, 1, 1, 0, 1, 0, 0] packPutReal.body, packPutReal.nml4)]) (by kernel_rfl) (fun n => ⟨packPutReal.atl4 n, trivial⟩) packPutReal.eq
noncomputable def packPutText (fu : Nat) (b : List Int) (sv : List Int) : Option (((List Int) × Unit) × (Unit)) :=
  let t1 := IntKind.u64.wrap (sv.length : Int)
  (packPut fu b t1).bind fun r2 =>
  chk (apOk r2.1.1 sv 1) <|
  some ((r2.1.1 ++ sv, ()), (()))

noncomputable def packPutText.body : Code := Tryd.f63.body.getD .skip
noncomputable def packPutText.con : OCon := { ps := [.dat (.slice (.int .u8)), .dat .str], rs := [.own (.int .u8)], f := fun n x => packPutText n x.1 x.2.1 }
noncomputable def packPutText.env : Env := { tys := [(56, ⟨(.slice (.int .u8)), 24⟩), (9, ⟨.str, 16⟩), (41, ⟨(.int .u64), 8⟩), (3, ⟨(.int .i64), 8⟩), (5, ⟨(.int .u8), 1⟩)], elems := [(56, 5)], ptrs := [], cons := [], objs := [(78, [packPut.con])], loops := [], cuts := [], globs := globs, base := 0 }
noncomputable def packPutText.lp (n : Nat) : LP (RT packPutText.con.rs × BT packPutText.con.ps) := fun lo κ body nm K s =>
  loops n (RT packPutText.con.rs × BT packPutText.con.ps) lo κ body nm K s
theorem packPutText.eq (n : Nat) (x : PT packPutText.con.ps) : evFuncO packPutText.env Tryd.f63 packPutText.body packPutText.con.ps packPutText.con.rs (packPutText.lp n) n x = packPutText.con.f n x := by kernel_rfl
theorem packPutText.sound : SoundO Tryd.prog globs 63 packPutText.con :=
  sound_byO (E := packPutText.env) (c := packPutText.body) (envOk (G := globs) (lc := []) (lo := [(78, [packPut.con])]) (envB_spec (by kernel_rfl)) rfl rfl trivial rfl ⟨⟨⟨packPut.sound, trivial⟩, by kernel_rfl⟩, trivial⟩ (by kernel_rfl) (by kernel_rfl)) Tryd.func63 (by kernel_rfl) (by kernel_rfl) (by kernel_rfl) packPutText.lp (l := []) (by kernel_rfl) (fun n => trivial) packPutText.eq
noncomputable def valuePut (fu : Nat) (b : List Int) (v : S1) : Option (((List Int) × Int × Unit) × (Unit)) :=
  (valueMay fu v).bind fun r1 =>
  cond (!r1.1) (
    some (([], (1 : Int), ()), (()))) (
    let t2 := IntKind.i64.wrap ((b.length : Int) + (1 : Int))
    chk (mkOk (0 : Int) t2 1) <|
    let t3 := List.replicate (0 : Int).toNat (0 : Int)
    chk (apOk t3 b 1) <|
    chk (apOk (t3 ++ b) ([v.1]) 1) <|
    cond (v.1 == (1 : Int)) (
      (packPutInt fu ((t3 ++ b) ++ ([v.1])) v.2.1).bind fun r4 =>
      some ((r4.1.1, (0 : Int), ()), (()))) (
      cond (v.1 == (2 : Int)) (
        (packPutReal fu ((t3 ++ b) ++ ([v.1])) v.2.2.1).bind fun r5 =>
        some ((r5.1.1, (0 : Int), ()), (()))) (
        cond (v.1 == (3 : Int)) (
          (packPutText fu ((t3 ++ b) ++ ([v.1])) v.2.2.2.1).bind fun r6 =>
          some ((r6.1.1, (0 : Int), ()), (()))) (
          some (((t3 ++ b) ++ ([v.1]), (0 : Int), ()), (()))))))

noncomputable def valuePut.body : Code := Tryd.f42.body.getD .skip
noncomputable def valuePut.con : OCon := { ps := [.dat (.slice (.int .u8)), .dat kS1], rs := [.own (.int .u8), .dat (.int .i64)], f := fun n x => valuePut n x.1 x.2.1 }
noncomputable def valuePut.env : Env := { tys := [(46, ⟨kS1, 40⟩), (56, ⟨(.slice (.int .u8)), 24⟩), (57, ⟨(.int .i64), 8⟩), (5, ⟨(.int .u8), 1⟩), (2, ⟨(.int .i64), 8⟩), (44, ⟨.flt, 8⟩), (9, ⟨.str, 16⟩)], elems := [(56, 5)], ptrs := [], cons := [(47, valueMay.con)], objs := [(61, [packPutInt.con]), (62, [packPutReal.con]), (63, [packPutText.con])], loops := [], cuts := [], globs := globs, base := 0 }
noncomputable def valuePut.lp (n : Nat) : LP (RT valuePut.con.rs × BT valuePut.con.ps) := fun lo κ body nm K s =>
  loops n (RT valuePut.con.rs × BT valuePut.con.ps) lo κ body nm K s
theorem valuePut.eq (n : Nat) (x : PT valuePut.con.ps) : evFuncO valuePut.env Tryd.f42 valuePut.body valuePut.con.ps valuePut.con.rs (valuePut.lp n) n x = valuePut.con.f n x := by kernel_rfl
theorem valuePut.sound : SoundO Tryd.prog globs 42 valuePut.con :=
  sound_byO (E := valuePut.env) (c := valuePut.body) (envOk (G := globs) (lc := [(47, valueMay.con)]) (lo := [(61, [packPutInt.con]), (62, [packPutReal.con]), (63, [packPutText.con])]) (envB_spec (by kernel_rfl)) rfl rfl ⟨.inl ⟨valueMay.sound, by kernel_rfl⟩, trivial⟩ rfl ⟨⟨⟨packPutInt.sound, trivial⟩, by kernel_rfl⟩, ⟨⟨⟨packPutReal.sound, trivial⟩, by kernel_rfl⟩, ⟨⟨⟨packPutText.sound, trivial⟩, by kernel_rfl⟩, trivial⟩⟩⟩ (by kernel_rfl) (by kernel_rfl)) Tryd.func42 (by kernel_rfl) (by kernel_rfl) (by kernel_rfl) valuePut.lp (l := []) (by kernel_rfl) (fun n => trivial) valuePut.eq
noncomputable def predPutDat.b9 (fu : Nat) (next : (List Int) → (List S2) → Int → Int → Option ((List Int) × Int × Unit)) (k2 : (List Int) → Option ((List Int) × Int × Unit)) (out : List Int) (v : List S2) (vx2 : Int) (vx3 : Int) : Option ((List Int) × Int × Unit) :=
  cond (decide (vx3 < vx2)) (
    chk (ixOk v vx3) <|
    let e1 := ixL ((0 : Int), (0 : Int), ((0 : Int), (0 : Int), (0 : Nat), [], ()), ()) v vx3
    chk (apOk out ([e1.1, e1.2.1]) 1) <|
    (valuePut fu (out ++ ([e1.1, e1.2.1])) e1.2.2.1).bind fun r2 =>
    let t3 := IntKind.i64.wrap (vx3 + (1 : Int))
    next r2.1.1 v vx2 t3) (
    k2 out)
noncomputable def predPutDat.l9 (fu : Nat) (k2 : (List Int) → Option ((List Int) × Int × Unit)) : Nat → (List Int) → (List S2) → Int → Int → Option ((List Int) × Int × Unit)
  | 0, _, _, _, _ => none
  | m + 1, out, v, vx2, vx3 => predPutDat.b9 fu (predPutDat.l9 fu k2 m) k2 out v vx2 vx3
noncomputable def predPutDat.j8 (fu : Nat) (k1 : (List Int) → Int → Option ((List Int) × Int × Unit)) (out : List Int) (b0 : S3) : Option ((List Int) × Int × Unit) :=
  predPutDat.l9 fu (fun outq4 => 
      k1 outq4 (0 : Int)) fu out b0.2.2.1 (b0.2.2.1.length : Int) (0 : Int)
noncomputable def predPutDat (fu : Nat) (b : List Int) (p : S3) : Option ((List Int) × Int × Unit) :=
  (predMay fu p).bind fun r1 =>
  cond (!r1.1) (
    some ([], (1 : Int), ())) (
    let t2 := IntKind.i64.wrap ((16 : Int) * (p.2.2.1.length : Int))
    (slicesClone fu b).bind fun r3 =>
    cond p.1 (
      let t4 := IntKind.u8.wrap (IntKind.u8.wrap t2 + (1 : Int))
      chk (apOk r3.1.1 ([t4]) 1) <|
      predPutDat.j8 fu (fun vq1 vq1x2 => 
          some (vq1, vq1x2, ())) (r3.1.1 ++ ([t4])) p) (
      let t5 := [IntKind.u8.wrap t2, p.2.1]
      chk (apOk r3.1.1 t5 1) <|
      predPutDat.j8 fu (fun vq2 vq2x2 => 
          some (vq2, vq2x2, ())) (r3.1.1 ++ t5) p))

noncomputable def predPutDat.body : Code := Tryd.f20.body.getD .skip
abbrev predPutDat.shl9 : Shp := ⟨[.u, .u, .u, .u, .u, .u, .u, .o 7 (.int .u8), .u, .u, .u, .u, .u, .u, .u, .u, .u, .u, .u, .u, .u, .u, .u, .u, .u, .u, .u, .u, .u, .u, .u, .u, .u, .u, .d (.slice kS2), .d (.int .i64), .d (.int .i64), .u, .u, .u, .u, .u, .u, .u, .u, .u, .u, .u, .u, .u, .u, .u, .u, .u, .u], []⟩
abbrev predPutDat.outl9e2 : Shp := ⟨[.u, .u, .u, .u, .u, .u, .u, .o 7 (.int .u8), .u, .u, .u, .u, .u, .u, .u, .u, .u, .u, .u, .u, .u, .u, .u, .u, .u, .u, .u, .u, .u, .u, .u, .u, .u, .u, .u, .u, .u, .u, .u, .u, .u, .u, .u, .u, .u, .u, .u, .u, .u, .u, .u, .u, .u, .u, .u], []⟩
noncomputable def predPutDat.nml9 : Norm := ⟨{ keep := [7, 34, 35, 36], shut := [(34, (.slice kS2)), (35, (.int .i64)), (36, (.int .i64))], retag := [(7, 7, (.int .u8))], heap := 0, dead := [], cshut := [], cretag := [] }, [(2, { keep := [7], shut := [], retag := [(7, 7, (.int .u8))], heap := 0, dead := [], cshut := [], cretag := [] })]⟩
abbrev predPutDat.shj8 : Shp := ⟨[.u, .u, .u, .p 0 0, .u, .u, .u, .o 7 (.int .u8), .u, .u, .u, .u, .u, .u, .u, .u, .u, .u, .u, .u, .u, .u, .u, .u, .u, .u, .u, .u, .u, .u, .u, .u, .u, .u, .u, .u, .u, .u, .u, .u, .u, .u, .u, .u, .u, .u, .u, .u, .u, .u, .u, .u, .u, .u, .u], [.c [.g kS3]]⟩
abbrev predPutDat.outj8e1 : Shp := ⟨[.u, .u, .u, .u, .o 4 (.int .u8), .d (.int .i64), .u, .u, .u, .u, .u, .u, .u, .u, .u, .u, .u, .u, .u, .u, .u, .u, .u, .u, .u, .u, .u, .u, .u, .u, .u, .u, .u, .u, .u, .u, .u, .u, .u, .u, .u, .u, .u, .u, .u, .u, .u, .u, .u, .u, .u, .u, .u, .u, .u], []⟩
noncomputable def predPutDat.nmj8 : Norm := ⟨{ keep := [3, 7], shut := [], retag := [(7, 7, (.int .u8))], heap := 1, dead := [], cshut := [(0, 0, .bool), (0, 1, (.int .u8)), (0, 2, (.slice kS2))], cretag := [] }, [(1, { keep := [4, 5], shut := [(5, (.int .i64))], retag := [(4, 4, (.int .u8))], heap := 0, dead := [], cshut := [], cretag := [] })]⟩
noncomputable def predPutDat.con : Con := { ps := [(.slice (.int .u8)), kS3], rs := [(.slice (.int .u8)), (.int .i64)], f := fun n x => predPutDat n x.1 x.2.1 }
noncomputable def predPutDat.env : Env := { tys := [(30, ⟨kS3, 32⟩), (56, ⟨(.slice (.int .u8)), 24⟩), (57, ⟨(.int .i64), 8⟩), (28, ⟨(.slice kS2), 24⟩), (50, ⟨kS2, 48⟩), (5, ⟨(.int .u8), 1⟩), (3, ⟨(.int .i64), 8⟩), (4, ⟨.bool, 1⟩), (46, ⟨kS1, 40⟩)], elems := [(28, 50), (56, 5)], ptrs := [], cons := [(12, predMay.con)], objs := [(41, [slicesClone.con]), (42, [valuePut.con])], loops := [(9, predPutDat.nml9)], cuts := [(8, predPutDat.nmj8)], globs := globs, base := 0 }
noncomputable def predPutDat.lp (n : Nat) : LP (Kd.struct predPutDat.con.rs).T := fun lo κ body nm K s =>
  cond (lo && Nat.beq κ 9)
    (match predPutDat.shl9.dec s with
    | some v => predPutDat.l9 n (fun w0 => K (.exit 0) (predPutDat.outl9e2.enc (w0, ()))) n v.1 v.2.1 v.2.2.1 v.2.2.2.1
    | none => loops n (Kd.struct predPutDat.con.rs).T lo κ body nm K s)
    (cond (!lo && Nat.beq κ 8)
    (match predPutDat.shj8.dec s with
    | some v => predPutDat.j8 n (fun w0 w1 => K .ret (predPutDat.outj8e1.enc (w0, w1, ()))) v.1 v.2.1
    | none => loops n (Kd.struct predPutDat.con.rs).T lo κ body nm K s)
    (loops n (Kd.struct predPutDat.con.rs).T lo κ body nm K s))
theorem predPutDat.atl9 (n : Nat) (s : St) (K : Ex → St → Option (Kd.struct predPutDat.con.rs).T) : (predPutDat.lp n) true 9 (evK predPutDat.env (predPutDat.lp n) n (sub [1, 1, 1, 1, 1, 0, 1, 0, 0] predPutDat.body)) predPutDat.nml9 K s = loops n (Kd.struct predPutDat.con.rs).T true 9 (evK predPutDat.env (predPutDat.lp n) n (sub [1, 1, 1, 1, 1, 0, 1, 0, 0] predPutDat.body)) predPutDat.nml9 K s := by
  show (match predPutDat.shl9.dec s with | some v => predPutDat.l9 n (fun w0 => K (.exit 0) (predPutDat.outl9e2.enc (w0, ()))) n v.1 v.2.1 v.2.2.1 v.2.2.2.1 | none => loops n (Kd.struct predPutDat.con.rs).T true 9 (evK predPutDat.env (predPutDat.lp n) n (sub [1, 1, 1, 1, 1, 0, 1, 0, 0] predPutDat.body)) predPutDat.nml9 K s) = _
  cases h : predPutDat.shl9.dec s with
  | none => rfl
  | some v =>
    rw [Shp.dec_enc h]
    exact (evLoop_eq (sh := predPutDat.shl9) (body := evK predPutDat.env (predPutDat.lp n) n (sub [1, 1, 1, 1, 1, 0, 1, 0, 0] predPutDat.body)) (nm := predPutDat.nml9) (K := K) (b := fun nx v => predPutDat.b9 n (fun x0 x1 x2 x3 => nx (x0, x1, x2, x3, ())) (fun w0 => K (.exit 0) (predPutDat.outl9e2.enc (w0, ()))) v.1 v.2.1 v.2.2.1 v.2.2.2.1) (l := fun m v => predPutDat.l9 n (fun w0 => K (.exit 0) (predPutDat.outl9e2.enc (w0, ()))) m v.1 v.2.1 v.2.2.1 v.2.2.2.1) (fun _ => rfl) (fun _ _ => rfl) (fun m v => by kernel_rfl) n v).symm
theorem predPutDat.atj8 (n : Nat) (s : St) (K : Ex → St → Option (Kd.struct predPutDat.con.rs).T) : (predPutDat.lp n) false 8 (evK predPutDat.env (predPutDat.lp n) n (sub [1, 1, 1, 1, 1] predPutDat.body)) predPutDat.nmj8 K s = loops n (Kd.struct predPutDat.con.rs).T false 8 (evK predPutDat.env (predPutDat.lp n) n (sub [1, 1, 1, 1, 1] predPutDat.body)) predPutDat.nmj8 K s := by
  show (match predPutDat.shj8.dec s with | some v => predPutDat.j8 n (fun w0 w1 => K .ret (predPutDat.outj8e1.enc (w0, w1, ()))) v.1 v.2.1 | none => loops n (Kd.struct predPutDat.con.rs).T false 8 (evK predPutDat.env (predPutDat.lp n) n (sub [1, 1, 1, 1, 1] predPutDat.body)) predPutDat.nmj8 K s) = _
  cases h : predPutDat.shj8.dec s with
  | none => rfl
  | some v =>
    rw [Shp.dec_enc h]
    kernel_rfl
theorem predPutDat.eq (n : Nat) (x : (Kd.struct predPutDat.con.ps).T) : evFunc predPutDat.env Tryd.f20 predPutDat.body predPutDat.con.ps predPutDat.con.rs (predPutDat.lp n) n x = predPutDat.con.f n x := by kernel_rfl
theorem predPutDat.sound : Sound Tryd.prog globs 20 predPutDat.con :=
  sound_by (E := predPutDat.env) (c := predPutDat.body) (envOk (G := globs) (lc := [(12, predMay.con)]) (lo := [(41, [slicesClone.con]), (42, [valuePut.con])]) (envB_spec (by kernel_rfl)) rfl rfl ⟨.inl ⟨predMay.sound, by kernel_rfl⟩, trivial⟩ rfl ⟨⟨⟨slicesClone.sound, trivial⟩, by kernel_rfl⟩, ⟨⟨⟨valuePut.sound, trivial⟩, by kernel_rfl⟩, trivial⟩⟩ (by kernel_rfl) (by kernel_rfl)) Tryd.func20 (by kernel_rfl) predPutDat.lp (l := [(true, sub [1, 1, 1, 1, 1, 0, 1, 0, 0] predPutDat.body, predPutDat.nml9), (false, sub [1, 1, 1, 1, 1] predPutDat.body, predPutDat.nmj8)]) (by kernel_rfl) (fun n => ⟨predPutDat.atl9 n, ⟨predPutDat.atj8 n, trivial⟩⟩) predPutDat.eq
noncomputable def ref04May.j4 (fu : Nat) (k1 : Bool → Option (Bool × Unit)) (whole : Bool) (point : Bool) (text : Bool) (b0 : S1) : Option (Bool × Unit) :=
  let t1 := decide (b0.1 < (4 : Int))
  cond t1 (
    cond whole (
      cond point (
        cond text (
          let t2 := (b0.2.2.2.1.length : Int)
          let t3 := decide (t2 ≤ (255 : Int))
          k1 t3) (
          k1 false)) (
        k1 false)) (
      k1 false)) (
    k1 false)
noncomputable def ref04May.j3 (fu : Nat) (k1 : Bool → Option (Bool × Unit)) (whole : Bool) (point : Bool) (b0 : S1) : Option (Bool × Unit) :=
  let t1 := b0.2.2.2.1 == ([] : List Int)
  cond t1 (
    ref04May.j4 fu (fun vq3 => 
        k1 vq3) whole point true b0) (
    ref04May.j4 fu (fun vq4 => 
        k1 vq4) whole point (b0.1 == (3 : Int)) b0)
noncomputable def ref04May.j2 (fu : Nat) (k1 : Bool → Option (Bool × Unit)) (whole : Bool) (b0 : S1) : Option (Bool × Unit) :=
  (extBits.f fu (b0.2.2.1, ())).bind fun r1 =>
  cond (r1.1 == (0 : Int)) (
    ref04May.j3 fu (fun vq5 => 
        k1 vq5) whole true b0) (
    ref04May.j3 fu (fun vq6 => 
        k1 vq6) whole (b0.1 == (2 : Int)) b0)
noncomputable def ref04May (fu : Nat) (v : S1) : Option (Bool × Unit) :=
  cond (v.2.1 == (0 : Int)) (
    ref04May.j2 fu (fun vq1 => 
        some (vq1, ())) true v) (
    ref04May.j2 fu (fun vq2 => 
        some (vq2, ())) (v.1 == (1 : Int)) v)

noncomputable def ref04May.body : Code := Tryd.f32.body.getD .skip
abbrev ref04May.shj4 : Shp := ⟨[.u, .p 0 0, .u, .d .bool, .d .bool, .d .bool, .u, .u, .u, .u, .u, .u, .u, .u, .u, .u, .u, .u, .u, .u, .u, .u, .u, .u, .u, .u, .u, .u, .u, .u, .u, .u, .u, .u, .u, .u, .u, .u, .u, .u, .u, .u, .u, .u, .u, .u, .u, .u, .u], [.c [.g kS1]]⟩
abbrev ref04May.outj4e1 : Shp := ⟨[.u, .u, .d .bool, .u, .u, .u, .u, .u, .u, .u, .u, .u, .u, .u, .u, .u, .u, .u, .u, .u, .u, .u, .u, .u, .u, .u, .u, .u, .u, .u, .u, .u, .u, .u, .u, .u, .u, .u, .u, .u, .u, .u, .u, .u, .u, .u, .u, .u, .u], []⟩
noncomputable def ref04May.nmj4 : Norm := ⟨{ keep := [1, 3, 4, 5], shut := [(3, .bool), (4, .bool), (5, .bool)], retag := [], heap := 1, dead := [], cshut := [(0, 0, (.int .u8)), (0, 1, (.int .i64)), (0, 2, .flt), (0, 3, .str)], cretag := [] }, [(1, { keep := [2], shut := [(2, .bool)], retag := [], heap := 0, dead := [], cshut := [], cretag := [] })]⟩
abbrev ref04May.shj3 : Shp := ⟨[.u, .p 0 0, .u, .d .bool, .d .bool, .u, .u, .u, .u, .u, .u, .u, .u, .u, .u, .u, .u, .u, .u, .u, .u, .u, .u, .u, .u, .u, .u, .u, .u, .u, .u, .u, .u, .u, .u, .u, .u, .u, .u, .u, .u, .u, .u, .u, .u, .u, .u, .u, .u], [.c [.g kS1]]⟩
abbrev ref04May.outj3e1 : Shp := ⟨[.u, .u, .d .bool, .u, .u, .u, .u, .u, .u, .u, .u, .u, .u, .u, .u, .u, .u, .u, .u, .u, .u, .u, .u, .u, .u, .u, .u, .u, .u, .u, .u, .u, .u, .u, .u, .u, .u, .u, .u, .u, .u, .u, .u, .u, .u, .u, .u, .u, .u], []⟩
noncomputable def ref04May.nmj3 : Norm := ⟨{ keep := [1, 3, 4], shut := [(3, .bool), (4, .bool)], retag := [], heap := 1, dead := [], cshut := [(0, 0, (.int .u8)), (0, 1, (.int .i64)), (0, 2, .flt), (0, 3, .str)], cretag := [] }, [(1, { keep := [2], shut := [(2, .bool)], retag := [], heap := 0, dead := [], cshut := [], cretag := [] })]⟩
abbrev ref04May.shj2 : Shp := ⟨[.u, .p 0 0, .u, .d .bool, .u, .u, .u, .u, .u, .u, .u, .u, .u, .u, .u, .u, .u, .u, .u, .u, .u, .u, .u, .u, .u, .u, .u, .u, .u, .u, .u, .u, .u, .u, .u, .u, .u, .u, .u, .u, .u, .u, .u, .u, .u, .u, .u, .u, .u], [.c [.g kS1]]⟩
abbrev ref04May.outj2e1 : Shp := ⟨[.u, .u, .d .bool, .u, .u, .u, .u, .u, .u, .u, .u, .u, .u, .u, .u, .u, .u, .u, .u, .u, .u, .u, .u, .u, .u, .u, .u, .u, .u, .u, .u, .u, .u, .u, .u, .u, .u, .u, .u, .u, .u, .u, .u, .u, .u, .u, .u, .u, .u], []⟩
noncomputable def ref04May.nmj2 : Norm := ⟨{ keep := [1, 3], shut := [(3, .bool)], retag := [], heap := 1, dead := [], cshut := [(0, 0, (.int .u8)), (0, 1, (.int .i64)), (0, 2, .flt), (0, 3, .str)], cretag := [] }, [(1, { keep := [2], shut := [(2, .bool)], retag := [], heap := 0, dead := [], cshut := [], cretag := [] })]⟩
noncomputable def ref04May.con : Con := { ps := [kS1], rs := [.bool], f := fun n x => ref04May n x.1 }
noncomputable def ref04May.env : Env := { tys := [(46, ⟨kS1, 40⟩), (4, ⟨.bool, 1⟩), (2, ⟨(.int .i64), 8⟩), (5, ⟨(.int .u8), 1⟩), (44, ⟨.flt, 8⟩), (9, ⟨.str, 16⟩)], elems := [], ptrs := [], cons := [(52, extBits)], objs := [], loops := [], cuts := [(4, ref04May.nmj4), (3, ref04May.nmj3), (2, ref04May.nmj2)], globs := globs, base := 0 }
noncomputable def ref04May.lp (n : Nat) : LP (Kd.struct ref04May.con.rs).T := fun lo κ body nm K s =>
  cond (!lo && Nat.beq κ 4)
    (match ref04May.shj4.dec s with
    | some v => ref04May.j4 n (fun w0 => K .ret (ref04May.outj4e1.enc (w0, ()))) v.1 v.2.1 v.2.2.1 v.2.2.2.1
    | none => loops n (Kd.struct ref04May.con.rs).T lo κ body nm K s)
    (cond (!lo && Nat.beq κ 3)
    (match ref04May.shj3.dec s with
    | some v => ref04May.j3 n (fun w0 => K .ret (ref04May.outj3e1.enc (w0, ()))) v.1 v.2.1 v.2.2.1
    | none => loops n (Kd.struct ref04May.con.rs).T lo κ body nm K s)
    (cond (!lo && Nat.beq κ 2)
    (match ref04May.shj2.dec s with
    | some v => ref04May.j2 n (fun w0 => K .ret (ref04May.outj2e1.enc (w0, ()))) v.1 v.2.1
    | none => loops n (Kd.struct ref04May.con.rs).T lo κ body nm K s)
    (loops n (Kd.struct ref04May.con.rs).T lo κ body nm K s)))
theorem ref04May.atj4 (n : Nat) (s : St) (K : Ex → St → Option (Kd.struct ref04May.con.rs).T) : (ref04May.lp n) false 4 (evK ref04May.env (ref04May.lp n) n (sub [1, 1, 1, 1] ref04May.body)) ref04May.nmj4 K s = loops n (Kd.struct ref04May.con.rs).T false 4 (evK ref04May.env (ref04May.lp n) n (sub [1, 1, 1, 1] ref04May.body)) ref04May.nmj4 K s := by
  show (match ref04May.shj4.dec s with | some v => ref04May.j4 n (fun w0 => K .ret (ref04May.outj4e1.enc (w0, ()))) v.1 v.2.1 v.2.2.1 v.2.2.2.1 | none => loops n (Kd.struct ref04May.con.rs).T false 4 (evK ref04May.env (ref04May.lp n) n (sub [1, 1, 1, 1] ref04May.body)) ref04May.nmj4 K s) = _
  cases h : ref04May.shj4.dec s with
  | none => rfl
  | some v =>
    rw [Shp.dec_enc h]
    kernel_rfl
theorem ref04May.atj3 (n : Nat) (s : St) (K : Ex → St → Option (Kd.struct ref04May.con.rs).T) : (ref04May.lp n) false 3 (evK ref04May.env (ref04May.lp n) n (sub [1, 1, 1] ref04May.body)) ref04May.nmj3 K s = loops n (Kd.struct ref04May.con.rs).T false 3 (evK ref04May.env (ref04May.lp n) n (sub [1, 1, 1] ref04May.body)) ref04May.nmj3 K s := by
  show (match ref04May.shj3.dec s with | some v => ref04May.j3 n (fun w0 => K .ret (ref04May.outj3e1.enc (w0, ()))) v.1 v.2.1 v.2.2.1 | none => loops n (Kd.struct ref04May.con.rs).T false 3 (evK ref04May.env (ref04May.lp n) n (sub [1, 1, 1] ref04May.body)) ref04May.nmj3 K s) = _
  cases h : ref04May.shj3.dec s with
  | none => rfl
  | some v =>
    rw [Shp.dec_enc h]
    kernel_rfl
theorem ref04May.atj2 (n : Nat) (s : St) (K : Ex → St → Option (Kd.struct ref04May.con.rs).T) : (ref04May.lp n) false 2 (evK ref04May.env (ref04May.lp n) n (sub [1, 1] ref04May.body)) ref04May.nmj2 K s = loops n (Kd.struct ref04May.con.rs).T false 2 (evK ref04May.env (ref04May.lp n) n (sub [1, 1] ref04May.body)) ref04May.nmj2 K s := by
  show (match ref04May.shj2.dec s with | some v => ref04May.j2 n (fun w0 => K .ret (ref04May.outj2e1.enc (w0, ()))) v.1 v.2.1 | none => loops n (Kd.struct ref04May.con.rs).T false 2 (evK ref04May.env (ref04May.lp n) n (sub [1, 1] ref04May.body)) ref04May.nmj2 K s) = _
  cases h : ref04May.shj2.dec s with
  | none => rfl
  | some v =>
    rw [Shp.dec_enc h]
    kernel_rfl
theorem ref04May.eq (n : Nat) (x : (Kd.struct ref04May.con.ps).T) : evFunc ref04May.env Tryd.f32 ref04May.body ref04May.con.ps ref04May.con.rs (ref04May.lp n) n x = ref04May.con.f n x := by kernel_rfl
theorem ref04May.sound : Sound Tryd.prog globs 32 ref04May.con :=
  sound_by (E := ref04May.env) (c := ref04May.body) (envOk (G := globs) (lc := [(52, extBits)]) (lo := []) (envB_spec (by kernel_rfl)) rfl rfl ⟨.inr (extBits_ok Tryd.func52 (by kernel_rfl) (by kernel_rfl) (by kernel_rfl) (by kernel_rfl)), trivial⟩ rfl trivial (by kernel_rfl) (by kernel_rfl)) Tryd.func32 (by kernel_rfl) ref04May.lp (l := [(false, sub [1, 1, 1, 1] ref04May.body, ref04May.nmj4), (false, sub [1, 1, 1] ref04May.body, ref04May.nmj3), (false, sub [1, 1] ref04May.body, ref04May.nmj2)]) (by kernel_rfl) (fun n => ⟨ref04May.atj4 n, ⟨ref04May.atj3 n, ⟨ref04May.atj2 n, trivial⟩⟩⟩) ref04May.eq
noncomputable def ref10Right (fu : Nat) (tv : S2) : Option (Bool × Unit) :=
  let t1 := decide (tv.2.1 < (1 : Int))
  cond t1 (
    some (false, ())) (
    let t2 := decide (tv.2.1 > (8 : Int))
    cond t2 (
      some (false, ())) (
      (ref04May fu tv.2.2.1).bind fun r3 =>
      cond (!r3.1) (
        some (false, ())) (
        cond (tv.2.1 == (7 : Int)) (
          some (tv.2.2.1.1 == (0 : Int), ())) (
          cond (tv.2.1 == (8 : Int)) (
            some (tv.2.2.1.1 == (3 : Int), ())) (
            some (tv.2.2.1.1 != (0 : Int), ()))))))

noncomputable def ref10Right.body : Code := Tryd.f26.body.getD .skip
noncomputable def ref10Right.con : Con := { ps := [kS2], rs := [.bool], f := fun n x => ref10Right n x.1 }
noncomputable def ref10Right.env : Env := { tys := [(50, ⟨kS2, 48⟩), (4, ⟨.bool, 1⟩), (5, ⟨(.int .u8), 1⟩), (46, ⟨kS1, 40⟩)], elems := [], ptrs := [], cons := [(32, ref04May.con)], objs := [], loops := [], cuts := [], globs := globs, base := 0 }
noncomputable def ref10Right.lp (n : Nat) : LP (Kd.struct ref10Right.con.rs).T := fun lo κ body nm K s =>
  loops n (Kd.struct ref10Right.con.rs).T lo κ body nm K s
theorem ref10Right.eq (n : Nat) (x : (Kd.struct ref10Right.con.ps).T) : evFunc ref10Right.env Tryd.f26 ref10Right.body ref10Right.con.ps ref10Right.con.rs (ref10Right.lp n) n x = ref10Right.con.f n x := by kernel_rfl
theorem ref10Right.sound : Sound Tryd.prog globs 26 ref10Right.con :=
  sound_by (E := ref10Right.env) (c := ref10Right.body) (envOk (G := globs) (lc := [(32, ref04May.con)]) (lo := []) (envB_spec (by kernel_rfl)) rfl rfl ⟨.inl ⟨ref04May.sound, by kernel_rfl⟩, trivial⟩ rfl trivial (by kernel_rfl) (by kernel_rfl)) Tryd.func26 (by kernel_rfl) ref10Right.lp (l := []) (by kernel_rfl) (fun n => trivial) ref10Right.eq
noncomputable def ref10May.b2 (fu : Nat) (next : Int → Int → S3 → Option (Bool × Unit)) (k1 : Bool → Option (Bool × Unit)) (k2 : S3 → Option (Bool × Unit)) (v : Int) (vx2 : Int) (b0 : S3) : Option (Bool × Unit) :=
  cond (decide (vx2 < v)) (
    chk (ixOk b0.2.2.1 vx2) <|
    let e1 := ixL ((0 : Int), (0 : Int), ((0 : Int), (0 : Int), (0 : Nat), [], ()), ()) b0.2.2.1 vx2
    (ref10Right fu e1).bind fun r2 =>
    cond (!r2.1) (
      k1 false) (
      let t3 := IntKind.i64.wrap (vx2 + (1 : Int))
      next v t3 b0)) (
    k2 b0)
noncomputable def ref10May.l2 (fu : Nat) (k1 : Bool → Option (Bool × Unit)) (k2 : S3 → Option (Bool × Unit)) : Nat → Int → Int → S3 → Option (Bool × Unit)
  | 0, _, _, _ => none
  | m + 1, v, vx2, b0 => ref10May.b2 fu (ref10May.l2 fu k1 k2 m) k1 k2 v vx2 b0
noncomputable def ref10May (fu : Nat) (p : S3) : Option (Bool × Unit) :=
  ref10May.l2 fu (fun vq3 => 
      some (vq3, ())) (fun b0q4 => 
      let t1 := (b0q4.2.2.1.length : Int)
      cond (decide (t1 ≤ (4 : Int))) (
        cond b0q4.1 (
          some (!(b0q4.2.1 != (0 : Int)), ())) (
          some (true, ()))) (
        some (false, ()))) fu (p.2.2.1.length : Int) (0 : Int) p

noncomputable def ref10May.body : Code := Tryd.f13.body.getD .skip
abbrev ref10May.shl2 : Shp := ⟨[.u, .p 0 0, .u, .u, .u, .u, .d (.int .i64), .d (.int .i64), .u, .u, .u, .u, .u, .u, .u, .u, .u, .u, .u, .u, .u, .u, .u, .u, .u, .u, .u, .u, .u, .u, .u, .u], [.c [.g kS3]]⟩
abbrev ref10May.outl2e1 : Shp := ⟨[.u, .u, .d .bool, .u, .u, .u, .u, .u, .u, .u, .u, .u, .u, .u, .u, .u, .u, .u, .u, .u, .u, .u, .u, .u, .u, .u, .u, .u, .u, .u, .u, .u], []⟩
abbrev ref10May.outl2e2 : Shp := ⟨[.u, .p 0 0, .u, .u, .u, .u, .u, .u, .u, .u, .u, .u, .u, .u, .u, .u, .u, .u, .u, .u, .u, .u, .u, .u, .u, .u, .u, .u, .u, .u, .u, .u], [.c [.g kS3]]⟩
noncomputable def ref10May.nml2 : Norm := ⟨{ keep := [1, 6, 7], shut := [(6, (.int .i64)), (7, (.int .i64))], retag := [], heap := 1, dead := [], cshut := [(0, 0, .bool), (0, 1, (.int .u8)), (0, 2, (.slice kS2))], cretag := [] }, [(1, { keep := [2], shut := [(2, .bool)], retag := [], heap := 0, dead := [], cshut := [], cretag := [] }), (2, { keep := [1], shut := [], retag := [], heap := 1, dead := [], cshut := [(0, 0, .bool), (0, 1, (.int .u8)), (0, 2, (.slice kS2))], cretag := [] })]⟩
noncomputable def ref10May.con : Con := { ps := [kS3], rs := [.bool], f := fun n x => ref10May n x.1 }
noncomputable def ref10May.env : Env := { tys := [(30, ⟨kS3, 32⟩), (4, ⟨.bool, 1⟩), (28, ⟨(.slice kS2), 24⟩), (50, ⟨kS2, 48⟩), (3, ⟨(.int .i64), 8⟩), (5, ⟨(.int .u8), 1⟩)], elems := [(28, 50)], ptrs := [], cons := [(26, ref10Right.con)], objs := [], loops := [(2, ref10May.nml2)], cuts := [], globs := globs, base := 0 }
noncomputable def ref10May.lp (n : Nat) : LP (Kd.struct ref10May.con.rs).T := fun lo κ body nm K s =>
  cond (lo && Nat.beq κ 2)
    (match ref10May.shl2.dec s with
    | some v => ref10May.l2 n (fun w0 => K .ret (ref10May.outl2e1.enc (w0, ()))) (fun w0 => K (.exit 0) (ref10May.outl2e2.enc (w0, ()))) n v.1 v.2.1 v.2.2.1
    | none => loops n (Kd.struct ref10May.con.rs).T lo κ body nm K s)
    (loops n (Kd.struct ref10May.con.rs).T lo κ body nm K s)
theorem ref10May.atl2 (n : Nat) (s : St) (K : Ex → St → Option (Kd.struct ref10May.con.rs).T) : (ref10May.lp n) true 2 (evK ref10May.env (ref10May.lp n) n (sub [1, 0, 1, 0, 0] ref10May.body)) ref10May.nml2 K s = loops n (Kd.struct ref10May.con.rs).T true 2 (evK ref10May.env (ref10May.lp n) n (sub [1, 0, 1, 0, 0] ref10May.body)) ref10May.nml2 K s := by
  show (match ref10May.shl2.dec s with | some v => ref10May.l2 n (fun w0 => K .ret (ref10May.outl2e1.enc (w0, ()))) (fun w0 => K (.exit 0) (ref10May.outl2e2.enc (w0, ()))) n v.1 v.2.1 v.2.2.1 | none => loops n (Kd.struct ref10May.con.rs).T true 2 (evK ref10May.env (ref10May.lp n) n (sub [1, 0, 1, 0, 0] ref10May.body)) ref10May.nml2 K s) = _
  cases h : ref10May.shl2.dec s with
  | none => rfl
  | some v =>
    rw [Shp.dec_enc h]
    exact (evLoop_eq (sh := ref10May.shl2) (body := evK ref10May.env (ref10May.lp n) n (sub [1, 0, 1, 0, 0] ref10May.body)) (nm := ref10May.nml2) (K := K) (b := fun nx v => ref10May.b2 n (fun x0 x1 x2 => nx (x0, x1, x2, ())) (fun w0 => K .ret (ref10May.outl2e1.enc (w0, ()))) (fun w0 => K (.exit 0) (ref10May.outl2e2.enc (w0, ()))) v.1 v.2.1 v.2.2.1) (l := fun m v => ref10May.l2 n (fun w0 => K .ret (ref10May.outl2e1.enc (w0, ()))) (fun w0 => K (.exit 0) (ref10May.outl2e2.enc (w0, ()))) m v.1 v.2.1 v.2.2.1) (fun _ => rfl) (fun _ _ => rfl) (fun m v => by kernel_rfl) n v).symm
theorem ref10May.eq (n : Nat) (x : (Kd.struct ref10May.con.ps).T) : evFunc ref10May.env Tryd.f13 ref10May.body ref10May.con.ps ref10May.con.rs (ref10May.lp n) n x = ref10May.con.f n x := by kernel_rfl
theorem ref10May.sound : Sound Tryd.prog globs 13 ref10May.con :=
  sound_by (E := ref10May.env) (c := ref10May.body) (envOk (G := globs) (lc := [(26, ref10Right.con)]) (lo := []) (envB_spec (by kernel_rfl)) rfl rfl ⟨.inl ⟨ref10Right.sound, by kernel_rfl⟩, trivial⟩ rfl trivial (by kernel_rfl) (by kernel_rfl)) Tryd.func13 (by kernel_rfl) ref10May.lp (l := [(true, sub [1, 0, 1, 0, 0] ref10May.body, ref10May.nml2)]) (by kernel_rfl) (fun n => ⟨ref10May.atl2 n, trivial⟩) ref10May.eq
noncomputable def ref02OfBits (fu : Nat) (b : Int) : Option (S7 × Unit) :=
  let t1 := decide (b ≥ (9223372036854775808 : Int))
  let t2 := IntKind.u64.wrap (Int.tdiv b (4503599627370496 : Int))
  let t3 := IntKind.i64.wrap (Int.tmod t2 (2048 : Int))
  let t4 := Int.tmod b (4503599627370496 : Int)
  some ((t1, t3, t4, ()), ())

noncomputable def ref02OfBits.body : Code := Tryd.f56.body.getD .skip
noncomputable def ref02OfBits.con : Con := { ps := [(.int .u64)], rs := [kS7], f := fun n x => ref02OfBits n x.1 }
noncomputable def ref02OfBits.env : Env := { tys := [(76, ⟨kS7, 24⟩), (3, ⟨(.int .i64), 8⟩), (41, ⟨(.int .u64), 8⟩)], elems := [], ptrs := [], cons := [], objs := [], loops := [], cuts := [], globs := globs, base := 0 }
noncomputable def ref02OfBits.lp (n : Nat) : LP (Kd.struct ref02OfBits.con.rs).T := fun lo κ body nm K s =>
  loops n (Kd.struct ref02OfBits.con.rs).T lo κ body nm K s
theorem ref02OfBits.eq (n : Nat) (x : (Kd.struct ref02OfBits.con.ps).T) : evFunc ref02OfBits.env Tryd.f56 ref02OfBits.body ref02OfBits.con.ps ref02OfBits.con.rs (ref02OfBits.lp n) n x = ref02OfBits.con.f n x := by kernel_rfl
theorem ref02OfBits.sound : Sound Tryd.prog globs 56 ref02OfBits.con :=
  sound_by (E := ref02OfBits.env) (c := ref02OfBits.body) (envOk (G := globs) (lc := []) (lo := []) (envB_spec (by kernel_rfl)) rfl rfl trivial rfl trivial (by kernel_rfl) (by kernel_rfl)) Tryd.func56 (by kernel_rfl) ref02OfBits.lp (l := []) (by kernel_rfl) (fun n => trivial) ref02OfBits.eq
noncomputable def ref02Of (fu : Nat) (xv : Nat) : Option (S7 × Unit) :=
  (extBits.f fu (xv, ())).bind fun r1 =>
  (ref02OfBits fu r1.1).bind fun r2 =>
  some (r2.1, ())

noncomputable def ref02Of.body : Code := Tryd.f35.body.getD .skip
noncomputable def ref02Of.con : Con := { ps := [.flt], rs := [kS7], f := fun n x => ref02Of n x.1 }
noncomputable def ref02Of.env : Env := { tys := [(76, ⟨kS7, 24⟩)], elems := [], ptrs := [], cons := [(52, extBits), (56, ref02OfBits.con)], objs := [], loops := [], cuts := [], globs := globs, base := 0 }
noncomputable def ref02Of.lp (n : Nat) : LP (Kd.struct ref02Of.con.rs).T := fun lo κ body nm K s =>
  loops n (Kd.struct ref02Of.con.rs).T lo κ body nm K s
theorem ref02Of.eq (n : Nat) (x : (Kd.struct ref02Of.con.ps).T) : evFunc ref02Of.env Tryd.f35 ref02Of.body ref02Of.con.ps ref02Of.con.rs (ref02Of.lp n) n x = ref02Of.con.f n x := by kernel_rfl
theorem ref02Of.sound : Sound Tryd.prog globs 35 ref02Of.con :=
  sound_by (E := ref02Of.env) (c := ref02Of.body) (envOk (G := globs) (lc := [(52, extBits), (56, ref02OfBits.con)]) (lo := []) (envB_spec (by kernel_rfl)) rfl rfl ⟨.inr (extBits_ok Tryd.func52 (by kernel_rfl) (by kernel_rfl) (by kernel_rfl) (by kernel_rfl)), ⟨.inl ⟨ref02OfBits.sound, by kernel_rfl⟩, trivial⟩⟩ rfl trivial (by kernel_rfl) (by kernel_rfl)) Tryd.func35 (by kernel_rfl) ref02Of.lp (l := []) (by kernel_rfl) (fun n => trivial) ref02Of.eq
noncomputable def ref02PartsNaN (fu : Nat) (p : S7) : Option (Bool × Unit) :=
  cond (p.2.1 == (2047 : Int)) (
    some (p.2.2.1 != (0 : Int), ())) (
    some (false, ()))

noncomputable def ref02PartsNaN.body : Code := Tryd.f53.body.getD .skip
noncomputable def ref02PartsNaN.con : Con := { ps := [kS7], rs := [.bool], f := fun n x => ref02PartsNaN n x.1 }
noncomputable def ref02PartsNaN.env : Env := { tys := [(76, ⟨kS7, 24⟩), (4, ⟨.bool, 1⟩), (3, ⟨(.int .i64), 8⟩), (41, ⟨(.int .u64), 8⟩)], elems := [], ptrs := [], cons := [], objs := [], loops := [], cuts := [], globs := globs, base := 0 }
noncomputable def ref02PartsNaN.lp (n : Nat) : LP (Kd.struct ref02PartsNaN.con.rs).T := fun lo κ body nm K s =>
  loops n (Kd.struct ref02PartsNaN.con.rs).T lo κ body nm K s
theorem ref02PartsNaN.eq (n : Nat) (x : (Kd.struct ref02PartsNaN.con.ps).T) : evFunc ref02PartsNaN.env Tryd.f53 ref02PartsNaN.body ref02PartsNaN.con.ps ref02PartsNaN.con.rs (ref02PartsNaN.lp n) n x = ref02PartsNaN.con.f n x := by kernel_rfl
theorem ref02PartsNaN.sound : Sound Tryd.prog globs 53 ref02PartsNaN.con :=
  sound_by (E := ref02PartsNaN.env) (c := ref02PartsNaN.body) (envOk (G := globs) (lc := []) (lo := []) (envB_spec (by kernel_rfl)) rfl rfl trivial rfl trivial (by kernel_rfl) (by kernel_rfl)) Tryd.func53 (by kernel_rfl) ref02PartsNaN.lp (l := []) (by kernel_rfl) (fun n => trivial) ref02PartsNaN.eq
noncomputable def ref02PartsBits (fu : Nat) (p : S7) : Option (Int × Unit) :=
  (ref02PartsNaN fu p).bind fun r1 =>
  cond r1.1 (
    some ((9221120237041090560 : Int), ())) (
    let t2 := IntKind.u64.wrap (IntKind.u64.wrap p.2.1 * (4503599627370496 : Int))
    let t3 := IntKind.u64.wrap (t2 + p.2.2.1)
    cond p.1 (
      let t4 := IntKind.u64.wrap (t3 + (9223372036854775808 : Int))
      some (t4, ())) (
      some (t3, ())))

noncomputable def ref02PartsBits.body : Code := Tryd.f60.body.getD .skip
noncomputable def ref02PartsBits.con : Con := { ps := [kS7], rs := [(.int .u64)], f := fun n x => ref02PartsBits n x.1 }
noncomputable def ref02PartsBits.env : Env := { tys := [(76, ⟨kS7, 24⟩), (41, ⟨(.int .u64), 8⟩), (3, ⟨(.int .i64), 8⟩), (4, ⟨.bool, 1⟩)], elems := [], ptrs := [], cons := [(53, ref02PartsNaN.con)], objs := [], loops := [], cuts := [], globs := globs, base := 0 }
noncomputable def ref02PartsBits.lp (n : Nat) : LP (Kd.struct ref02PartsBits.con.rs).T := fun lo κ body nm K s =>
  loops n (Kd.struct ref02PartsBits.con.rs).T lo κ body nm K s
theorem ref02PartsBits.eq (n : Nat) (x : (Kd.struct ref02PartsBits.con.ps).T) : evFunc ref02PartsBits.env Tryd.f60 ref02PartsBits.body ref02PartsBits.con.ps ref02PartsBits.con.rs (ref02PartsBits.lp n) n x = ref02PartsBits.con.f n x := by kernel_rfl
theorem ref02PartsBits.sound : Sound Tryd.prog globs 60 ref02PartsBits.con :=
  sound_by (E := ref02PartsBits.env) (c := ref02PartsBits.body) (envOk (G := globs) (lc := [(53, ref02PartsNaN.con)]) (lo := []) (envB_spec (by kernel_rfl)) rfl rfl ⟨.inl ⟨ref02PartsNaN.sound, by kernel_rfl⟩, trivial⟩ rfl trivial (by kernel_rfl) (by kernel_rfl)) Tryd.func60 (by kernel_rfl) ref02PartsBits.lp (l := []) (by kernel_rfl) (fun n => trivial) ref02PartsBits.eq
noncomputable def ref03Put.b3 (fu : Nat) (next : Int → (List Int) → Option (((List Int) × Unit) × (Unit))) (k2 : Int → (List Int) → Option (((List Int) × Unit) × (Unit))) (n : Int) (out : List Int) : Option (((List Int) × Unit) × (Unit)) :=
  cond (decide (n ≥ (128 : Int))) (
    let t1 := IntKind.u64.wrap (Int.tmod n (128 : Int) + (128 : Int))
    chk (apOk out ([IntKind.u8.wrap t1]) 1) <|
    let t2 := out ++ ([IntKind.u8.wrap t1])
    let t3 := IntKind.u64.wrap (Int.tdiv n (128 : Int))
    next t3 t2) (
    k2 n out)
noncomputable def ref03Put.l3 (fu : Nat) (k2 : Int → (List Int) → Option (((List Int) × Unit) × (Unit))) : Nat → Int → (List Int) → Option (((List Int) × Unit) × (Unit))
  | 0, _, _ => none
  | m + 1, n, out => ref03Put.b3 fu (ref03Put.l3 fu k2 m) k2 n out
noncomputable def ref03Put (fu : Nat) (b : List Int) (n : Int) : Option (((List Int) × Unit) × (Unit)) :=
  chk (apOk [] b 1) <|
  ref03Put.l3 fu (fun nq2 outq2 => 
      chk (apOk outq2 ([IntKind.u8.wrap nq2]) 1) <|
      let t1 := outq2 ++ ([IntKind.u8.wrap nq2])
      some ((t1, ()), (()))) fu n ([] ++ b)

noncomputable def ref03Put.body : Code := Tryd.f80.body.getD .skip
abbrev ref03Put.shl3 : Shp := ⟨[.u, .d (.int .u64), .u, .u, .u, .o 5 (.int .u8), .u, .u, .u, .u, .u, .u, .u, .u, .u, .u, .u, .u, .u, .u, .u, .u, .u, .u, .u, .u], []⟩
abbrev ref03Put.outl3e2 : Shp := ⟨[.u, .d (.int .u64), .u, .u, .u, .o 5 (.int .u8), .u, .u, .u, .u, .u, .u, .u, .u, .u, .u, .u, .u, .u, .u, .u, .u, .u, .u, .u, .u], []⟩
noncomputable def ref03Put.nml3 : Norm := ⟨{ keep := [1, 5], shut := [(1, (.int .u64))], retag := [(5, 5, (.int .u8))], heap := 0, dead := [], cshut := [], cretag := [] }, [(2, { keep := [1, 5], shut := [(1, (.int .u64))], retag := [(5, 5, (.int .u8))], heap := 0, dead := [], cshut := [], cretag := [] })]⟩
noncomputable def ref03Put.con : OCon := { ps := [.dat (.slice (.int .u8)), .dat (.int .u64)], rs := [.own (.int .u8)], f := fun n x => ref03Put n x.1 x.2.1 }
noncomputable def ref03Put.env : Env := { tys := [(56, ⟨(.slice (.int .u8)), 24⟩), (5, ⟨(.int .u8), 1⟩), (41, ⟨(.int .u64), 8⟩)], elems := [(56, 5)], ptrs := [], cons := [], objs := [], loops := [(3, ref03Put.nml3)], cuts := [], globs := globs, base := 0 }
noncomputable def ref03Put.lp (n : Nat) : LP (RT ref03Put.con.rs × BT ref03Put.con.ps) := fun lo κ body nm K s =>
  cond (lo && Nat.beq κ 3)
    (match ref03Put.shl3.dec s with
    | some v => ref03Put.l3 n (fun w0 w1 => K (.exit 0) (ref03Put.outl3e2.enc (w0, w1, ()))) n v.1 v.2.1
    | none => loops n (RT ref03Put.con.rs × BT ref03Put.con.ps) lo κ body nm K s)
    (loops n (RT ref03Put.con.rs × BT ref03Put.con.ps) lo κ body nm K s)
theorem ref03Put.atl3 (n : Nat) (s : St) (K : Ex → St → Option (RT ref03Put.con.rs × BT ref03Put.con.ps)) : (ref03Put.lp n) true 3 (evK ref03Put.env (ref03Put.lp n) n (sub [1, 1, 1, 0, 0, 0] ref03Put.body)) ref03Put.nml3 K s = loops n (RT ref03Put.con.rs × BT ref03Put.con.ps) true 3 (evK ref03Put.env (ref03Put.lp n) n (sub [1, 1, 1, 0, 0, 0] ref03Put.body)) ref03Put.nml3 K s := by
  show (match ref03Put.shl3.dec s with | some v => ref03Put.l3 n (fun w0 w1 => K (.exit 0) (ref03Put.outl3e2.enc (w0, w1, ()))) n v.1 v.2.1 | none => loops n (RT ref03Put.con.rs × BT ref03Put.con.ps) true 3 (evK ref03Put.env (ref03Put.lp n) n (sub [1, 1, 1, 0, 0, 0] ref03Put.body)) ref03Put.nml3 K s) = _
  cases h : ref03Put.shl3.dec s with
  | none => rfl
  | some v =>
    rw [Shp.dec_enc h]
    exact (evLoop_eq (sh := ref03Put.shl3) (body := evK ref03Put.env (ref03Put.lp n) n (sub [1, 1, 1, 0, 0, 0] ref03Put.body)) (nm := ref03Put.nml3) (K := K) (b := fun nx v => ref03Put.b3 n (fun x0 x1 => nx (x0, x1, ())) (fun w0 w1 => K (.exit 0) (ref03Put.outl3e2.enc (w0, w1, ()))) v.1 v.2.1) (l := fun m v => ref03Put.l3 n (fun w0 w1 => K (.exit 0) (ref03Put.outl3e2.enc (w0, w1, ()))) m v.1 v.2.1) (fun _ => rfl) (fun _ _ => rfl) (fun m v => by kernel_rfl) n v).symm
theorem ref03Put.eq (n : Nat) (x : PT ref03Put.con.ps) : evFuncO ref03Put.env Tryd.f80 ref03Put.body ref03Put.con.ps ref03Put.con.rs (ref03Put.lp n) n x = ref03Put.con.f n x := by kernel_rfl
theorem ref03Put.sound : SoundO Tryd.prog globs 80 ref03Put.con :=
  sound_byO (E := ref03Put.env) (c := ref03Put.body) (envOk (G := globs) (lc := []) (lo := []) (envB_spec (by kernel_rfl)) rfl rfl trivial rfl trivial (by kernel_rfl) (by kernel_rfl)) Tryd.func80 (by kernel_rfl) (by kernel_rfl) (by kernel_rfl) ref03Put.lp (l := [(true, sub [1, 1, 1, 0, 0, 0] ref03Put.body, ref03Put.nml3)]) (by kernel_rfl) (fun n => ⟨ref03Put.atl3 n, trivial⟩) ref03Put.eq
noncomputable def ref03PutInt (fu : Nat) (b : List Int) (n : Int) : Option (((List Int) × Unit) × (Unit)) :=
  cond (decide (n ≥ (0 : Int))) (
    let t1 := IntKind.u64.wrap ((2 : Int) * IntKind.u64.wrap n)
    (ref03Put fu b t1).bind fun r2 =>
    some ((r2.1.1, ()), (()))) (
    let t3 := IntKind.i64.wrap (n + (1 : Int))
    let t4 := IntKind.i64.wrap (0 - t3)
    let t5 := IntKind.u64.wrap ((2 : Int) * IntKind.u64.wrap t4)
    let t6 := IntKind.u64.wrap (t5 + (1 : Int))
    (ref03Put fu b t6).bind fun r7 =>
    some ((r7.1.1, ()), (())))

noncomputable def ref03PutInt.body : Code := Tryd.f64.body.getD .skip
noncomputable def ref03PutInt.con : OCon := { ps := [.dat (.slice (.int .u8)), .dat (.int .i64)], rs := [.own (.int .u8)], f := fun n x => ref03PutInt n x.1 x.2.1 }
noncomputable def ref03PutInt.env : Env := { tys := [(56, ⟨(.slice (.int .u8)), 24⟩), (41, ⟨(.int .u64), 8⟩), (2, ⟨(.int .i64), 8⟩)], elems := [], ptrs := [], cons := [], objs := [(80, [ref03Put.con])], loops := [], cuts := [], globs := globs, base := 0 }
noncomputable def ref03PutInt.lp (n : Nat) : LP (RT ref03PutInt.con.rs × BT ref03PutInt.con.ps) := fun lo κ body nm K s =>
  loops n (RT ref03PutInt.con.rs × BT ref03PutInt.con.ps) lo κ body nm K s
theorem ref03PutInt.eq (n : Nat) (x : PT ref03PutInt.con.ps) : evFuncO ref03PutInt.env Tryd.f64 ref03PutInt.body ref03PutInt.con.ps ref03PutInt.con.rs (ref03PutInt.lp n) n x = ref03PutInt.con.f n x := by kernel_rfl
theorem ref03PutInt.sound : SoundO Tryd.prog globs 64 ref03PutInt.con :=
  sound_byO (E := ref03PutInt.env) (c := ref03PutInt.body) (envOk (G := globs) (lc := []) (lo := [(80, [ref03Put.con])]) (envB_spec (by kernel_rfl)) rfl rfl trivial rfl ⟨⟨⟨ref03Put.sound, trivial⟩, by kernel_rfl⟩, trivial⟩ (by kernel_rfl) (by kernel_rfl)) Tryd.func64 (by kernel_rfl) (by kernel_rfl) (by kernel_rfl) ref03PutInt.lp (l := []) (by kernel_rfl) (fun n => trivial) ref03PutInt.eq
noncomputable def ref03PutReal.b6 (fu : Nat) (next : (List Int) → Int → Int → (List Int) → Option (((List Int) × Unit) × (Unit))) (k2 : (List Int) → (List Int) → Option (((List Int) × Unit) × (Unit))) (out : List Int) (n : Int) (i : Int) (c0 : List Int) : Option (((List Int) × Unit) × (Unit)) :=
  cond (decide (i ≥ (0 : Int))) (
    let t1 := IntKind.u8.wrap (Int.tmod n (256 : Int))
    chk (ixArr 8 i) <|
    chk (nOk c0 8) <|
    let w2 := stL c0 i t1
    let t3 := IntKind.u64.wrap (Int.tdiv n (256 : Int))
    let t4 := IntKind.i64.wrap (i - (1 : Int))
    next out t3 t4 w2) (
    k2 out c0)
noncomputable def ref03PutReal.l6 (fu : Nat) (k2 : (List Int) → (List Int) → Option (((List Int) × Unit) × (Unit))) : Nat → (List Int) → Int → Int → (List Int) → Option (((List Int) × Unit) × (Unit))
  | 0, _, _, _, _ => none
  | m + 1, out, n, i, c0 => ref03PutReal.b6 fu (ref03PutReal.l6 fu k2 m) k2 out n i c0
noncomputable def ref03PutReal (fu : Nat) (b : List Int) (xv : Nat) : Option (((List Int) × Unit) × (Unit)) :=
  chk (apOk [] b 1) <|
  (ref02Of fu xv).bind fun r1 =>
  (ref02PartsBits fu r1.1).bind fun r2 =>
  chk (mkMut (8 : Int) (8 : Int) 1) <|
  ref03PutReal.l6 fu (fun outq2 c0q2 => 
      chk (nOk c0q2 8 && apOk outq2 c0q2 1) <|
      some ((outq2 ++ c0q2, ()), (()))) fu ([] ++ b) r2.1 (7 : Int) (List.replicate (8 : Int).toNat (0 : Int))

noncomputable def ref03PutReal.body : Code := Tryd.f65.body.getD .skip
abbrev ref03PutReal.shl6 : Shp := ⟨[.u, .u, .u, .u, .u, .o 5 (.int .u8), .d (.int .u64), .s 0 (.int .u8) 8, .d (.int .i64), .u, .u, .u, .u, .u, .u, .u, .u, .u, .u, .u, .u, .u, .u, .u, .u, .u, .u, .u, .u, .u, .u, .u], [.a (.int .u8)]⟩
abbrev ref03PutReal.outl6e2 : Shp := ⟨[.u, .u, .u, .u, .u, .o 5 (.int .u8), .u, .s 0 (.int .u8) 8, .u, .u, .u, .u, .u, .u, .u, .u, .u, .u, .u, .u, .u, .u, .u, .u, .u, .u, .u, .u, .u, .u, .u, .u], [.a (.int .u8)]⟩
noncomputable def ref03PutReal.nml6 : Norm := ⟨{ keep := [5, 6, 7, 8], shut := [(6, (.int .u64)), (8, (.int .i64))], retag := [(5, 5, (.int .u8))], heap := 1, dead := [], cshut := [], cretag := [] }, [(2, { keep := [5, 7], shut := [], retag := [(5, 5, (.int .u8))], heap := 1, dead := [], cshut := [], cretag := [] })]⟩
noncomputable def ref03PutReal.con : OCon := { ps := [.dat (.slice (.int .u8)), .dat .flt], rs := [.own (.int .u8)], f := fun n x => ref03PutReal n x.1 x.2.1 }
noncomputable def ref03PutReal.env : Env := { tys := [(56, ⟨(.slice (.int .u8)), 24⟩), (5, ⟨(.int .u8), 1⟩), (3, ⟨(.int .i64), 8⟩), (41, ⟨(.int .u64), 8⟩)], elems := [(56, 5)], ptrs := [], cons := [(35, ref02Of.con), (60, ref02PartsBits.con)], objs := [], loops := [(6, ref03PutReal.nml6)], cuts := [], globs := globs, base := 0, muts := [16] }
noncomputable def ref03PutReal.lp (n : Nat) : LP (RT ref03PutReal.con.rs × BT ref03PutReal.con.ps) := fun lo κ body nm K s =>
  cond (lo && Nat.beq κ 6)
    (match ref03PutReal.shl6.dec s with
    | some v => ref03PutReal.l6 n (fun w0 w1 => K (.exit 0) (ref03PutReal.outl6e2.enc (w0, w1, ()))) n v.1 v.2.1 v.2.2.1 v.2.2.2.1
    | none => loops n (RT ref03PutReal.con.rs × BT ref03PutReal.con.ps) lo κ body nm K s)
    (loops n (RT ref03PutReal.con.rs × BT ref03PutReal.con.ps) lo κ body nm K s)
theorem ref03PutReal.atl6 (n : Nat) (s : St) (K : Ex → St → Option (RT ref03PutReal.con.rs × BT ref03PutReal.con.ps)) : (ref03PutReal.lp n) true 6 (evK ref03PutReal.env (ref03PutReal.lp n) n (sub [1, 1, 1, 1, 1, 0, 1, 0, 0] ref03PutReal.body)) ref03PutReal.nml6 K s = loops n (RT ref03PutReal.con.rs × BT ref03PutReal.con.ps) true 6 (evK ref03PutReal.env (ref03PutReal.lp n) n (sub [1, 1, 1, 1, 1, 0, 1, 0, 0] ref03PutReal.body)) ref03PutReal.nml6 K s := by
  show (match ref03PutReal.shl6.dec s with | some v => ref03PutReal.l6 n (fun w0 w1 => K (.exit 0) (ref03PutReal.outl6e2.enc (w0, w1, ()))) n v.1 v.2.1 v.2.2.1 v.2.2.2.1 | none => loops n (RT ref03PutReal.con.rs × BT ref03PutReal.con.ps) true 6 (evK ref03PutReal.env (ref03PutReal.lp n) n (sub [1, 1, 1, 1, 1, 0, 1, 0, 0] ref03PutReal.body)) ref03PutReal.nml6 K s) = _
  cases h : ref03PutReal.shl6.dec s with
  | none => rfl
  | some v =>
    rw [Shp.dec_enc h]
    exact (evLoop_eq (sh := ref03PutReal.shl6) (body := evK ref03PutReal.env (ref03PutReal.lp n) n (sub [1, 1, 1, 1, 1, 0, 1, 0, 0] ref03PutReal.body)) (nm := ref03PutReal.nml6) (K := K) (b := fun nx v => ref03PutReal.b6 n (fun x0 x1 x2 x3 => nx (x0, x1, x2, x3, ())) (fun w0 w1 => K (.exit 0) (ref03PutReal.outl6e2.enc (w0, w1, ()))) v.1 v.2.1 v.2.2.1 v.2.2.2.1) (l := fun m v => ref03PutReal.l6 n (fun w0 w1 => K (.exit 0) (ref03PutReal.outl6e2.enc (w0, w1, ()))) m v.1 v.2.1 v.2.2.1 v.2.2.2.1) (fun _ => rfl) (fun _ _ => rfl) (fun m v => by kernel_rfl) n v).symm
theorem ref03PutReal.eq (n : Nat) (x : PT ref03PutReal.con.ps) : evFuncO ref03PutReal.env Tryd.f65 ref03PutReal.body ref03PutReal.con.ps ref03PutReal.con.rs (ref03PutReal.lp n) n x = ref03PutReal.con.f n x := by kernel_rfl
theorem ref03PutReal.sound : SoundO Tryd.prog globs 65 ref03PutReal.con :=
  sound_byO (E := ref03PutReal.env) (c := ref03PutReal.body) (envOk (G := globs) (lc := [(35, ref02Of.con), (60, ref02PartsBits.con)]) (lo := []) (envB_spec (by kernel_rfl)) rfl rfl ⟨.inl ⟨ref02Of.sound, by kernel_rfl⟩, ⟨.inl ⟨ref02PartsBits.sound, by kernel_rfl⟩, trivial⟩⟩ rfl trivial (by kernel_rfl) (by kernel_rfl)) Tryd.func65 (by kernel_rfl) (by kernel_rfl) (by kernel_rfl) ref03PutReal.lp (l := [(true, sub [1, 1, 1, 1, 1, 0, 1, 0, 0] ref03PutReal.body, ref03PutReal.nml6)]) (by kernel_rfl) (fun n => ⟨ref03PutReal.atl6 n, trivial⟩) ref03PutReal.eq
noncomputable def ref03PutText (fu : Nat) (b : List Int) (sv : List Int) : Option (((List Int) × Unit) × (Unit)) :=
  let t1 := IntKind.u64.wrap (sv.length : Int)
  (ref03Put fu b t1).bind fun r2 =>
  chk (apOk r2.1.1 sv 1) <|
  some ((r2.1.1 ++ sv, ()), (()))

noncomputable def ref03PutText.body : Code := Tryd.f66.body.getD .skip
noncomputable def ref03PutText.con : OCon := { ps := [.dat (.slice (.int .u8)), .dat .str], rs := [.own (.int .u8)], f := fun n x => ref03PutText n x.1 x.2.1 }
noncomputable def ref03PutText.env : Env := { tys := [(56, ⟨(.slice (.int .u8)), 24⟩), (9, ⟨.str, 16⟩), (41, ⟨(.int .u64), 8⟩), (3, ⟨(.int .i64), 8⟩), (5, ⟨(.int .u8), 1⟩)], elems := [(56, 5)], ptrs := [], cons := [], objs := [(80, [ref03Put.con])], loops := [], cuts := [], globs := globs, base := 0 }
noncomputable def ref03PutText.lp (n : Nat) : LP (RT ref03PutText.con.rs × BT ref03PutText.con.ps) := fun lo κ body nm K s =>
  loops n (RT ref03PutText.con.rs × BT ref03PutText.con.ps) lo κ body nm K s
theorem ref03PutText.eq (n : Nat) (x : PT ref03PutText.con.ps) : evFuncO ref03PutText.env Tryd.f66 ref03PutText.body ref03PutText.con.ps ref03PutText.con.rs (ref03PutText.lp n) n x = ref03PutText.con.f n x := by kernel_rfl
theorem ref03PutText.sound : SoundO Tryd.prog globs 66 ref03PutText.con :=
  sound_byO (E := ref03PutText.env) (c := ref03PutText.body) (envOk (G := globs) (lc := []) (lo := [(80, [ref03Put.con])]) (envB_spec (by kernel_rfl)) rfl rfl trivial rfl ⟨⟨⟨ref03Put.sound, trivial⟩, by kernel_rfl⟩, trivial⟩ (by kernel_rfl) (by kernel_rfl)) Tryd.func66 (by kernel_rfl) (by kernel_rfl) (by kernel_rfl) ref03PutText.lp (l := []) (by kernel_rfl) (fun n => trivial) ref03PutText.eq
noncomputable def ref04Put (fu : Nat) (b : List Int) (v : S1) : Option (((List Int) × Int × Unit) × (Unit)) :=
  (ref04May fu v).bind fun r1 =>
  cond (!r1.1) (
    some (([], (1 : Int), ()), (()))) (
    chk (apOk [] b 1) <|
    chk (apOk ([] ++ b) ([v.1]) 1) <|
    cond (v.1 == (1 : Int)) (
      (ref03PutInt fu (([] ++ b) ++ ([v.1])) v.2.1).bind fun r2 =>
      some ((r2.1.1, (0 : Int), ()), (()))) (
      cond (v.1 == (2 : Int)) (
        (ref03PutReal fu (([] ++ b) ++ ([v.1])) v.2.2.1).bind fun r3 =>
        some ((r3.1.1, (0 : Int), ()), (()))) (
        cond (v.1 == (3 : Int)) (
          (ref03PutText fu (([] ++ b) ++ ([v.1])) v.2.2.2.1).bind fun r4 =>
          some ((r4.1.1, (0 : Int), ()), (()))) (
          some ((([] ++ b) ++ ([v.1]), (0 : Int), ()), (()))))))

noncomputable def ref04Put.body : Code := Tryd.f43.body.getD .skip
noncomputable def ref04Put.con : OCon := { ps := [.dat (.slice (.int .u8)), .dat kS1], rs := [.own (.int .u8), .dat (.int .i64)], f := fun n x => ref04Put n x.1 x.2.1 }
noncomputable def ref04Put.env : Env := { tys := [(46, ⟨kS1, 40⟩), (56, ⟨(.slice (.int .u8)), 24⟩), (3, ⟨(.int .i64), 8⟩), (5, ⟨(.int .u8), 1⟩), (2, ⟨(.int .i64), 8⟩), (44, ⟨.flt, 8⟩), (9, ⟨.str, 16⟩)], elems := [(56, 5)], ptrs := [], cons := [(32, ref04May.con)], objs := [(64, [ref03PutInt.con]), (65, [ref03PutReal.con]), (66, [ref03PutText.con])], loops := [], cuts := [], globs := globs, base := 0 }
noncomputable def ref04Put.lp (n : Nat) : LP (RT ref04Put.con.rs × BT ref04Put.con.ps) := fun lo κ body nm K s =>
  loops n (RT ref04Put.con.rs × BT ref04Put.con.ps) lo κ body nm K s
theorem ref04Put.eq (n : Nat) (x : PT ref04Put.con.ps) : evFuncO ref04Put.env Tryd.f43 ref04Put.body ref04Put.con.ps ref04Put.con.rs (ref04Put.lp n) n x = ref04Put.con.f n x := by kernel_rfl
theorem ref04Put.sound : SoundO Tryd.prog globs 43 ref04Put.con :=
  sound_byO (E := ref04Put.env) (c := ref04Put.body) (envOk (G := globs) (lc := [(32, ref04May.con)]) (lo := [(64, [ref03PutInt.con]), (65, [ref03PutReal.con]), (66, [ref03PutText.con])]) (envB_spec (by kernel_rfl)) rfl rfl ⟨.inl ⟨ref04May.sound, by kernel_rfl⟩, trivial⟩ rfl ⟨⟨⟨ref03PutInt.sound, trivial⟩, by kernel_rfl⟩, ⟨⟨⟨ref03PutReal.sound, trivial⟩, by kernel_rfl⟩, ⟨⟨⟨ref03PutText.sound, trivial⟩, by kernel_rfl⟩, trivial⟩⟩⟩ (by kernel_rfl) (by kernel_rfl)) Tryd.func43 (by kernel_rfl) (by kernel_rfl) (by kernel_rfl) ref04Put.lp (l := []) (by kernel_rfl) (fun n => trivial) ref04Put.eq
noncomputable def ref10PutDat.b9 (fu : Nat) (next : (List Int) → Int → Int → S3 → Option ((List Int) × Int × Unit)) (k2 : (List Int) → Option ((List Int) × Int × Unit)) (out : List Int) (v : Int) (vx2 : Int) (b0 : S3) : Option ((List Int) × Int × Unit) :=
  cond (decide (vx2 < v)) (
    chk (ixOk b0.2.2.1 vx2) <|
    let e1 := ixL ((0 : Int), (0 : Int), ((0 : Int), (0 : Int), (0 : Nat), [], ()), ()) b0.2.2.1 vx2
    chk (ixOk b0.2.2.1 vx2) <|
    let e2 := ixL ((0 : Int), (0 : Int), ((0 : Int), (0 : Int), (0 : Nat), [], ()), ()) b0.2.2.1 vx2
    chk (apOk out ([e1.1, e2.2.1]) 1) <|
    chk (ixOk b0.2.2.1 vx2) <|
    let e3 := ixL ((0 : Int), (0 : Int), ((0 : Int), (0 : Int), (0 : Nat), [], ()), ()) b0.2.2.1 vx2
    (ref04Put fu (out ++ ([e1.1, e2.2.1])) e3.2.2.1).bind fun r4 =>
    let t5 := IntKind.i64.wrap (vx2 + (1 : Int))
    next r4.1.1 v t5 b0) (
    k2 out)
noncomputable def ref10PutDat.l9 (fu : Nat) (k2 : (List Int) → Option ((List Int) × Int × Unit)) : Nat → (List Int) → Int → Int → S3 → Option ((List Int) × Int × Unit)
  | 0, _, _, _, _ => none
  | m + 1, out, v, vx2, b0 => ref10PutDat.b9 fu (ref10PutDat.l9 fu k2 m) k2 out v vx2 b0
noncomputable def ref10PutDat.j8 (fu : Nat) (k1 : (List Int) → Int → Option ((List Int) × Int × Unit)) (out : List Int) (b0 : S3) : Option ((List Int) × Int × Unit) :=
  ref10PutDat.l9 fu (fun outq4 => 
      k1 outq4 (0 : Int)) fu out (b0.2.2.1.length : Int) (0 : Int) b0
noncomputable def ref10PutDat (fu : Nat) (b : List Int) (p : S3) : Option ((List Int) × Int × Unit) :=
  (ref10May fu p).bind fun r1 =>
  cond (!r1.1) (
    some ([], (1 : Int), ())) (
    chk (apOk [] b 1) <|
    cond p.1 (
      let t2 := IntKind.i64.wrap ((16 : Int) * (p.2.2.1.length : Int))
      let t3 := IntKind.i64.wrap (t2 + (1 : Int))
      chk (apOk ([] ++ b) ([IntKind.u8.wrap t3]) 1) <|
      let t4 := ([] ++ b) ++ ([IntKind.u8.wrap t3])
      ref10PutDat.j8 fu (fun vq1 vq1x2 => 
          some (vq1, vq1x2, ())) t4 p) (
      let t5 := IntKind.i64.wrap ((16 : Int) * (p.2.2.1.length : Int))
      let t6 := [IntKind.u8.wrap t5, p.2.1]
      chk (apOk ([] ++ b) t6 1) <|
      ref10PutDat.j8 fu (fun vq2 vq2x2 => 
          some (vq2, vq2x2, ())) (([] ++ b) ++ t6) p))

noncomputable def ref10PutDat.body : Code := Tryd.f21.body.getD .skip
abbrev ref10PutDat.shl9 : Shp := ⟨[.u, .u, .u, .p 0 0, .u, .u, .o 6 (.int .u8), .u, .u, .u, .u, .u, .u, .u, .u, .u, .u, .u, .u, .u, .u, .u, .u, .u, .u, .u, .u, .u, .u, .u, .u, .u, .u, .u, .u, .u, .u, .u, .u, .u, .u, .d (.int .i64), .d (.int .i64), .u, .u, .u, .u, .u, .u, .u, .u, .u, .u, .u, .u, .u, .u, .u, .u, .u, .u, .u, .u, .u, .u, .u, .u, .u, .u, .u, .u, .u, .u, .u], [.c [.g kS3]]⟩
abbrev ref10PutDat.outl9e2 : Shp := ⟨[.u, .u, .u, .u, .u, .u, .o 6 (.int .u8), .u, .u, .u, .u, .u, .u, .u, .u, .u, .u, .u, .u, .u, .u, .u, .u, .u, .u, .u, .u, .u, .u, .u, .u, .u, .u, .u, .u, .u, .u, .u, .u, .u, .u, .u, .u, .u, .u, .u, .u, .u, .u, .u, .u, .u, .u, .u, .u, .u, .u, .u, .u, .u, .u, .u, .u, .u, .u, .u, .u, .u, .u, .u, .u, .u, .u, .u], []⟩
noncomputable def ref10PutDat.nml9 : Norm := ⟨{ keep := [3, 6, 41, 42], shut := [(41, (.int .i64)), (42, (.int .i64))], retag := [(6, 6, (.int .u8))], heap := 1, dead := [], cshut := [(0, 0, .bool), (0, 1, (.int .u8)), (0, 2, (.slice kS2))], cretag := [] }, [(2, { keep := [6], shut := [], retag := [(6, 6, (.int .u8))], heap := 0, dead := [], cshut := [], cretag := [] })]⟩
abbrev ref10PutDat.shj8 : Shp := ⟨[.u, .u, .u, .p 0 0, .u, .u, .o 6 (.int .u8), .u, .u, .u, .u, .u, .u, .u, .u, .u, .u, .u, .u, .u, .u, .u, .u, .u, .u, .u, .u, .u, .u, .u, .u, .u, .u, .u, .u, .u, .u, .u, .u, .u, .u, .u, .u, .u, .u, .u, .u, .u, .u, .u, .u, .u, .u, .u, .u, .u, .u, .u, .u, .u, .u, .u, .u, .u, .u, .u, .u, .u, .u, .u, .u, .u, .u, .u], [.c [.g kS3]]⟩
abbrev ref10PutDat.outj8e1 : Shp := ⟨[.u, .u, .u, .u, .o 4 (.int .u8), .d (.int .i64), .u, .u, .u, .u, .u, .u, .u, .u, .u, .u, .u, .u, .u, .u, .u, .u, .u, .u, .u, .u, .u, .u, .u, .u, .u, .u, .u, .u, .u, .u, .u, .u, .u, .u, .u, .u, .u, .u, .u, .u, .u, .u, .u, .u, .u, .u, .u, .u, .u, .u, .u, .u, .u, .u, .u, .u, .u, .u, .u, .u, .u, .u, .u, .u, .u, .u, .u, .u], []⟩
noncomputable def ref10PutDat.nmj8 : Norm := ⟨{ keep := [3, 6], shut := [], retag := [(6, 6, (.int .u8))], heap := 1, dead := [], cshut := [(0, 0, .bool), (0, 1, (.int .u8)), (0, 2, (.slice kS2))], cretag := [] }, [(1, { keep := [4, 5], shut := [(5, (.int .i64))], retag := [(4, 4, (.int .u8))], heap := 0, dead := [], cshut := [], cretag := [] })]⟩
noncomputable def ref10PutDat.con : Con := { ps := [(.slice (.int .u8)), kS3], rs := [(.slice (.int .u8)), (.int .i64)], f := fun n x => ref10PutDat n x.1 x.2.1 }
noncomputable def ref10PutDat.env : Env := { tys := [(30, ⟨kS3, 32⟩), (56, ⟨(.slice (.int .u8)), 24⟩), (3, ⟨(.int .i64), 8⟩), (5, ⟨(.int .u8), 1⟩), (4, ⟨.bool, 1⟩), (28, ⟨(.slice kS2), 24⟩), (50, ⟨kS2, 48⟩), (46, ⟨kS1, 40⟩)], elems := [(56, 5), (28, 50)], ptrs := [], cons := [(13, ref10May.con)], objs := [(43, [ref04Put.con])], loops := [(9, ref10PutDat.nml9)], cuts := [(8, ref10PutDat.nmj8)], globs := globs, base := 0 }
noncomputable def ref10PutDat.lp (n : Nat) : LP (Kd.struct ref10PutDat.con.rs).T := fun lo κ body nm K s =>
  cond (lo && Nat.beq κ 9)
    (match ref10PutDat.shl9.dec s with
    | some v => ref10PutDat.l9 n (fun w0 => K (.exit 0) (ref10PutDat.outl9e2.enc (w0, ()))) n v.1 v.2.1 v.2.2.1 v.2.2.2.1
    | none => loops n (Kd.struct ref10PutDat.con.rs).T lo κ body nm K s)
    (cond (!lo && Nat.beq κ 8)
    (match ref10PutDat.shj8.dec s with
    | some v => ref10PutDat.j8 n (fun w0 w1 => K .ret (ref10PutDat.outj8e1.enc (w0, w1, ()))) v.1 v.2.1
    | none => loops n (Kd.struct ref10PutDat.con.rs).T lo κ body nm K s)
    (loops n (Kd.struct ref10PutDat.con.rs).T lo κ body nm K s))
theorem ref10PutDat.atl9 (n : Nat) (s : St) (K : Ex → St → Option (Kd.struct ref10PutDat.con.rs).T) : (ref10PutDat.lp n) true 9 (evK ref10PutDat.env (ref10PutDat.lp n) n (sub [1, 1, 1, 1, 1, 0, 1, 0, 0] ref10PutDat.body)) ref10PutDat.nml9 K s = loops n (Kd.struct ref10PutDat.con.rs).T true 9 (evK ref10PutDat.env (ref10PutDat.lp n) n (sub [1, 1, 1, 1, 1, 0, 1, 0, 0] ref10PutDat.body)) ref10PutDat.nml9 K s := by
  show (match ref10PutDat.shl9.dec s with | some v => ref10PutDat.l9 n (fun w0 => K (.exit 0) (ref10PutDat.outl9e2.enc (w0, ()))) n v.1 v.2.1 v.2.2.1 v.2.2.2.1 | none => loops n (Kd.struct ref10PutDat.con.rs).T true 9 (evK ref10PutDat.env (ref10PutDat.lp n) n (sub [1, 1, 1, 1, 1, 0, 1, 0, 0] ref10PutDat.body)) ref10PutDat.nml9 K s) = _
  cases h : ref10PutDat.shl9.dec s with
  | none => rfl
  | some v =>
    rw [Shp.dec_enc h]
    exact (evLoop_eq (sh := ref10PutDat.shl9) (body := evK ref10PutDat.env (ref10PutDat.lp n) n (sub [1, 1, 1, 1, 1, 0, 1, 0, 0] ref10PutDat.body)) (nm := ref10PutDat.nml9) (K := K) (b := fun nx v => ref10PutDat.b9 n (fun x0 x1 x2 x3 => nx (x0, x1, x2, x3, ())) (fun w0 => K (.exit 0) (ref10PutDat.outl9e2.enc (w0, ()))) v.1 v.2.1 v.2.2.1 v.2.2.2.1) (l := fun m v => ref10PutDat.l9 n (fun w0 => K (.exit 0) (ref10PutDat.outl9e2.enc (w0, ()))) m v.1 v.2.1 v.2.2.1 v.2.2.2.1) (fun _ => rfl) (fun _ _ => rfl) (fun m v => by kernel_rfl) n v).symm
theorem ref10PutDat.atj8 (n : Nat) (s : St) (K : Ex → St → Option (Kd.struct ref10PutDat.con.rs).T) : (ref10PutDat.lp n) false 8 (evK ref10PutDat.env (ref10PutDat.lp n) n (sub [1, 1, 1, 1, 1] ref10PutDat.body)) ref10PutDat.nmj8 K s = loops n (Kd.struct ref10PutDat.con.rs).T false 8 (evK ref10PutDat.env (ref10PutDat.lp n) n (sub [1, 1, 1, 1, 1] ref10PutDat.body)) ref10PutDat.nmj8 K s := by
  show (match ref10PutDat.shj8.dec s with | some v => ref10PutDat.j8 n (fun w0 w1 => K .ret (ref10PutDat.outj8e1.enc (w0, w1, ()))) v.1 v.2.1 | none => loops n (Kd.struct ref10PutDat.con.rs).T false 8 (evK ref10PutDat.env (ref10PutDat.lp n) n (sub [1, 1, 1, 1, 1] ref10PutDat.body)) ref10PutDat.nmj8 K s) = _
  cases h : ref10PutDat.shj8.dec s with
  | none => rfl
  | some v =>
    rw [Shp.dec_enc h]
    kernel_rfl
theorem ref10PutDat.eq (n : Nat) (x : (Kd.struct ref10PutDat.con.ps).T) : evFunc ref10PutDat.env Tryd.f21 ref10PutDat.body ref10PutDat.con.ps ref10PutDat.con.rs (ref10PutDat.lp n) n x = ref10PutDat.con.f n x := by kernel_rfl
theorem ref10PutDat.sound : Sound Tryd.prog globs 21 ref10PutDat.con :=
  sound_by (E := ref10PutDat.env) (c := ref10PutDat.body) (envOk (G := globs) (lc := [(13, ref10May.con)]) (lo := [(43, [ref04Put.con])]) (envB_spec (by kernel_rfl)) rfl rfl ⟨.inl ⟨ref10May.sound, by kernel_rfl⟩, trivial⟩ rfl ⟨⟨⟨ref04Put.sound, trivial⟩, by kernel_rfl⟩, trivial⟩ (by kernel_rfl) (by kernel_rfl)) Tryd.func21 (by kernel_rfl) ref10PutDat.lp (l := [(true, sub [1, 1, 1, 1, 1, 0, 1, 0, 0] ref10PutDat.body, ref10PutDat.nml9), (false, sub [1, 1, 1, 1, 1] ref10PutDat.body, ref10PutDat.nmj8)]) (by kernel_rfl) (fun n => ⟨ref10PutDat.atl9 n, ⟨ref10PutDat.atj8 n, trivial⟩⟩) ref10PutDat.eq
noncomputable def predHead (fu : Nat) (b : List Int) (atv : Int) : Option (S8 × Int × Int × Int × Unit) :=
  cond (decide (atv < (0 : Int))) (
    some ((false, (0 : Int), (), ()), (0 : Int), (0 : Int), (3 : Int), ())) (
    let t1 := decide (atv ≥ (b.length : Int))
    cond t1 (
      some ((false, (0 : Int), (), ()), (0 : Int), (0 : Int), (3 : Int), ())) (
      chk (ixOk b atv) <|
      let e2 := ixL (0 : Int) b atv
      let t3 := IntKind.u8.wrap (Int.tdiv e2 (16 : Int))
      let t4 := bAnd .u8 e2 (14 : Int) != (0 : Int)
      cond t4 (
        some ((false, (0 : Int), (), ()), (0 : Int), (0 : Int), (2 : Int), ())) (
        let t5 := decide (IntKind.i64.wrap t3 > (4 : Int))
        cond t5 (
          some ((false, (0 : Int), (), ()), (0 : Int), (0 : Int), (12 : Int), ())) (
          let t6 := bAnd .u8 e2 (1 : Int) == (1 : Int)
          cond t6 (
            let t7 := IntKind.i64.wrap (atv + (1 : Int))
            some ((true, (0 : Int), (), ()), IntKind.i64.wrap t3, t7, (0 : Int), ())) (
            let t8 := IntKind.i64.wrap (atv + (1 : Int))
            let t9 := decide (t8 ≥ (b.length : Int))
            cond t9 (
              some ((false, (0 : Int), (), ()), (0 : Int), (0 : Int), (3 : Int), ())) (
              let t10 := IntKind.i64.wrap (atv + (1 : Int))
              chk (ixOk b t10) <|
              let e11 := ixL (0 : Int) b t10
              let t12 := IntKind.i64.wrap (atv + (2 : Int))
              some ((false, e11, (), ()), IntKind.i64.wrap t3, t12, (0 : Int), ())))))))

noncomputable def predHead.body : Code := Tryd.f44.body.getD .skip
noncomputable def predHead.con : Con := { ps := [(.slice (.int .u8)), (.int .i64)], rs := [kS8, (.int .i64), (.int .i64), (.int .i64)], f := fun n x => predHead n x.1 x.2.1 }
noncomputable def predHead.env : Env := { tys := [(30, ⟨kS3, 32⟩), (3, ⟨(.int .i64), 8⟩), (57, ⟨(.int .i64), 8⟩), (4, ⟨.bool, 1⟩), (5, ⟨(.int .u8), 1⟩)], elems := [(56, 5)], ptrs := [], cons := [], objs := [], loops := [], cuts := [], globs := globs, base := 0, parts := true }
noncomputable def predHead.lp (n : Nat) : LP (Kd.struct predHead.con.rs).T := fun lo κ body nm K s =>
  loops n (Kd.struct predHead.con.rs).T lo κ body nm K s
theorem predHead.eq (n : Nat) (x : (Kd.struct predHead.con.ps).T) : evFunc predHead.env Tryd.f44 predHead.body predHead.con.ps predHead.con.rs (predHead.lp n) n x = predHead.con.f n x := by kernel_rfl
theorem predHead.sound : Sound Tryd.prog globs 44 predHead.con :=
  sound_by (E := predHead.env) (c := predHead.body) (envOk (G := globs) (lc := []) (lo := []) (envB_spec (by kernel_rfl)) rfl rfl trivial rfl trivial (by kernel_rfl) (by kernel_rfl)) Tryd.func44 (by kernel_rfl) predHead.lp (l := []) (by kernel_rfl) (fun n => trivial) predHead.eq
noncomputable def packGet.j50013 (fu : Nat) (k1 : Int → Int → Int → Option (Int × Int × Int × Unit)) (atv : Int) (n : Int) (i : Int) (v : Bool) : Option (Int × Int × Int × Unit) :=
  cond v (
    k1 (0 : Int) (0 : Int) (2 : Int)) (
    let t1 := IntKind.i64.wrap (atv + i)
    let t2 := IntKind.i64.wrap (t1 + (1 : Int))
    k1 n t2 (0 : Int))
noncomputable def packGet.j9 (fu : Nat) (k0 : Int → Int → (List Int) → Int → Int → Option (Int × Int × Int × Unit)) (k1 : Int → Int → Int → Option (Int × Int × Int × Unit)) (atv : Int) (n : Int) (i : Int) (c : Int) (v : List Int) (vx2 : Int) (vx3 : Int) : Option (Int × Int × Int × Unit) :=
  let t1 := IntKind.u64.wrap (bAnd .u8 c (127 : Int))
  let t2 := IntKind.i64.wrap ((7 : Int) * i)
  chk (!decide (t2 < 0)) <|
  let t3 := bOr .u64 n (sShl .u64 t1 t2)
  cond (decide (c ≥ (128 : Int))) (
    k0 atv t3 v vx2 vx3) (
    cond (c == (0 : Int)) (
      packGet.j50013 fu (fun vq5 vq5x2 vq5x3 => 
          k1 vq5 vq5x2 vq5x3) atv t3 i (decide (i > (0 : Int)))) (
      packGet.j50013 fu (fun vq6 vq6x2 vq6x3 => 
          k1 vq6 vq6x2 vq6x3) atv t3 i false))
noncomputable def packGet.b5 (fu : Nat) (next : Int → Int → (List Int) → Int → Int → Option (Int × Int × Int × Unit)) (k1 : Int → Int → Int → Option (Int × Int × Int × Unit)) (k2 : Unit → Option (Int × Int × Int × Unit)) (atv : Int) (n : Int) (v : List Int) (vx2 : Int) (vx3 : Int) : Option (Int × Int × Int × Unit) :=
  cond (decide (vx3 < vx2)) (
    chk (ixOk v vx3) <|
    let e1 := ixL (0 : Int) v vx3
    cond (vx3 == (9 : Int)) (
      cond (decide (e1 > (1 : Int))) (
        k1 (0 : Int) (0 : Int) (4 : Int)) (
        packGet.j9 fu (fun atvq11 nq11 vq11 vq11x2 vq11x3 => 
            let t2 := IntKind.i64.wrap (vq11x3 + (1 : Int))
            next atvq11 nq11 vq11 vq11x2 t2) (fun vq12 vq12x2 vq12x3 => 
            k1 vq12 vq12x2 vq12x3) atv n vx3 e1 v vx2 vx3)) (
      packGet.j9 fu (fun atvq13 nq13 vq13 vq13x2 vq13x3 => 
          let t3 := IntKind.i64.wrap (vq13x3 + (1 : Int))
          next atvq13 nq13 vq13 vq13x2 t3) (fun vq14 vq14x2 vq14x3 => 
          k1 vq14 vq14x2 vq14x3) atv n vx3 e1 v vx2 vx3)) (
    k2 ())
noncomputable def packGet.l5 (fu : Nat) (k1 : Int → Int → Int → Option (Int × Int × Int × Unit)) (k2 : Unit → Option (Int × Int × Int × Unit)) : Nat → Int → Int → (List Int) → Int → Int → Option (Int × Int × Int × Unit)
  | 0, _, _, _, _, _ => none
  | m + 1, atv, n, v, vx2, vx3 => packGet.b5 fu (packGet.l5 fu k1 k2 m) k1 k2 atv n v vx2 vx3
noncomputable def packGet (fu : Nat) (b : List Int) (atv : Int) : Option (Int × Int × Int × Unit) :=
  cond (decide (atv < (0 : Int))) (
    some ((0 : Int), (0 : Int), (3 : Int), ())) (
    let t1 := decide (atv > (b.length : Int))
    cond t1 (
      some ((0 : Int), (0 : Int), (3 : Int), ())) (
      chk (cutOk b atv (b.length : Int)) <|
      let t2 := cutL b atv (b.length : Int)
      packGet.l5 fu (fun vq3 vq3x2 vq3x3 => 
          some (vq3, vq3x2, vq3x3, ())) (fun (_ : Unit) => 
          some ((0 : Int), (0 : Int), (3 : Int), ())) fu atv (0 : Int) t2 (t2.length : Int) (0 : Int)))

noncomputable def packGet.body : Code := Tryd.f81.body.getD .skip
abbrev packGet.shj50013 : Shp := ⟨[.u, .d (.int .i64), .u, .u, .u, .u, .u, .d (.int .u64), .d (.int .i64), .u, .u, .u, .u, .u, .u, .u, .u, .u, .u, .u, .u, .u, .u, .u, .u, .u, .u, .u, .u, .u, .u, .u, .u, .u, .u, .u, .u, .u, .u, .u, .u, .u, .u, .u, .u, .u, .u, .u, .u, .d .bool, .u, .u, .u, .u, .u, .u, .u], []⟩
abbrev packGet.outj50013e1 : Shp := ⟨[.u, .u, .u, .u, .d (.int .u64), .d (.int .i64), .d (.int .i64), .u, .u, .u, .u, .u, .u, .u, .u, .u, .u, .u, .u, .u, .u, .u, .u, .u, .u, .u, .u, .u, .u, .u, .u, .u, .u, .u, .u, .u, .u, .u, .u, .u, .u, .u, .u, .u, .u, .u, .u, .u, .u, .u, .u, .u, .u, .u, .u, .u, .u], []⟩
noncomputable def packGet.nmj50013 : Norm := ⟨{ keep := [1, 7, 8, 49], shut := [(1, (.int .i64)), (7, (.int .u64)), (8, (.int .i64)), (49, .bool)], retag := [], heap := 0, dead := [], cshut := [], cretag := [] }, [(1, { keep := [4, 5, 6], shut := [(4, (.int .u64)), (5, (.int .i64)), (6, (.int .i64))], retag := [], heap := 0, dead := [], cshut := [], cretag := [] })]⟩
abbrev packGet.shj9 : Shp := ⟨[.u, .d (.int .i64), .u, .u, .u, .u, .u, .d (.int .u64), .d (.int .i64), .d (.int .u8), .u, .u, .u, .u, .u, .u, .u, .u, .u, .u, .d (.slice (.int .u8)), .d (.int .i64), .d (.int .i64), .u, .u, .u, .u, .u, .u, .u, .u, .u, .u, .u, .u, .u, .u, .u, .u, .u, .u, .u, .u, .u, .u, .u, .u, .u, .u, .u, .u, .u, .u, .u, .u, .u, .u], []⟩
abbrev packGet.outj9e0 : Shp := ⟨[.u, .d (.int .i64), .u, .u, .u, .u, .u, .d (.int .u64), .u, .u, .u, .u, .u, .u, .u, .u, .u, .u, .u, .u, .d (.slice (.int .u8)), .d (.int .i64), .d (.int .i64), .u, .u, .u, .u, .u, .u, .u, .u, .u, .u, .u, .u, .u, .u, .u, .u, .u, .u, .u, .u, .u, .u, .u, .u, .u, .u, .u, .u, .u, .u, .u, .u, .u, .u], []⟩
abbrev packGet.outj9e1 : Shp := ⟨[.u, .u, .u, .u, .d (.int .u64), .d (.int .i64), .d (.int .i64), .u, .u, .u, .u, .u, .u, .u, .u, .u, .u, .u, .u, .u, .u, .u, .u, .u, .u, .u, .u, .u, .u, .u, .u, .u, .u, .u, .u, .u, .u, .u, .u, .u, .u, .u, .u, .u, .u, .u, .u, .u, .u, .u, .u, .u, .u, .u, .u, .u, .u], []⟩
noncomputable def packGet.nmj9 : Norm := ⟨{ keep := [1, 7, 8, 9, 20, 21, 22], shut := [(1, (.int .i64)), (7, (.int .u64)), (8, (.int .i64)), (9, (.int .u8)), (20, (.slice (.int .u8))), (21, (.int .i64)), (22, (.int .i64))], retag := [], heap := 0, dead := [], cshut := [], cretag := [] }, [(0, { keep := [1, 7, 20, 21, 22], shut := [(1, (.int .i64)), (7, (.int .u64)), (20, (.slice (.int .u8))), (21, (.int .i64)), (22, (.int .i64))], retag := [], heap := 0, dead := [], cshut := [], cretag := [] }), (1, { keep := [4, 5, 6], shut := [(4, (.int .u64)), (5, (.int .i64)), (6, (.int .i64))], retag := [], heap := 0, dead := [], cshut := [], cretag := [] })]⟩
abbrev packGet.shl5 : Shp := ⟨[.u, .d (.int .i64), .u, .u, .u, .u, .u, .d (.int .u64), .u, .u, .u, .u, .u, .u, .u, .u, .u, .u, .u, .u, .d (.slice (.int .u8)), .d (.int .i64), .d (.int .i64), .u, .u, .u, .u, .u, .u, .u, .u, .u, .u, .u, .u, .u, .u, .u, .u, .u, .u, .u, .u, .u, .u, .u, .u, .u, .u, .u, .u, .u, .u, .u, .u, .u, .u], []⟩
abbrev packGet.outl5e1 : Shp := ⟨[.u, .u, .u, .u, .d (.int .u64), .d (.int .i64), .d (.int .i64), .u, .u, .u, .u, .u, .u, .u, .u, .u, .u, .u, .u, .u, .u, .u, .u, .u, .u, .u, .u, .u, .u, .u, .u, .u, .u, .u, .u, .u, .u, .u, .u, .u, .u, .u, .u, .u, .u, .u, .u, .u, .u, .u, .u, .u, .u, .u, .u, .u, .u], []⟩
abbrev packGet.outl5e2 : Shp := ⟨[.u, .u, .u, .u, .u, .u, .u, .u, .u, .u, .u, .u, .u, .u, .u, .u, .u, .u, .u, .u, .u, .u, .u, .u, .u, .u, .u, .u, .u, .u, .u, .u, .u, .u, .u, .u, .u, .u, .u, .u, .u, .u, .u, .u, .u, .u, .u, .u, .u, .u, .u, .u, .u, .u, .u, .u, .u], []⟩
noncomputable def packGet.nml5 : Norm := ⟨{ keep := [1, 7, 20, 21, 22], shut := [(1, (.int .i64)), (7, (.int .u64)), (20, (.slice (.int .u8))), (21, (.int .i64)), (22, (.int .i64))], retag := [], heap := 0, dead := [], cshut := [], cretag := [] }, [(1, { keep := [4, 5, 6], shut := [(4, (.int .u64)), (5, (.int .i64)), (6, (.int .i64))], retag := [], heap := 0, dead := [], cshut := [], cretag := [] }), (2, { keep := [], shut := [], retag := [], heap := 0, dead := [], cshut := [], cretag := [] })]⟩
noncomputable def packGet.con : Con := { ps := [(.slice (.int .u8)), (.int .i64)], rs := [(.int .u64), (.int .i64), (.int .i64)], f := fun n x => packGet n x.1 x.2.1 }
noncomputable def packGet.env : Env := { tys := [(41, ⟨(.int .u64), 8⟩), (3, ⟨(.int .i64), 8⟩), (57, ⟨(.int .i64), 8⟩), (4, ⟨.bool, 1⟩), (5, ⟨(.int .u8), 1⟩)], elems := [(56, 5)], ptrs := [], cons := [], objs := [], loops := [(5, packGet.nml5)], cuts := [(50013, packGet.nmj50013), (9, packGet.nmj9)], globs := globs, base := 0 }
noncomputable def packGet.lp (n : Nat) : LP (Kd.struct packGet.con.rs).T := fun lo κ body nm K s =>
  cond (!lo && Nat.beq κ 50013)
    (match packGet.shj50013.dec s with
    | some v => packGet.j50013 n (fun w0 w1 w2 => K .ret (packGet.outj50013e1.enc (w0, w1, w2, ()))) v.1 v.2.1 v.2.2.1 v.2.2.2.1
    | none => loops n (Kd.struct packGet.con.rs).T lo κ body nm K s)
    (cond (!lo && Nat.beq κ 9)
    (match packGet.shj9.dec s with
    | some v => packGet.j9 n (fun w0 w1 w2 w3 w4 => K .normal (packGet.outj9e0.enc (w0, w1, w2, w3, w4, ()))) (fun w0 w1 w2 => K .ret (packGet.outj9e1.enc (w0, w1, w2, ()))) v.1 v.2.1 v.2.2.1 v.2.2.2.1 v.2.2.2.2.1 v.2.2.2.2.2.1 v.2.2.2.2.2.2.1
    | none => loops n (Kd.struct packGet.con.rs).T lo κ body nm K s)
    (cond (lo && Nat.beq κ 5)
    (match packGet.shl5.dec s with
    | some v => packGet.l5 n (fun w0 w1 w2 => K .ret (packGet.outl5e1.enc (w0, w1, w2, ()))) (fun _ => K (.exit 0) (packGet.outl5e2.enc (()))) n v.1 v.2.1 v.2.2.1 v.2.2.2.1 v.2.2.2.2.1
    | none => loops n (Kd.struct packGet.con.rs).T lo κ body nm K s)
    (loops n (Kd.struct packGet.con.rs).T lo κ body nm K s)))
theorem packGet.atj50013 (n : Nat) (s : St) (K : Ex → St → Option (Kd.struct packGet.con.rs).T) : (packGet.lp n) false 50013 (evK packGet.env (packGet.lp n) n (sub [1, 1, 1, 0, 1, 0, 0, 1, 1, 0, 0, 1, 1, 1, 0, 1, 1, 1] packGet.body)) packGet.nmj50013 K s = loops n (Kd.struct packGet.con.rs).T false 50013 (evK packGet.env (packGet.lp n) n (sub [1, 1, 1, 0, 1, 0, 0, 1, 1, 0, 0, 1, 1, 1, 0, 1, 1, 1] packGet.body)) packGet.nmj50013 K s := by
  show (match packGet.shj50013.dec s with | some v => packGet.j50013 n (fun w0 w1 w2 => K .ret (packGet.outj50013e1.enc (w0, w1, w2, ()))) v.1 v.2.1 v.2.2.1 v.2.2.2.1 | none => loops n (Kd.struct packGet.con.rs).T false 50013 (evK packGet.env (packGet.lp n) n (sub [1, 1, 1, 0, 1, 0, 0, 1, 1, 0, 0, 1, 1, 1, 0, 1, 1, 1] packGet.body)) packGet.nmj50013 K s) = _
  cases h : packGet.shj50013.dec s with
  | none => rfl
  | some v =>
    rw [Shp.dec_enc h]
    kernel_rfl
theorem packGet.atj9 (n : Nat) (s : St) (K : Ex → St → Option (Kd.struct packGet.con.rs).T) : (packGet.lp n) false 9 (evK packGet.env (packGet.lp n) n (sub [1, 1, 1, 0, 1, 0, 0, 1, 1, 0, 0, 1, 1] packGet.body)) packGet.nmj9 K s = loops n (Kd.struct packGet.con.rs).T false 9 (evK packGet.env (packGet.lp n) n (sub [1, 1, 1, 0, 1, 0, 0, 1, 1, 0, 0, 1, 1] packGet.body)) packGet.nmj9 K s := by
  show (match packGet.shj9.dec s with | some v => packGet.j9 n (fun w0 w1 w2 w3 w4 => K .normal (packGet.outj9e0.enc (w0, w1, w2, w3, w4, ()))) (fun w0 w1 w2 => K .ret (packGet.outj9e1.enc (w0, w1, w2, ()))) v.1 v.2.1 v.2.2.1 v.2.2.2.1 v.2.2.2.2.1 v.2.2.2.2.2.1 v.2.2.2.2.2.2.1 | none => loops n (Kd.struct packGet.con.rs).T false 9 (evK packGet.env (packGet.lp n) n (sub [1, 1, 1, 0, 1, 0, 0, 1, 1, 0, 0, 1, 1] packGet.body)) packGet.nmj9 K s) = _
  cases h : packGet.shj9.dec s with
  | none => rfl
  | some v =>
    rw [Shp.dec_enc h]
    kernel_rfl
theorem packGet.atl5 (n : Nat) (s : St) (K : Ex → St → Option (Kd.struct packGet.con.rs).T) : (packGet.lp n) true 5 (evK packGet.env (packGet.lp n) n (sub [1, 1, 1, 0, 1, 0, 0] packGet.body)) packGet.nml5 K s = loops n (Kd.struct packGet.con.rs).T true 5 (evK packGet.env (packGet.lp n) n (sub [1, 1, 1, 0, 1, 0, 0] packGet.body)) packGet.nml5 K s := by
  show (match packGet.shl5.dec s with | some v => packGet.l5 n (fun w0 w1 w2 => K .ret (packGet.outl5e1.enc (w0, w1, w2, ()))) (fun _ => K (.exit 0) (packGet.outl5e2.enc (()))) n v.1 v.2.1 v.2.2.1 v.2.2.2.1 v.2.2.2.2.1 | none => loops n (Kd.struct packGet.con.rs).T true 5 (evK packGet.env (packGet.lp n) n (sub [1, 1, 1, 0, 1, 0, 0] packGet.body)) packGet.nml5 K s) = _
  cases h : packGet.shl5.dec s with
  | none => rfl
  | some v =>
    rw [Shp.dec_enc h]
    exact (evLoop_eq (sh := packGet.shl5) (body := evK packGet.env (packGet.lp n) n (sub [1, 1, 1, 0, 1, 0, 0] packGet.body)) (nm := packGet.nml5) (K := K) (b := fun nx v => packGet.b5 n (fun x0 x1 x2 x3 x4 => nx (x0, x1, x2, x3, x4, ())) (fun w0 w1 w2 => K .ret (packGet.outl5e1.enc (w0, w1, w2, ()))) (fun _ => K (.exit 0) (packGet.outl5e2.enc (()))) v.1 v.2.1 v.2.2.1 v.2.2.2.1 v.2.2.2.2.1) (l := fun m v => packGet.l5 n (fun w0 w1 w2 => K .ret (packGet.outl5e1.enc (w0, w1, w2, ()))) (fun _ => K (.exit 0) (packGet.outl5e2.enc (()))) m v.1 v.2.1 v.2.2.1 v.2.2.2.1 v.2.2.2.2.1) (fun _ => rfl) (fun _ _ => rfl) (fun m v => by kernel_rfl) n v).symm
theorem packGet.eq (n : Nat) (x : (Kd.struct packGet.con.ps).T) : evFunc packGet.env Tryd.f81 packGet.body packGet.con.ps packGet.con.rs (packGet.lp n) n x = packGet.con.f n x := by kernel_rfl
theorem packGet.sound : Sound Tryd.prog globs 81 packGet.con :=
  sound_by (E := packGet.env) (c := packGet.body) (envOk (G := globs) (lc := []) (lo := []) (envB_spec (by kernel_rfl)) rfl rfl trivial rfl trivial (by kernel_rfl) (by kernel_rfl)) Tryd.func81 (by kernel_rfl) packGet.lp (l := [(false, sub [1, 1, 1, 0, 1, 0, 0, 1, 1, 0, 0, 1, 1, 1, 0, 1, 1, 1] packGet.body, packGet.nmj50013), (false, sub [1, 1, 1, 0, 1, 0, 0, 1, 1, 0, 0, 1, 1] packGet.body, packGet.nmj9), (true, sub [1, 1, 1, 0, 1, 0, 0] packGet.body, packGet.nml5)]) (by kernel_rfl) (fun n => ⟨packGet.atj50013 n, ⟨packGet.atj9 n, ⟨packGet.atl5 n, trivial⟩⟩⟩) packGet.eq
noncomputable def packGetInt (fu : Nat) (b : List Int) (atv : Int) : Option (Int × Int × Int × Unit) :=
  (packGet fu b atv).bind fun r1 =>
  let t2 := IntKind.i64.wrap (sShr .u64 r1.1 (1 : Int))
  let t3 := IntKind.i64.wrap (bAnd .u64 r1.1 (1 : Int))
  let t4 := IntKind.i64.wrap (0 - t3)
  some (bXor .i64 t2 t4, r1.2.1, r1.2.2.1, ())

noncomputable def packGetInt.body : Code := Tryd.f67.body.getD .skip
noncomputable def packGetInt.con : Con := { ps := [(.slice (.int .u8)), (.int .i64)], rs := [(.int .i64), (.int .i64), (.int .i64)], f := fun n x => packGetInt n x.1 x.2.1 }
noncomputable def packGetInt.env : Env := { tys := [(2, ⟨(.int .i64), 8⟩), (3, ⟨(.int .i64), 8⟩), (57, ⟨(.int .i64), 8⟩), (41, ⟨(.int .u64), 8⟩)], elems := [], ptrs := [], cons := [(81, packGet.con)], objs := [], loops := [], cuts := [], globs := globs, base := 0 }
noncomputable def packGetInt.lp (n : Nat) : LP (Kd.struct packGetInt.con.rs).T := fun lo κ body nm K s =>
  loops n (Kd.struct packGetInt.con.rs).T lo κ body nm K s
theorem packGetInt.eq (n : Nat) (x : (Kd.struct packGetInt.con.ps).T) : evFunc packGetInt.env Tryd.f67 packGetInt.body packGetInt.con.ps packGetInt.con.rs (packGetInt.lp n) n x = packGetInt.con.f n x := by kernel_rfl
theorem packGetInt.sound : Sound Tryd.prog globs 67 packGetInt.con :=
  sound_by (E := packGetInt.env) (c := packGetInt.body) (envOk (G := globs) (lc := [(81, packGet.con)]) (lo := []) (envB_spec (by kernel_rfl)) rfl rfl ⟨.inl ⟨packGet.sound, by kernel_rfl⟩, trivial⟩ rfl trivial (by kernel_rfl) (by kernel_rfl)) Tryd.func67 (by kernel_rfl) packGetInt.lp (l := []) (by kernel_rfl) (fun n => trivial) packGetInt.eq
noncomputable def realFrom (fu : Nat) (bits : Int) : Option (Nat × Bool × Unit) :=
  (extFrom.f fu (bits, ())).bind fun r1 =>
  (realBits fu r1.1).bind fun r2 =>
  cond (r2.1 != bits) (
    some ((0 : Nat), false, ())) (
    some (r1.1, true, ()))

noncomputable def realFrom.body : Code := Tryd.f82.body.getD .skip
noncomputable def realFrom.con : Con := { ps := [(.int .u64)], rs := [.flt, .bool], f := fun n x => realFrom n x.1 }
noncomputable def realFrom.env : Env := { tys := [(44, ⟨.flt, 8⟩), (4, ⟨.bool, 1⟩)], elems := [], ptrs := [], cons := [(31, extFrom), (77, realBits.con)], objs := [], loops := [], cuts := [], globs := globs, base := 0 }
noncomputable def realFrom.lp (n : Nat) : LP (Kd.struct realFrom.con.rs).T := fun lo κ body nm K s =>
  loops n (Kd.struct realFrom.con.rs).T lo κ body nm K s
theorem realFrom.eq (n : Nat) (x : (Kd.struct realFrom.con.ps).T) : evFunc realFrom.env Tryd.f82 realFrom.body realFrom.con.ps realFrom.con.rs (realFrom.lp n) n x = realFrom.con.f n x := by kernel_rfl
theorem realFrom.sound : Sound Tryd.prog globs 82 realFrom.con :=
  sound_by (E := realFrom.env) (c := realFrom.body) (envOk (G := globs) (lc := [(31, extFrom), (77, realBits.con)]) (lo := []) (envB_spec (by kernel_rfl)) rfl rfl ⟨.inr (extFrom_ok Tryd.func31 (by kernel_rfl) (by kernel_rfl) (by kernel_rfl) (by kernel_rfl)), ⟨.inl ⟨realBits.sound, by kernel_rfl⟩, trivial⟩⟩ rfl trivial (by kernel_rfl) (by kernel_rfl)) Tryd.func82 (by kernel_rfl) realFrom.lp (l := []) (by kernel_rfl) (fun n => trivial) realFrom.eq
noncomputable def packGetReal.b5 (fu : Nat) (next : Int → Int → (List Int) → Int → Int → Option (Nat × Int × Int × Unit)) (k2 : Int → Int → Option (Nat × Int × Int × Unit)) (atv : Int) (n : Int) (v : List Int) (vx2 : Int) (vx3 : Int) : Option (Nat × Int × Int × Unit) :=
  cond (decide (vx3 < vx2)) (
    chk (ixOk v vx3) <|
    let e1 := ixL (0 : Int) v vx3
    let t2 := bOr .u64 (sShl .u64 n (8 : Int)) (IntKind.u64.wrap e1)
    let t3 := IntKind.i64.wrap (vx3 + (1 : Int))
    next atv t2 v vx2 t3) (
    k2 atv n)
noncomputable def packGetReal.l5 (fu : Nat) (k2 : Int → Int → Option (Nat × Int × Int × Unit)) : Nat → Int → Int → (List Int) → Int → Int → Option (Nat × Int × Int × Unit)
  | 0, _, _, _, _, _ => none
  | m + 1, atv, n, v, vx2, vx3 => packGetReal.b5 fu (packGetReal.l5 fu k2 m) k2 atv n v vx2 vx3
noncomputable def packGetReal (fu : Nat) (b : List Int) (atv : Int) : Option (Nat × Int × Int × Unit) :=
  cond (decide (atv < (0 : Int))) (
    some ((0 : Nat), (0 : Int), (3 : Int), ())) (
    let t1 := IntKind.i64.wrap ((b.length : Int) - (8 : Int))
    cond (decide (atv > t1)) (
      some ((0 : Nat), (0 : Int), (3 : Int), ())) (
      let t2 := IntKind.i64.wrap (atv + (8 : Int))
      chk (cutOk b atv t2) <|
      let t3 := ((cutL b atv t2).length : Int)
      packGetReal.l5 fu (fun atvq2 nq2 => 
          (realFrom fu nq2).bind fun r4 =>
          cond (!r4.2.1) (
            some ((0 : Nat), (0 : Int), (2 : Int), ())) (
            let t5 := IntKind.i64.wrap (atvq2 + (8 : Int))
            some (r4.1, t5, (0 : Int), ()))) fu atv (0 : Int) (cutL b atv t2) t3 (0 : Int)))

noncomputable def packGetReal.body : Code := Tryd.f68.body.getD .skip
abbrev packGetReal.shl5 : Shp := ⟨[.u, .d (.int .i64), .u, .u, .u, .u, .u, .d (.int .u64), .u, .u, .u, .u, .u, .u, .u, .u, .u, .u, .u, .u, .u, .u, .u, .u, .u, .d (.slice (.int .u8)), .d (.int .i64), .d (.int .i64), .u, .u, .u, .u, .u, .u, .u, .u, .u, .u, .u, .u, .u, .u, .u, .u, .u, .u, .u], []⟩
abbrev packGetReal.outl5e2 : Shp := ⟨[.u, .d (.int .i64), .u, .u, .u, .u, .u, .d (.int .u64), .u, .u, .u, .u, .u, .u, .u, .u, .u, .u, .u, .u, .u, .u, .u, .u, .u, .u, .u, .u, .u, .u, .u, .u, .u, .u, .u, .u, .u, .u, .u, .u, .u, .u, .u, .u, .u, .u, .u], []⟩
noncomputable def packGetReal.nml5 : Norm := ⟨{ keep := [1, 7, 25, 26, 27], shut := [(1, (.int .i64)), (7, (.int .u64)), (25, (.slice (.int .u8))), (26, (.int .i64)), (27, (.int .i64))], retag := [], heap := 0, dead := [], cshut := [], cretag := [] }, [(2, { keep := [1, 7], shut := [(1, (.int .i64)), (7, (.int .u64))], retag := [], heap := 0, dead := [], cshut := [], cretag := [] })]⟩
noncomputable def packGetReal.con : Con := { ps := [(.slice (.int .u8)), (.int .i64)], rs := [.flt, (.int .i64), (.int .i64)], f := fun n x => packGetReal n x.1 x.2.1 }
noncomputable def packGetReal.env : Env := { tys := [(44, ⟨.flt, 8⟩), (3, ⟨(.int .i64), 8⟩), (57, ⟨(.int .i64), 8⟩), (4, ⟨.bool, 1⟩), (5, ⟨(.int .u8), 1⟩), (41, ⟨(.int .u64), 8⟩)], elems := [(56, 5)], ptrs := [], cons := [(82, realFrom.con)], objs := [], loops := [(5, packGetReal.nml5)], cuts := [], globs := globs, base := 0 }
noncomputable def packGetReal.lp (n : Nat) : LP (Kd.struct packGetReal.con.rs).T := fun lo κ body nm K s =>
  cond (lo && Nat.beq κ 5)
    (match packGetReal.shl5.dec s with
    | some v => packGetReal.l5 n (fun w0 w1 => K (.exit 0) (packGetReal.outl5e2.enc (w0, w1, ()))) n v.1 v.2.1 v.2.2.1 v.2.2.2.1 v.2.2.2.2.1
    | none => loops n (Kd.struct packGetReal.con.rs).T lo κ body nm K s)
    (loops n (Kd.struct packGetReal.con.rs).T lo κ body nm K s)
theorem packGetReal.atl5 (n : Nat) (s : St) (K : Ex → St → Option (Kd.struct packGetReal.con.rs).T) : (packGetReal.lp n) true 5 (evK packGetReal.env (packGetReal.lp n) n (sub [1, 1, 1, 0, 1, 0, 0] packGetReal.body)) packGetReal.nml5 K s = loops n (Kd.struct packGetReal.con.rs).T true 5 (evK packGetReal.env (packGetReal.lp n) n (sub [1, 1, 1, 0, 1, 0, 0] packGetReal.body)) packGetReal.nml5 K s := by
  show (match packGetReal.shl5.dec s with | some v => packGetReal.l5 n (fun w0 w1 => K (.exit 0) (packGetReal.outl5e2.enc (w0, w1, ()))) n v.1 v.2.1 v.2.2.1 v.2.2.2.1 v.2.2.2.2.1 | none => loops n (Kd.struct packGetReal.con.rs).T true 5 (evK packGetReal.env (packGetReal.lp n) n (sub [1, 1, 1, 0, 1, 0, 0] packGetReal.body)) packGetReal.nml5 K s) = _
  cases h : packGetReal.shl5.dec s with
  | none => rfl
  | some v =>
    rw [Shp.dec_enc h]
    exact (evLoop_eq (sh := packGetReal.shl5) (body := evK packGetReal.env (packGetReal.lp n) n (sub [1, 1, 1, 0, 1, 0, 0] packGetReal.body)) (nm := packGetReal.nml5) (K := K) (b := fun nx v => packGetReal.b5 n (fun x0 x1 x2 x3 x4 => nx (x0, x1, x2, x3, x4, ())) (fun w0 w1 => K (.exit 0) (packGetReal.outl5e2.enc (w0, w1, ()))) v.1 v.2.1 v.2.2.1 v.2.2.2.1 v.2.2.2.2.1) (l := fun m v => packGetReal.l5 n (fun w0 w1 => K (.exit 0) (packGetReal.outl5e2.enc (w0, w1, ()))) m v.1 v.2.1 v.2.2.1 v.2.2.2.1 v.2.2.2.2.1) (fun _ => rfl) (fun _ _ => rfl) (fun m v => by kernel_rfl) n v).symm
theorem packGetReal.eq (n : Nat) (x : (Kd.struct packGetReal.con.ps).T) : evFunc packGetReal.env Tryd.f68 packGetReal.body packGetReal.con.ps packGetReal.con.rs (packGetReal.lp n) n x = packGetReal.con.f n x := by kernel_rfl
theorem packGetReal.sound : Sound Tryd.prog globs 68 packGetReal.con :=
  sound_by (E := packGetReal.env) (c := packGetReal.body) (envOk (G := globs) (lc := [(82, realFrom.con)]) (lo := []) (envB_spec (by kernel_rfl)) rfl rfl ⟨.inl ⟨realFrom.sound, by kernel_rfl⟩, trivial⟩ rfl trivial (by kernel_rfl) (by kernel_rfl)) Tryd.func68 (by kernel_rfl) packGetReal.lp (l := [(true, sub [1, 1, 1, 0, 1, 0, 0] packGetReal.body, packGetReal.nml5)]) (by kernel_rfl) (fun n => ⟨packGetReal.atl5 n, trivial⟩) packGetReal.eq
noncomputable def packGetText (fu : Nat) (b : List Int) (atv : Int) (most : Int) : Option ((List Int) × Int × Int × Unit) :=
  (packGet fu b atv).bind fun r1 =>
  cond (r1.2.2.1 != (0 : Int)) (
    some (([] : List Int), (0 : Int), r1.2.2.1, ())) (
    let t2 := IntKind.u64.wrap (max2 most (0 : Int))
    cond (decide (r1.1 > t2)) (
      some (([] : List Int), (0 : Int), (4 : Int), ())) (
      let t3 := IntKind.i64.wrap ((b.length : Int) - r1.2.1)
      let t4 := decide (r1.1 > IntKind.u64.wrap t3)
      cond t4 (
        some (([] : List Int), (0 : Int), (3 : Int), ())) (
        let t5 := IntKind.i64.wrap (r1.2.1 + IntKind.i64.wrap r1.1)
        chk (cutOk b r1.2.1 t5) <|
        let t6 := IntKind.i64.wrap (r1.2.1 + IntKind.i64.wrap r1.1)
        some (cutL b r1.2.1 t5, t6, (0 : Int), ()))))

noncomputable def packGetText.body : Code := Tryd.f69.body.getD .skip
noncomputable def packGetText.con : Con := { ps := [(.slice (.int .u8)), (.int .i64), (.int .i64)], rs := [.str, (.int .i64), (.int .i64)], f := fun n x => packGetText n x.1 x.2.1 x.2.2.1 }
noncomputable def packGetText.env : Env := { tys := [(9, ⟨.str, 16⟩), (3, ⟨(.int .i64), 8⟩), (57, ⟨(.int .i64), 8⟩), (41, ⟨(.int .u64), 8⟩), (5, ⟨(.int .u8), 1⟩), (56, ⟨(.slice (.int .u8)), 24⟩)], elems := [(56, 5)], ptrs := [], cons := [(81, packGet.con)], objs := [], loops := [], cuts := [], globs := globs, base := 0 }
noncomputable def packGetText.lp (n : Nat) : LP (Kd.struct packGetText.con.rs).T := fun lo κ body nm K s =>
  loops n (Kd.struct packGetText.con.rs).T lo κ body nm K s
theorem packGetText.eq (n : Nat) (x : (Kd.struct packGetText.con.ps).T) : evFunc packGetText.env Tryd.f69 packGetText.body packGetText.con.ps packGetText.con.rs (packGetText.lp n) n x = packGetText.con.f n x := by kernel_rfl
theorem packGetText.sound : Sound Tryd.prog globs 69 packGetText.con :=
  sound_by (E := packGetText.env) (c := packGetText.body) (envOk (G := globs) (lc := [(81, packGet.con)]) (lo := []) (envB_spec (by kernel_rfl)) rfl rfl ⟨.inl ⟨packGet.sound, by kernel_rfl⟩, trivial⟩ rfl trivial (by kernel_rfl) (by kernel_rfl)) Tryd.func69 (by kernel_rfl) packGetText.lp (l := []) (by kernel_rfl) (fun n => trivial) packGetText.eq
noncomputable def valueGet.j14 (fu : Nat) (k1 : Int → Int → S1 → Option (S1 × Int × Int × Unit)) (endv : Int) (ev : Int) (b0 : S1) (b1 : S1) : Option (S1 × Int × Int × Unit) :=
  cond (ev != (0 : Int)) (
    k1 (0 : Int) ev ((0 : Int), (0 : Int), (0 : Nat), [], ())) (
    k1 endv (0 : Int) b1)
noncomputable def valueGet (fu : Nat) (b : List Int) (atv : Int) : Option (S1 × Int × Int × Unit) :=
  cond (decide (atv < (0 : Int))) (
    some (((0 : Int), (0 : Int), (0 : Nat), [], ()), (0 : Int), (3 : Int), ())) (
    let t1 := decide (atv ≥ (b.length : Int))
    cond t1 (
      some (((0 : Int), (0 : Int), (0 : Nat), [], ()), (0 : Int), (3 : Int), ())) (
      chk (ixOk b atv) <|
      let e2 := ixL (0 : Int) b atv
      let t3 := IntKind.i64.wrap (atv + (1 : Int))
      cond (e2 == (0 : Int)) (
        valueGet.j14 fu (fun vq1 vq1x2 b0q1 => 
            some (b0q1, vq1, vq1x2, ())) t3 (0 : Int) ((0 : Int), (0 : Int), (0 : Nat), [], ()) (e2, (0 : Int), (0 : Nat), [], ())) (
        cond (e2 == (1 : Int)) (
          let t4 := IntKind.i64.wrap (atv + (1 : Int))
          (packGetInt fu b t4).bind fun r5 =>
          valueGet.j14 fu (fun vq2 vq2x2 b0q2 => 
              some (b0q2, vq2, vq2x2, ())) r5.2.1 r5.2.2.1 ((0 : Int), (0 : Int), (0 : Nat), [], ()) (e2, r5.1, (0 : Nat), [], ())) (
          cond (e2 == (2 : Int)) (
            let t6 := IntKind.i64.wrap (atv + (1 : Int))
            (packGetReal fu b t6).bind fun r7 =>
            valueGet.j14 fu (fun vq3 vq3x2 b0q3 => 
                some (b0q3, vq3, vq3x2, ())) r7.2.1 r7.2.2.1 ((0 : Int), (0 : Int), (0 : Nat), [], ()) (e2, (0 : Int), r7.1, [], ())) (
            cond (e2 == (3 : Int)) (
              let t8 := IntKind.i64.wrap (atv + (1 : Int))
              (packGetText fu b t8 (255 : Int)).bind fun r9 =>
              valueGet.j14 fu (fun vq4 vq4x2 b0q4 => 
                  some (b0q4, vq4, vq4x2, ())) r9.2.1 r9.2.2.1 ((0 : Int), (0 : Int), (0 : Nat), [], ()) (e2, (0 : Int), (0 : Nat), r9.1, ())) (
              valueGet.j14 fu (fun vq5 vq5x2 b0q5 => 
                  some (b0q5, vq5, vq5x2, ())) t3 (11 : Int) ((0 : Int), (0 : Int), (0 : Nat), [], ()) (e2, (0 : Int), (0 : Nat), [], ())))))))

noncomputable def valueGet.body : Code := Tryd.f45.body.getD .skip
abbrev valueGet.shj14 : Shp := ⟨[.u, .u, .u, .u, .p 0 0, .u, .u, .p 1 0, .d (.int .i64), .d (.int .i64), .u, .u, .u, .u, .u, .u, .u, .u, .u, .u, .u, .u, .u, .u, .u, .u, .u, .u, .u, .u, .u, .u, .u, .u, .u, .u, .u, .u, .u, .u, .u, .u, .u, .u, .u, .u, .u, .u, .u, .u, .u, .u, .u, .u, .u, .u, .u, .u, .u, .u, .u, .u, .u, .u, .u, .u, .u, .u, .u], [.c [.g kS1], .c [.g kS1]]⟩
abbrev valueGet.outj14e1 : Shp := ⟨[.u, .u, .u, .u, .p 0 0, .d (.int .i64), .d (.int .i64), .u, .u, .u, .u, .u, .u, .u, .u, .u, .u, .u, .u, .u, .u, .u, .u, .u, .u, .u, .u, .u, .u, .u, .u, .u, .u, .u, .u, .u, .u, .u, .u, .u, .u, .u, .u, .u, .u, .u, .u, .u, .u, .u, .u, .u, .u, .u, .u, .u, .u, .u, .u, .u, .u, .u, .u, .u, .u, .u, .u, .u, .u], [.c [.g kS1]]⟩
noncomputable def valueGet.nmj14 : Norm := ⟨{ keep := [4, 7, 8, 9], shut := [(8, (.int .i64)), (9, (.int .i64))], retag := [], heap := 2, dead := [], cshut := [(0, 0, (.int .u8)), (0, 1, (.int .i64)), (0, 2, .flt), (0, 3, .str), (1, 0, (.int .u8)), (1, 1, (.int .i64)), (1, 2, .flt), (1, 3, .str)], cretag := [] }, [(1, { keep := [4, 5, 6], shut := [(5, (.int .i64)), (6, (.int .i64))], retag := [], heap := 1, dead := [], cshut := [(0, 0, (.int .u8)), (0, 1, (.int .i64)), (0, 2, .flt), (0, 3, .str)], cretag := [] })]⟩
noncomputable def valueGet.con : Con := { ps := [(.slice (.int .u8)), (.int .i64)], rs := [kS1, (.int .i64), (.int .i64)], f := fun n x => valueGet n x.1 x.2.1 }
noncomputable def valueGet.env : Env := { tys := [(46, ⟨kS1, 40⟩), (3, ⟨(.int .i64), 8⟩), (57, ⟨(.int .i64), 8⟩), (4, ⟨.bool, 1⟩), (5, ⟨(.int .u8), 1⟩), (2, ⟨(.int .i64), 8⟩), (44, ⟨.flt, 8⟩), (9, ⟨.str, 16⟩)], elems := [(56, 5)], ptrs := [], cons := [(67, packGetInt.con), (68, packGetReal.con), (69, packGetText.con)], objs := [], loops := [], cuts := [(14, valueGet.nmj14)], globs := globs, base := 0 }
noncomputable def valueGet.lp (n : Nat) : LP (Kd.struct valueGet.con.rs).T := fun lo κ body nm K s =>
  cond (!lo && Nat.beq κ 14)
    (match valueGet.shj14.dec s with
    | some v => valueGet.j14 n (fun w0 w1 w2 => K .ret (valueGet.outj14e1.enc (w0, w1, w2, ()))) v.1 v.2.1 v.2.2.1 v.2.2.2.1
    | none => loops n (Kd.struct valueGet.con.rs).T lo κ body nm K s)
    (loops n (Kd.struct valueGet.con.rs).T lo κ body nm K s)
theorem valueGet.atj14 (n : Nat) (s : St) (K : Ex → St → Option (Kd.struct valueGet.con.rs).T) : (valueGet.lp n) false 14 (evK valueGet.env (valueGet.lp n) n (sub [1, 1, 1, 1, 1] valueGet.body)) valueGet.nmj14 K s = loops n (Kd.struct valueGet.con.rs).T false 14 (evK valueGet.env (valueGet.lp n) n (sub [1, 1, 1, 1, 1] valueGet.body)) valueGet.nmj14 K s := by
  show (match valueGet.shj14.dec s with | some v => valueGet.j14 n (fun w0 w1 w2 => K .ret (valueGet.outj14e1.enc (w0, w1, w2, ()))) v.1 v.2.1 v.2.2.1 v.2.2.2.1 | none => loops n (Kd.struct valueGet.con.rs).T false 14 (evK valueGet.env (valueGet.lp n) n (sub [1, 1, 1, 1, 1] valueGet.body)) valueGet.nmj14 K s) = _
  cases h : valueGet.shj14.dec s with
  | none => rfl
  | some v =>
    rw [Shp.dec_enc h]
    kernel_rfl
theorem valueGet.eq (n : Nat) (x : (Kd.struct valueGet.con.ps).T) : evFunc valueGet.env Tryd.f45 valueGet.body valueGet.con.ps valueGet.con.rs (valueGet.lp n) n x = valueGet.con.f n x := by kernel_rfl
theorem valueGet.sound : Sound Tryd.prog globs 45 valueGet.con :=
  sound_by (E := valueGet.env) (c := valueGet.body) (envOk (G := globs) (lc := [(67, packGetInt.con), (68, packGetReal.con), (69, packGetText.con)]) (lo := []) (envB_spec (by kernel_rfl)) rfl rfl ⟨.inl ⟨packGetInt.sound, by kernel_rfl⟩, ⟨.inl ⟨packGetReal.sound, by kernel_rfl⟩, ⟨.inl ⟨packGetText.sound, by kernel_rfl⟩, trivial⟩⟩⟩ rfl trivial (by kernel_rfl) (by kernel_rfl)) Tryd.func45 (by kernel_rfl) valueGet.lp (l := [(false, sub [1, 1, 1, 1, 1] valueGet.body, valueGet.nmj14)]) (by kernel_rfl) (fun n => ⟨valueGet.atj14 n, trivial⟩) valueGet.eq
noncomputable def predGet.b5 (fu : Nat) (next : (List Int) → Int → Int → Int → Bool → Int → (List S2) → Bool → Int → (List S2) → Option (S3 × Int × Int × Unit)) (k1 : Int → Int → Bool → Int → (List S2) → Option (S3 × Int × Int × Unit)) (k2 : Int → Bool → Int → (List S2) → Bool → Int → (List S2) → Option (S3 × Int × Int × Unit)) (b : List Int) (atv : Int) (v : Int) (vx2 : Int) (c0 : Bool) (c0x2 : Int) (c0x3 : List S2) (c1 : Bool) (c1x2 : Int) (c1x3 : List S2) : Option (S3 × Int × Int × Unit) :=
  cond (decide (vx2 < v)) (
    let t1 := IntKind.i64.wrap ((b.length : Int) - (2 : Int))
    cond (decide (atv > t1)) (
      k1 (0 : Int) (3 : Int) false (0 : Int) []) (
      let t2 := IntKind.i64.wrap (atv + (2 : Int))
      (valueGet fu b t2).bind fun r3 =>
      cond (r3.2.2.1 != (0 : Int)) (
        k1 (0 : Int) r3.2.2.1 false (0 : Int) []) (
        chk (ixOk b atv) <|
        let e4 := ixL (0 : Int) b atv
        let t5 := IntKind.i64.wrap (atv + (1 : Int))
        chk (ixOk b t5) <|
        let e6 := ixL (0 : Int) b t5
        (predRight fu (e4, e6, r3.1, ())).bind fun r7 =>
        cond (!r7.1) (
          k1 (0 : Int) (1 : Int) false (0 : Int) []) (
          chk (apOk c1x3 ([(e4, e6, r3.1, ())]) 48) <|
          let t8 := c1x3 ++ ([(e4, e6, r3.1, ())])
          let t9 := IntKind.i64.wrap (vx2 + (1 : Int))
          next b r3.2.1 v t9 c0 c0x2 c0x3 c1 c1x2 t8)))) (
    k2 atv c0 c0x2 c0x3 c1 c1x2 c1x3)
noncomputable def predGet.l5 (fu : Nat) (k1 : Int → Int → Bool → Int → (List S2) → Option (S3 × Int × Int × Unit)) (k2 : Int → Bool → Int → (List S2) → Bool → Int → (List S2) → Option (S3 × Int × Int × Unit)) : Nat → (List Int) → Int → Int → Int → Bool → Int → (List S2) → Bool → Int → (List S2) → Option (S3 × Int × Int × Unit)
  | 0, _, _, _, _, _, _, _, _, _, _ => none
  | m + 1, b, atv, v, vx2, c0, c0x2, c0x3, c1, c1x2, c1x3 => predGet.b5 fu (predGet.l5 fu k1 k2 m) k1 k2 b atv v vx2 c0 c0x2 c0x3 c1 c1x2 c1x3
noncomputable def predGet (fu : Nat) (b : List Int) (atv : Int) : Option (S3 × Int × Int × Unit) :=
  (predHead fu b atv).bind fun r1 =>
  cond (r1.2.2.2.1 != (0 : Int)) (
    some ((false, (0 : Int), [], ()), (0 : Int), r1.2.2.2.1, ())) (
    predGet.l5 fu (fun vq3 vq3x2 c0q3 c0q3x2 c0q3x3 => 
        some ((c0q3, c0q3x2, c0q3x3, ()), vq3, vq3x2, ())) (fun atvq4 c0q4 c0q4x2 c0q4x3 c1q4 c1q4x2 c1q4x3 => 
        some ((c1q4, c1q4x2, c1q4x3, ()), atvq4, (0 : Int), ())) fu b r1.2.2.1 r1.2.1 (0 : Int) false (0 : Int) [] r1.1.1 r1.1.2.1 [])

noncomputable def predGet.body : Code := Tryd.f22.body.getD .skip
abbrev predGet.shl5 : Shp := ⟨[.d (.slice (.int .u8)), .d (.int .i64), .u, .u, .p 0 0, .u, .u, .p 1 0, .u, .u, .u, .u, .u, .u, .u, .u, .u, .u, .u, .u, .u, .u, .u, .u, .u, .u, .d (.int .i64), .d (.int .i64), .u, .u, .u, .u, .u, .u, .u, .u, .u, .u, .u, .u, .u, .u, .u, .u, .u, .u, .u, .u, .u, .u, .u, .u, .u, .u, .u, .u, .u, .u, .u, .u, .u, .u, .u, .u, .u, .u, .u, .u, .u, .u, .u, .u], [.c [.d .bool, .d (.int .u8), .o 1002 kS2], .c [.d .bool, .d (.int .u8), .o 1052 kS2]]⟩
abbrev predGet.outl5e1 : Shp := ⟨[.u, .u, .u, .u, .p 0 0, .d (.int .i64), .d (.int .i64), .u, .u, .u, .u, .u, .u, .u, .u, .u, .u, .u, .u, .u, .u, .u, .u, .u, .u, .u, .u, .u, .u, .u, .u, .u, .u, .u, .u, .u, .u, .u, .u, .u, .u, .u, .u, .u, .u, .u, .u, .u, .u, .u, .u, .u, .u, .u, .u, .u, .u, .u, .u, .u, .u, .u, .u, .u, .u, .u, .u, .u, .u, .u, .u, .u], [.c [.d .bool, .d (.int .u8), .o 1002 kS2]]⟩
abbrev predGet.outl5e2 : Shp := ⟨[.u, .d (.int .i64), .u, .u, .p 0 0, .u, .u, .p 1 0, .u, .u, .u, .u, .u, .u, .u, .u, .u, .u, .u, .u, .u, .u, .u, .u, .u, .u, .u, .u, .u, .u, .u, .u, .u, .u, .u, .u, .u, .u, .u, .u, .u, .u, .u, .u, .u, .u, .u, .u, .u, .u, .u, .u, .u, .u, .u, .u, .u, .u, .u, .u, .u, .u, .u, .u, .u, .u, .u, .u, .u, .u, .u, .u], [.c [.d .bool, .d (.int .u8), .o 1002 kS2], .c [.d .bool, .d (.int .u8), .o 1052 kS2]]⟩
noncomputable def predGet.nml5 : Norm := ⟨{ keep := [0, 1, 4, 7, 26, 27], shut := [(0, (.slice (.int .u8))), (1, (.int .i64)), (26, (.int .i64)), (27, (.int .i64))], retag := [], heap := 2, dead := [], cshut := [(0, 0, .bool), (0, 1, (.int .u8)), (1, 0, .bool), (1, 1, (.int .u8))], cretag := [(0, 2, 1002, kS2), (1, 2, 1052, kS2)] }, [(1, { keep := [4, 5, 6], shut := [(5, (.int .i64)), (6, (.int .i64))], retag := [], heap := 1, dead := [], cshut := [(0, 0, .bool), (0, 1, (.int .u8))], cretag := [(0, 2, 1002, kS2)] }), (2, { keep := [1, 4, 7], shut := [(1, (.int .i64))], retag := [], heap := 2, dead := [], cshut := [(0, 0, .bool), (0, 1, (.int .u8)), (1, 0, .bool), (1, 1, (.int .u8))], cretag := [(0, 2, 1002, kS2), (1, 2, 1052, kS2)] })]⟩
noncomputable def predGet.con : Con := { ps := [(.slice (.int .u8)), (.int .i64)], rs := [kS3, (.int .i64), (.int .i64)], f := fun n x => predGet n x.1 x.2.1 }
noncomputable def predGet.env : Env := { tys := [(30, ⟨kS3, 32⟩), (3, ⟨(.int .i64), 8⟩), (57, ⟨(.int .i64), 8⟩), (5, ⟨(.int .u8), 1⟩), (46, ⟨kS1, 40⟩), (50, ⟨kS2, 48⟩), (28, ⟨(.slice kS2), 24⟩)], elems := [(56, 5), (28, 50)], ptrs := [], cons := [(44, predHead.con), (45, valueGet.con), (25, predRight.con)], objs := [], loops := [(5, predGet.nml5)], cuts := [], globs := globs, base := 0 }
noncomputable def predGet.lp (n : Nat) : LP (Kd.struct predGet.con.rs).T := fun lo κ body nm K s =>
  cond (lo && Nat.beq κ 5)
    (match predGet.shl5.dec s with
    | some v => predGet.l5 n (fun w0 w1 w2 w3 w4 => K .ret (predGet.outl5e1.enc (w0, w1, w2, w3, w4, ()))) (fun w0 w1 w2 w3 w4 w5 w6 => K (.exit 0) (predGet.outl5e2.enc (w0, w1, w2, w3, w4, w5, w6, ()))) n v.1 v.2.1 v.2.2.1 v.2.2.2.1 v.2.2.2.2.1 v.2.2.2.2.2.1 v.2.2.2.2.2.2.1 v.2.2.2.2.2.2.2.1 v.2.2.2.2.2.2.2.2.1 v.2.2.2.2.2.2.2.2.2.1
    | none => loops n (Kd.struct predGet.con.rs).T lo κ body nm K s)
    (loops n (Kd.struct predGet.con.rs).T lo κ body nm K s)
theorem predGet.atl5 (n : Nat) (s : St) (K : Ex → St → Option (Kd.struct predGet.con.rs).T) : (predGet.lp n) true 5 (evK predGet.env (predGet.lp n) n (sub [1, 1, 1, 0, 1, 0, 0] predGet.body)) predGet.nml5 K s = loops n (Kd.struct predGet.con.rs).T true 5 (evK predGet.env (predGet.lp n) n (sub [1, 1, 1, 0, 1, 0, 0] predGet.body)) predGet.nml5 K s := by
  show (match predGet.shl5.dec s with | some v => predGet.l5 n (fun w0 w1 w2 w3 w4 => K .ret (predGet.outl5e1.enc (w0, w1, w2, w3, w4, ()))) (fun w0 w1 w2 w3 w4 w5 w6 => K (.exit 0) (predGet.outl5e2.enc (w0, w1, w2, w3, w4, w5, w6, ()))) n v.1 v.2.1 v.2.2.1 v.2.2.2.1 v.2.2.2.2.1 v.2.2.2.2.2.1 v.2.2.2.2.2.2.1 v.2.2.2.2.2.2.2.1 v.2.2.2.2.2.2.2.2.1 v.2.2.2.2.2.2.2.2.2.1 | none => loops n (Kd.struct predGet.con.rs).T true 5 (evK predGet.env (predGet.lp n) n (sub [1, 1, 1, 0, 1, 0, 0] predGet.body)) predGet.nml5 K s) = _
  cases h : predGet.shl5.dec s with
  | none => rfl
  | some v =>
    rw [Shp.dec_enc h]
    exact (evLoop_eq (sh := predGet.shl5) (body := evK predGet.env (predGet.lp n) n (sub [1, 1, 1, 0, 1, 0, 0] predGet.body)) (nm := predGet.nml5) (K := K) (b := fun nx v => predGet.b5 n (fun x0 x1 x2 x3 x4 x5 x6 x7 x8 x9 => nx (x0, x1, x2, x3, x4, x5, x6, x7, x8, x9, ())) (fun w0 w1 w2 w3 w4 => K .ret (predGet.outl5e1.enc (w0, w1, w2, w3, w4, ()))) (fun w0 w1 w2 w3 w4 w5 w6 => K (.exit 0) (predGet.outl5e2.enc (w0, w1, w2, w3, w4, w5, w6, ()))) v.1 v.2.1 v.2.2.1 v.2.2.2.1 v.2.2.2.2.1 v.2.2.2.2.2.1 v.2.2.2.2.2.2.1 v.2.2.2.2.2.2.2.1 v.2.2.2.2.2.2.2.2.1 v.2.2.2.2.2.2.2.2.2.1) (l := fun m v => predGet.l5 n (fun w0 w1 w2 w3 w4 => K .ret (predGet.outl5e1.enc (w0, w1, w2, w3, w4, ()))) (fun w0 w1 w2 w3 w4 w5 w6 => K (.exit 0) (predGet.outl5e2.enc (w0, w1, w2, w3, w4, w5, w6, ()))) m v.1 v.2.1 v.2.2.1 v.2.2.2.1 v.2.2.2.2.1 v.2.2.2.2.2.1 v.2.2.2.2.2.2.1 v.2.2.2.2.2.2.2.1 v.2.2.2.2.2.2.2.2.1 v.2.2.2.2.2.2.2.2.2.1) (fun _ => rfl) (fun _ _ => rfl) (fun m v => by kernel_rfl) n v).symm
theorem predGet.eq (n : Nat) (x : (Kd.struct predGet.con.ps).T) : evFunc predGet.env Tryd.f22 predGet.body predGet.con.ps predGet.con.rs (predGet.lp n) n x = predGet.con.f n x := by kernel_rfl
theorem predGet.sound : Sound Tryd.prog globs 22 predGet.con :=
  sound_by (E := predGet.env) (c := predGet.body) (envOk (G := globs) (lc := [(44, predHead.con), (45, valueGet.con), (25, predRight.con)]) (lo := []) (envB_spec (by kernel_rfl)) rfl rfl ⟨.inl ⟨predHead.sound, by kernel_rfl⟩, ⟨.inl ⟨valueGet.sound, by kernel_rfl⟩, ⟨.inl ⟨predRight.sound, by kernel_rfl⟩, trivial⟩⟩⟩ rfl trivial (by kernel_rfl) (by kernel_rfl)) Tryd.func22 (by kernel_rfl) predGet.lp (l := [(true, sub [1, 1, 1, 0, 1, 0, 0] predGet.body, predGet.nml5)]) (by kernel_rfl) (fun n => ⟨predGet.atl5 n, trivial⟩) predGet.eq
noncomputable def ref04Same (fu : Nat) (a : S1) (b : S1) : Option (Bool × Unit) :=
  cond (a.1 != b.1) (
    some (false, ())) (
    cond (a.1 == (1 : Int)) (
      some (a.2.1 == b.2.1, ())) (
      cond (a.1 == (2 : Int)) (
        (ref02Of fu a.2.2.1).bind fun r1 =>
        (ref02PartsBits fu r1.1).bind fun r2 =>
        (ref02Of fu b.2.2.1).bind fun r3 =>
        (ref02PartsBits fu r3.1).bind fun r4 =>
        some (r2.1 == r4.1, ())) (
        cond (a.1 == (3 : Int)) (
          some (a.2.2.2.1 == b.2.2.2.1, ())) (
          some (true, ())))))

noncomputable def ref04Same.body : Code := Tryd.f40.body.getD .skip
noncomputable def ref04Same.con : Con := { ps := [kS1, kS1], rs := [.bool], f := fun n x => ref04Same n x.1 x.2.1 }
noncomputable def ref04Same.env : Env := { tys := [(46, ⟨kS1, 40⟩), (4, ⟨.bool, 1⟩), (5, ⟨(.int .u8), 1⟩), (2, ⟨(.int .i64), 8⟩), (44, ⟨.flt, 8⟩), (9, ⟨.str, 16⟩)], elems := [], ptrs := [], cons := [(35, ref02Of.con), (60, ref02PartsBits.con)], objs := [], loops := [], cuts := [], globs := globs, base := 0 }
noncomputable def ref04Same.lp (n : Nat) : LP (Kd.struct ref04Same.con.rs).T := fun lo κ body nm K s =>
  loops n (Kd.struct ref04Same.con.rs).T lo κ body nm K s
theorem ref04Same.eq (n : Nat) (x : (Kd.struct ref04Same.con.ps).T) : evFunc ref04Same.env Tryd.f40 ref04Same.body ref04Same.con.ps ref04Same.con.rs (ref04Same.lp n) n x = ref04Same.con.f n x := by kernel_rfl
theorem ref04Same.sound : Sound Tryd.prog globs 40 ref04Same.con :=
  sound_by (E := ref04Same.env) (c := ref04Same.body) (envOk (G := globs) (lc := [(35, ref02Of.con), (60, ref02PartsBits.con)]) (lo := []) (envB_spec (by kernel_rfl)) rfl rfl ⟨.inl ⟨ref02Of.sound, by kernel_rfl⟩, ⟨.inl ⟨ref02PartsBits.sound, by kernel_rfl⟩, trivial⟩⟩ rfl trivial (by kernel_rfl) (by kernel_rfl)) Tryd.func40 (by kernel_rfl) ref04Same.lp (l := []) (by kernel_rfl) (fun n => trivial) ref04Same.eq
noncomputable def ref10Same.b4 (fu : Nat) (next : Int → Int → S3 → S3 → Option (Bool × Unit)) (k1 : Bool → Option (Bool × Unit)) (k2 : Unit → Option (Bool × Unit)) (v : Int) (vx2 : Int) (b0 : S3) (b1 : S3) : Option (Bool × Unit) :=
  cond (decide (vx2 < v)) (
    chk (ixOk b0.2.2.1 vx2) <|
    let e1 := ixL ((0 : Int), (0 : Int), ((0 : Int), (0 : Int), (0 : Nat), [], ()), ()) b0.2.2.1 vx2
    chk (ixOk b1.2.2.1 vx2) <|
    let e2 := ixL ((0 : Int), (0 : Int), ((0 : Int), (0 : Int), (0 : Nat), [], ()), ()) b1.2.2.1 vx2
    cond (e1.1 != e2.1) (
      k1 false) (
      chk (ixOk b0.2.2.1 vx2) <|
      let e3 := ixL ((0 : Int), (0 : Int), ((0 : Int), (0 : Int), (0 : Nat), [], ()), ()) b0.2.2.1 vx2
      chk (ixOk b1.2.2.1 vx2) <|
      let e4 := ixL ((0 : Int), (0 : Int), ((0 : Int), (0 : Int), (0 : Nat), [], ()), ()) b1.2.2.1 vx2
      cond (e3.2.1 != e4.2.1) (
        k1 false) (
        chk (ixOk b0.2.2.1 vx2) <|
        let e5 := ixL ((0 : Int), (0 : Int), ((0 : Int), (0 : Int), (0 : Nat), [], ()), ()) b0.2.2.1 vx2
        chk (ixOk b1.2.2.1 vx2) <|
        let e6 := ixL ((0 : Int), (0 : Int), ((0 : Int), (0 : Int), (0 : Nat), [], ()), ()) b1.2.2.1 vx2
        (ref04Same fu e5.2.2.1 e6.2.2.1).bind fun r7 =>
        cond (!r7.1) (
          k1 false) (
          let t8 := IntKind.i64.wrap (vx2 + (1 : Int))
          next v t8 b0 b1)))) (
    k2 ())
noncomputable def ref10Same.l4 (fu : Nat) (k1 : Bool → Option (Bool × Unit)) (k2 : Unit → Option (Bool × Unit)) : Nat → Int → Int → S3 → S3 → Option (Bool × Unit)
  | 0, _, _, _, _ => none
  | m + 1, v, vx2, b0, b1 => ref10Same.b4 fu (ref10Same.l4 fu k1 k2 m) k1 k2 v vx2 b0 b1
noncomputable def ref10Same (fu : Nat) (a : S3) (b : S3) : Option (Bool × Unit) :=
  cond (!(a.1 == b.1)) (
    some (false, ())) (
    cond (a.2.1 != b.2.1) (
      some (false, ())) (
      let t1 := (a.2.2.1.length : Int) != (b.2.2.1.length : Int)
      cond t1 (
        some (false, ())) (
        ref10Same.l4 fu (fun vq3 => 
            some (vq3, ())) (fun (_ : Unit) => 
            some (true, ())) fu (a.2.2.1.length : Int) (0 : Int) a b)))

noncomputable def ref10Same.body : Code := Tryd.f19.body.getD .skip
abbrev ref10Same.shl4 : Shp := ⟨[.u, .u, .p 0 0, .p 1 0, .u, .u, .u, .u, .u, .u, .u, .u, .u, .u, .u, .u, .u, .u, .u, .u, .u, .u, .u, .u, .u, .u, .u, .u, .u, .d (.int .i64), .d (.int .i64), .u, .u, .u, .u, .u, .u, .u, .u, .u, .u, .u, .u, .u, .u, .u, .u, .u, .u, .u, .u, .u, .u, .u, .u, .u, .u, .u, .u, .u, .u, .u, .u, .u, .u, .u, .u, .u, .u, .u, .u, .u, .u, .u, .u, .u, .u, .u], [.c [.g kS3], .c [.g kS3]]⟩
abbrev ref10Same.outl4e1 : Shp := ⟨[.u, .u, .u, .u, .d .bool, .u, .u, .u, .u, .u, .u, .u, .u, .u, .u, .u, .u, .u, .u, .u, .u, .u, .u, .u, .u, .u, .u, .u, .u, .u, .u, .u, .u, .u, .u, .u, .u, .u, .u, .u, .u, .u, .u, .u, .u, .u, .u, .u, .u, .u, .u, .u, .u, .u, .u, .u, .u, .u, .u, .u, .u, .u, .u, .u, .u, .u, .u, .u, .u, .u, .u, .u, .u, .u, .u, .u, .u, .u], []⟩
abbrev ref10Same.outl4e2 : Shp := ⟨[.u, .u, .u, .u, .u, .u, .u, .u, .u, .u, .u, .u, .u, .u, .u, .u, .u, .u, .u, .u, .u, .u, .u, .u, .u, .u, .u, .u, .u, .u, .u, .u, .u, .u, .u, .u, .u, .u, .u, .u, .u, .u, .u, .u, .u, .u, .u, .u, .u, .u, .u, .u, .u, .u, .u, .u, .u, .u, .u, .u, .u, .u, .u, .u, .u, .u, .u, .u, .u, .u, .u, .u, .u, .u, .u, .u, .u, .u], []⟩
noncomputable def ref10Same.nml4 : Norm := ⟨{ keep := [2, 3, 29, 30], shut := [(29, (.int .i64)), (30, (.int .i64))], retag := [], heap := 2, dead := [], cshut := [(0, 0, .bool), (0, 1, (.int .u8)), (0, 2, (.slice kS2)), (1, 0, .bool), (1, 1, (.int .u8)), (1, 2, (.slice kS2))], cretag := [] }, [(1, { keep := [4], shut := [(4, .bool)], retag := [], heap := 0, dead := [], cshut := [], cretag := [] }), (2, { keep := [], shut := [], retag := [], heap := 0, dead := [], cshut := [], cretag := [] })]⟩
noncomputable def ref10Same.con : Con := { ps := [kS3, kS3], rs := [.bool], f := fun n x => ref10Same n x.1 x.2.1 }
noncomputable def ref10Same.env : Env := { tys := [(30, ⟨kS3, 32⟩), (4, ⟨.bool, 1⟩), (5, ⟨(.int .u8), 1⟩), (28, ⟨(.slice kS2), 24⟩), (50, ⟨kS2, 48⟩), (3, ⟨(.int .i64), 8⟩), (46, ⟨kS1, 40⟩)], elems := [(28, 50)], ptrs := [], cons := [(40, ref04Same.con)], objs := [], loops := [(4, ref10Same.nml4)], cuts := [], globs := globs, base := 0 }
noncomputable def ref10Same.lp (n : Nat) : LP (Kd.struct ref10Same.con.rs).T := fun lo κ body nm K s =>
  cond (lo && Nat.beq κ 4)
    (match ref10Same.shl4.dec s with
    | some v => ref10Same.l4 n (fun w0 => K .ret (ref10Same.outl4e1.enc (w0, ()))) (fun _ => K (.exit 0) (ref10Same.outl4e2.enc (()))) n v.1 v.2.1 v.2.2.1 v.2.2.2.1
    | none => loops n (Kd.struct ref10Same.con.rs).T lo κ body nm K s)
    (loops n (Kd.struct ref10Same.con.rs).T lo κ body nm K s)
theorem ref10Same.atl4 (n : Nat) (s : St) (K : Ex → St → Option (Kd.struct ref10Same.con.rs).T) : (ref10Same.lp n) true 4 (evK ref10Same.env (ref10Same.lp n) n (sub [1, 1, 0, 1, 0, 0] ref10Same.body)) ref10Same.nml4 K s = loops n (Kd.struct ref10Same.con.rs).T true 4 (evK ref10Same.env (ref10Same.lp n) n (sub [1, 1, 0, 1, 0, 0] ref10Same.body)) ref10Same.nml4 K s := by
  show (match ref10Same.shl4.dec s with | some v => ref10Same.l4 n (fun w0 => K .ret (ref10Same.outl4e1.enc (w0, ()))) (fun _ => K (.exit 0) (ref10Same.outl4e2.enc (()))) n v.1 v.2.1 v.2.2.1 v.2.2.2.1 | none => loops n (Kd.struct ref10Same.con.rs).T true 4 (evK ref10Same.env (ref10Same.lp n) n (sub [1, 1, 0, 1, 0, 0] ref10Same.body)) ref10Same.nml4 K s) = _
  cases h : ref10Same.shl4.dec s with
  | none => rfl
  | some v =>
    rw [Shp.dec_enc h]
    exact (evLoop_eq (sh := ref10Same.shl4) (body := evK ref10Same.env (ref10Same.lp n) n (sub [1, 1, 0, 1, 0, 0] ref10Same.body)) (nm := ref10Same.nml4) (K := K) (b := fun nx v => ref10Same.b4 n (fun x0 x1 x2 x3 => nx (x0, x1, x2, x3, ())) (fun w0 => K .ret (ref10Same.outl4e1.enc (w0, ()))) (fun _ => K (.exit 0) (ref10Same.outl4e2.enc (()))) v.1 v.2.1 v.2.2.1 v.2.2.2.1) (l := fun m v => ref10Same.l4 n (fun w0 => K .ret (ref10Same.outl4e1.enc (w0, ()))) (fun _ => K (.exit 0) (ref10Same.outl4e2.enc (()))) m v.1 v.2.1 v.2.2.1 v.2.2.2.1) (fun _ => rfl) (fun _ _ => rfl) (fun m v => by kernel_rfl) n v).symm
theorem ref10Same.eq (n : Nat) (x : (Kd.struct ref10Same.con.ps).T) : evFunc ref10Same.env Tryd.f19 ref10Same.body ref10Same.con.ps ref10Same.con.rs (ref10Same.lp n) n x = ref10Same.con.f n x := by kernel_rfl
theorem ref10Same.sound : Sound Tryd.prog globs 19 ref10Same.con :=
  sound_by (E := ref10Same.env) (c := ref10Same.body) (envOk (G := globs) (lc := [(40, ref04Same.con)]) (lo := []) (envB_spec (by kernel_rfl)) rfl rfl ⟨.inl ⟨ref04Same.sound, by kernel_rfl⟩, trivial⟩ rfl trivial (by kernel_rfl) (by kernel_rfl)) Tryd.func19 (by kernel_rfl) ref10Same.lp (l := [(true, sub [1, 1, 0, 1, 0, 0] ref10Same.body, ref10Same.nml4)]) (by kernel_rfl) (fun n => ⟨ref10Same.atl4 n, trivial⟩) ref10Same.eq
noncomputable def law10PredPuts (fu : Nat) (b : List Int) (xv : S5) : Option (Bool × Unit) :=
  (law10RawPred fu xv).bind fun r1 =>
  (ref10Great fu r1.1).bind fun r2 =>
  cond r2.1 (
    (law10Fixed fu).bind fun r3 =>
    some (r3.1, ())) (
    let t4 := decide ((b.length : Int) > (2000 : Int))
    cond t4 (
      (law10Fixed fu).bind fun r5 =>
      some (r5.1, ())) (
      chk (apOk [] b 1) <|
      (predPutDat fu ([] ++ b) r1.1).bind fun r6 =>
      (ref10PutDat fu b r1.1).bind fun r7 =>
      (law10Fixed fu).bind fun r8 =>
      cond (!r8.1) (
        some (false, ())) (
        cond (r6.1 != r7.1) (
          some (false, ())) (
          cond (r6.2.1 != r7.2.1) (
            some (false, ())) (
            cond (([] ++ b) != b) (
              some (false, ())) (
              cond (r6.2.1 != (0 : Int)) (
                some (true, ())) (
                (predGet fu r6.1 (b.length : Int)).bind fun r9 =>
                cond (r9.2.2.1 == (0 : Int)) (
                  let t10 := r9.2.1 == (r6.1.length : Int)
                  cond t10 (
                    (ref10Same fu r9.1 r1.1).bind fun r11 =>
                    some (r11.1, ())) (
                    some (false, ()))) (
                  some (false, ())))))))))

noncomputable def law10PredPuts.body : Code := Tryd.f6.body.getD .skip
noncomputable def law10PredPuts.con : Con := { ps := [(.slice (.int .u8)), kS5], rs := [.bool], f := fun n x => law10PredPuts n x.1 x.2.1 }
noncomputable def law10PredPuts.env : Env := { tys := [(24, ⟨kS5, 32⟩), (4, ⟨.bool, 1⟩), (30, ⟨kS3, 32⟩), (5, ⟨(.int .u8), 1⟩), (9, ⟨.str, 16⟩), (56, ⟨(.slice (.int .u8)), 24⟩)], elems := [(56, 5)], ptrs := [], cons := [(7, law10RawPred.con), (9, ref10Great.con), (11, law10Fixed.con), (20, predPutDat.con), (21, ref10PutDat.con), (22, predGet.con), (19, ref10Same.con)], objs := [], loops := [], cuts := [], globs := globs, base := 0 }
noncomputable def law10PredPuts.lp (n : Nat) : LP (Kd.struct law10PredPuts.con.rs).T := fun lo κ body nm K s =>
  loops n (Kd.struct law10PredPuts.con.rs).T lo κ body nm K s
theorem law10PredPuts.eq (n : Nat) (x : (Kd.struct law10PredPuts.con.ps).T) : evFunc law10PredPuts.env Tryd.f6 law10PredPuts.body law10PredPuts.con.ps law10PredPuts.con.rs (law10PredPuts.lp n) n x = law10PredPuts.con.f n x := by kernel_rfl
theorem law10PredPuts.sound : Sound Tryd.prog globs 6 law10PredPuts.con :=
  sound_by (E := law10PredPuts.env) (c := law10PredPuts.body) (envOk (G := globs) (lc := [(7, law10RawPred.con), (9, ref10Great.con), (11, law10Fixed.con), (20, predPutDat.con), (21, ref10PutDat.con), (22, predGet.con), (19, ref10Same.con)]) (lo := []) (envB_spec (by kernel_rfl)) rfl rfl ⟨.inl ⟨law10RawPred.sound, by kernel_rfl⟩, ⟨.inl ⟨ref10Great.sound, by kernel_rfl⟩, ⟨.inl ⟨law10Fixed.sound, by kernel_rfl⟩, ⟨.inl ⟨predPutDat.sound, by kernel_rfl⟩, ⟨.inl ⟨ref10PutDat.sound, by kernel_rfl⟩, ⟨.inl ⟨predGet.sound, by kernel_rfl⟩, ⟨.inl ⟨ref10Same.sound, by kernel_rfl⟩, trivial⟩⟩⟩⟩⟩⟩⟩ rfl trivial (by kernel_rfl) (by kernel_rfl)) Tryd.func6 (by kernel_rfl) law10PredPuts.lp (l := []) (by kernel_rfl) (fun n => trivial) law10PredPuts.eq
end
end Go.Shal.Pr
