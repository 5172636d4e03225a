/- Prints of functions, and proofs that they are what the code computes. By an AI agent. -/
import Derived.Test.YtbhigcnmdobmoaaShC
import Derived.Test.YtbhigcnmdobmoaaProg
set_option linter.unusedVariables false
set_option maxRecDepth 100000
namespace Go.Shal.Pr
open Go Go.Shal Go.Proofs
noncomputable section
def globs : Globs := []
abbrev kS0 : Kd := .struct [(.int .u8), (.int .i64), (.int .u64), .str]
abbrev S0 : Type := Int × Int × Int × (List Int) × Unit
abbrev kS1 : Kd := .struct [(.int .u8), (.int .i64), .flt, .str]
abbrev S1 : Type := Int × Int × Nat × (List Int) × Unit
abbrev kS2 : Kd := .struct [(.int .u8), (.int .u8), kS1]
abbrev S2 : Type := Int × Int × S1 × Unit
abbrev kS3 : Kd := .struct [.bool, (.int .u8), (.slice kS2)]
abbrev S3 : Type := Bool × Int × (List S2) × Unit
abbrev kS4 : Kd := .struct [(.int .u8), (.int .u8), kS0]
abbrev S4 : Type := Int × Int × S0 × Unit
abbrev kS5 : Kd := .struct [.bool, (.int .u8), (.slice kS4)]
abbrev S5 : Type := Bool × Int × (List S4) × Unit
abbrev kS6 : Kd := .struct [(.int .u8), kS3, .bool, kS3, (.int .u8), (.int .u8), (.int .i64)]
abbrev S6 : Type := Int × S3 × Bool × S3 × Int × Int × Int × Unit
abbrev kS7 : Kd := .struct [(.slice kS6), (.int .u64)]
abbrev S7 : Type := (List S6) × Int × Unit
abbrev kS8 : Kd := .struct [(.int .u8), kS5, .bool, kS5, (.int .u8), (.int .u8), (.int .i64)]
abbrev S8 : Type := Int × S5 × Bool × S5 × Int × Int × Int × Unit
abbrev kS9 : Kd := .struct [(.slice kS8), (.int .u64)]
abbrev S9 : Type := (List S8) × Int × Unit
noncomputable def law04RawValue (fu : Nat) (rv : S0) : Option (S1 × Unit) :=
  (extFrom.f fu (rv.2.2.1, ())).bind fun r1 =>
  some ((rv.1, rv.2.1, r1.1, rv.2.2.2.1, ()), ())

noncomputable def law04RawValue.body : Code := Try.f46.body.getD .skip
noncomputable def law04RawValue.con : Con := { ps := [kS0], rs := [kS1], f := fun n x => law04RawValue n x.1 }
noncomputable def law04RawValue.env : Env := { tys := [(95, ⟨kS0, 40⟩), (34, ⟨kS1, 40⟩), (5, ⟨(.int .u8), 1⟩), (2, ⟨(.int .i64), 8⟩), (51, ⟨(.int .u64), 8⟩), (9, ⟨.str, 16⟩)], elems := [], ptrs := [], cons := [(90, extFrom)], objs := [], loops := [], cuts := [], globs := globs, base := 0 }
noncomputable def law04RawValue.lp (n : Nat) : LP (Kd.struct law04RawValue.con.rs).T := fun lo κ body nm K s =>
  loops n (Kd.struct law04RawValue.con.rs).T lo κ body nm K s
theorem law04RawValue.eq (n : Nat) (x : (Kd.struct law04RawValue.con.ps).T) : evFunc law04RawValue.env Try.f46 law04RawValue.body law04RawValue.con.ps law04RawValue.con.rs (law04RawValue.lp n) n x = law04RawValue.con.f n x := by kernel_rfl
theorem law04RawValue.sound : Sound Try.prog globs 46 law04RawValue.con :=
  sound_by (E := law04RawValue.env) (c := law04RawValue.body) (envOk (G := globs) (lc := [(90, extFrom)]) (lo := []) (envB_spec (by kernel_rfl)) rfl rfl ⟨.inr (extFrom_ok Try.func90 (by kernel_rfl) (by kernel_rfl) (by kernel_rfl) (by kernel_rfl)), trivial⟩ rfl trivial (by kernel_rfl) (by kernel_rfl)) Try.func46 (by kernel_rfl) law04RawValue.lp (l := []) (by kernel_rfl) (fun n => trivial) law04RawValue.eq
noncomputable def law10RawPred.b3 (fu : Nat) (next : (List S4) → Int → Int → Bool → Int → (List S2) → Bool → Int → (List S2) → Option (S3 × Unit)) (k2 : Bool → Int → (List S2) → Bool → Int → (List S2) → Option (S3 × Unit)) (v : List S4) (vx2 : Int) (vx3 : Int) (c1 : Bool) (c1x2 : Int) (c1x3 : List S2) (c2 : Bool) (c2x2 : Int) (c2x3 : List S2) : Option (S3 × Unit) :=
  cond (decide (vx3 < vx2)) (
    chk (ixOk v vx3) <|
    let e1 := ixL ((0 : Int), (0 : Int), ((0 : Int), (0 : Int), (0 : Int), [], ()), ()) v vx3
    let t2 := decide (vx3 < (10 : Int))
    cond t2 (
      (law04RawValue fu e1.2.2.1).bind fun r3 =>
      let t4 := [(e1.1, e1.2.1, r3.1, ())]
      chk (apOk c2x3 t4 48) <|
      let t5 := IntKind.i64.wrap (vx3 + (1 : Int))
      next v vx2 t5 c1 c1x2 c1x3 c2 c2x2 (c2x3 ++ t4)) (
      let t6 := IntKind.i64.wrap (vx3 + (1 : Int))
      next v vx2 t6 c1 c1x2 c1x3 c2 c2x2 c2x3)) (
    k2 c1 c1x2 c1x3 c2 c2x2 c2x3)
noncomputable def law10RawPred.l3 (fu : Nat) (k2 : Bool → Int → (List S2) → Bool → Int → (List S2) → Option (S3 × Unit)) : Nat → (List S4) → Int → Int → Bool → Int → (List S2) → Bool → Int → (List S2) → Option (S3 × Unit)
  | 0, _, _, _, _, _, _, _, _, _ => none
  | m + 1, v, vx2, vx3, c1, c1x2, c1x3, c2, c2x2, c2x3 => law10RawPred.b3 fu (law10RawPred.l3 fu k2 m) k2 v vx2 vx3 c1 c1x2 c1x3 c2 c2x2 c2x3
noncomputable def law10RawPred (fu : Nat) (rv : S5) : Option (S3 × Unit) :=
  law10RawPred.l3 fu (fun c1q2 c1q2x2 c1q2x3 c2q2 c2q2x2 c2q2x3 => 
      some ((c2q2, c2q2x2, c2q2x3, ()), ())) fu rv.2.2.1 (rv.2.2.1.length : Int) (0 : Int) false (0 : Int) [] rv.1 rv.2.1 []

noncomputable def law10RawPred.body : Code := Try.f65.body.getD .skip
abbrev law10RawPred.shl3 : Shp := ⟨[.u, .u, .p 1 0, .p 2 0, .u, .u, .u, .u, .u, .u, .u, .u, .d (.slice kS4), .d (.int .i64), .d (.int .i64), .u, .u, .u, .u, .u, .u, .u, .u, .u, .u, .u, .u, .u, .u, .u, .u, .u, .u, .u, .u, .u], [.c [.u, .u, .u], .c [.d .bool, .d (.int .u8), .o 1052 kS2], .c [.d .bool, .d (.int .u8), .o 1102 kS2]]⟩
abbrev law10RawPred.outl3e2 : Shp := ⟨[.u, .u, .p 1 0, .p 2 0, .u, .u, .u, .u, .u, .u, .u, .u, .u, .u, .u, .u, .u, .u, .u, .u, .u, .u, .u, .u, .u, .u, .u, .u, .u, .u, .u, .u, .u, .u, .u, .u], [.c [.u, .u, .u], .c [.d .bool, .d (.int .u8), .o 1052 kS2], .c [.d .bool, .d (.int .u8), .o 1102 kS2]]⟩
noncomputable def law10RawPred.nml3 : Norm := ⟨{ keep := [2, 3, 12, 13, 14], shut := [(12, (.slice kS4)), (13, (.int .i64)), (14, (.int .i64))], retag := [], heap := 3, dead := [0], cshut := [(1, 0, .bool), (1, 1, (.int .u8)), (2, 0, .bool), (2, 1, (.int .u8))], cretag := [(1, 2, 1052, kS2), (2, 2, 1102, kS2)] }, [(2, { keep := [2, 3], shut := [], retag := [], heap := 3, dead := [0], cshut := [(1, 0, .bool), (1, 1, (.int .u8)), (2, 0, .bool), (2, 1, (.int .u8))], cretag := [(1, 2, 1052, kS2), (2, 2, 1102, kS2)] })]⟩
noncomputable def law10RawPred.con : Con := { ps := [kS5], rs := [kS3], f := fun n x => law10RawPred n x.1 }
noncomputable def law10RawPred.env : Env := { tys := [(120, ⟨kS5, 32⟩), (75, ⟨kS3, 32⟩), (4, ⟨.bool, 1⟩), (5, ⟨(.int .u8), 1⟩), (118, ⟨(.slice kS4), 24⟩), (176, ⟨kS4, 48⟩), (3, ⟨(.int .i64), 8⟩), (73, ⟨(.slice kS2), 24⟩), (95, ⟨kS0, 40⟩), (88, ⟨kS2, 48⟩)], elems := [(118, 176), (73, 88)], ptrs := [], cons := [(46, law04RawValue.con)], objs := [], loops := [(3, law10RawPred.nml3)], cuts := [], globs := globs, base := 0 }
noncomputable def law10RawPred.lp (n : Nat) : LP (Kd.struct law10RawPred.con.rs).T := fun lo κ body nm K s =>
  cond (lo && Nat.beq κ 3)
    (match law10RawPred.shl3.dec s with
    | some v => law10RawPred.l3 n (fun w0 w1 w2 w3 w4 w5 => K (.exit 0) (law10RawPred.outl3e2.enc (w0, w1, w2, w3, w4, w5, ()))) n v.1 v.2.1 v.2.2.1 v.2.2.2.1 v.2.2.2.2.1 v.2.2.2.2.2.1 v.2.2.2.2.2.2.1 v.2.2.2.2.2.2.2.1 v.2.2.2.2.2.2.2.2.1
    | none => loops n (Kd.struct law10RawPred.con.rs).T lo κ body nm K s)
    (loops n (Kd.struct law10RawPred.con.rs).T lo κ body nm K s)
theorem law10RawPred.atl3 (n : Nat) (s : St) (K : Ex → St → Option (Kd.struct law10RawPred.con.rs).T) : (law10RawPred.lp n) true 3 (evK law10RawPred.env (law10RawPred.lp n) n (sub [1, 1, 0, 1, 0, 0] law10RawPred.body)) law10RawPred.nml3 K s = loops n (Kd.struct law10RawPred.con.rs).T true 3 (evK law10RawPred.env (law10RawPred.lp n) n (sub [1, 1, 0, 1, 0, 0] law10RawPred.body)) law10RawPred.nml3 K s := by
  show (match law10RawPred.shl3.dec s with | some v => law10RawPred.l3 n (fun w0 w1 w2 w3 w4 w5 => K (.exit 0) (law10RawPred.outl3e2.enc (w0, w1, w2, w3, w4, w5, ()))) n v.1 v.2.1 v.2.2.1 v.2.2.2.1 v.2.2.2.2.1 v.2.2.2.2.2.1 v.2.2.2.2.2.2.1 v.2.2.2.2.2.2.2.1 v.2.2.2.2.2.2.2.2.1 | none => loops n (Kd.struct law10RawPred.con.rs).T true 3 (evK law10RawPred.env (law10RawPred.lp n) n (sub [1, 1, 0, 1, 0, 0] law10RawPred.body)) law10RawPred.nml3 K s) = _
  cases h : law10RawPred.shl3.dec s with
  | none => rfl
  | some v =>
    rw [Shp.dec_enc h]
    exact (evLoop_eq (sh := law10RawPred.shl3) (body := evK law10RawPred.env (law10RawPred.lp n) n (sub [1, 1, 0, 1, 0, 0] law10RawPred.body)) (nm := law10RawPred.nml3) (K := K) (b := fun nx v => law10RawPred.b3 n (fun x0 x1 x2 x3 x4 x5 x6 x7 x8 => nx (x0, x1, x2, x3, x4, x5, x6, x7, x8, ())) (fun w0 w1 w2 w3 w4 w5 => K (.exit 0) (law10RawPred.outl3e2.enc (w0, w1, w2, w3, w4, w5, ()))) v.1 v.2.1 v.2.2.1 v.2.2.2.1 v.2.2.2.2.1 v.2.2.2.2.2.1 v.2.2.2.2.2.2.1 v.2.2.2.2.2.2.2.1 v.2.2.2.2.2.2.2.2.1) (l := fun m v => law10RawPred.l3 n (fun w0 w1 w2 w3 w4 w5 => K (.exit 0) (law10RawPred.outl3e2.enc (w0, w1, w2, w3, w4, w5, ()))) m v.1 v.2.1 v.2.2.1 v.2.2.2.1 v.2.2.2.2.1 v.2.2.2.2.2.1 v.2.2.2.2.2.2.1 v.2.2.2.2.2.2.2.1 v.2.2.2.2.2.2.2.2.1) (fun _ => rfl) (fun _ _ => rfl) (fun m v => by kernel_rfl) n v).symm
theorem law10RawPred.eq (n : Nat) (x : (Kd.struct law10RawPred.con.ps).T) : evFunc law10RawPred.env Try.f65 law10RawPred.body law10RawPred.con.ps law10RawPred.con.rs (law10RawPred.lp n) n x = law10RawPred.con.f n x := by kernel_rfl
theorem law10RawPred.sound : Sound Try.prog globs 65 law10RawPred.con :=
  sound_by (E := law10RawPred.env) (c := law10RawPred.body) (envOk (G := globs) (lc := [(46, law04RawValue.con)]) (lo := []) (envB_spec (by kernel_rfl)) rfl rfl ⟨.inl ⟨law04RawValue.sound, by kernel_rfl⟩, trivial⟩ rfl trivial (by kernel_rfl) (by kernel_rfl)) Try.func65 (by kernel_rfl) law10RawPred.lp (l := [(true, sub [1, 1, 0, 1, 0, 0] law10RawPred.body, law10RawPred.nml3)]) (by kernel_rfl) (fun n => ⟨law10RawPred.atl3 n, trivial⟩) law10RawPred.eq
noncomputable def law11RawPattern.b3 (fu : Nat) (next : (List S8) → Int → Int → (List S6) → Int → (List S6) → Int → Option (S7 × Unit)) (k2 : (List S6) → Int → (List S6) → Int → Option (S7 × Unit)) (v : List S8) (vx2 : Int) (vx3 : Int) (c1 : List S6) (c1x2 : Int) (c2 : List S6) (c2x2 : Int) : Option (S7 × Unit) :=
  cond (decide (vx3 < vx2)) (
    chk (ixOk v vx3) <|
    let e1 := ixL ((0 : Int), (false, (0 : Int), [], ()), false, (false, (0 : Int), [], ()), (0 : Int), (0 : Int), (0 : Int), ()) v vx3
    let t2 := decide (vx3 < (40 : Int))
    cond t2 (
      (law10RawPred fu e1.2.1).bind fun r3 =>
      (law10RawPred fu e1.2.2.2.1).bind fun r4 =>
      let t5 := [(e1.1, r3.1, e1.2.2.1, r4.1, e1.2.2.2.2.1, e1.2.2.2.2.2.1, e1.2.2.2.2.2.2.1, ())]
      chk (apOk c2 t5 96) <|
      let t6 := IntKind.i64.wrap (vx3 + (1 : Int))
      next v vx2 t6 c1 c1x2 (c2 ++ t5) c2x2) (
      let t7 := IntKind.i64.wrap (vx3 + (1 : Int))
      next v vx2 t7 c1 c1x2 c2 c2x2)) (
    k2 c1 c1x2 c2 c2x2)
noncomputable def law11RawPattern.l3 (fu : Nat) (k2 : (List S6) → Int → (List S6) → Int → Option (S7 × Unit)) : Nat → (List S8) → Int → Int → (List S6) → Int → (List S6) → Int → Option (S7 × Unit)
  | 0, _, _, _, _, _, _, _ => none
  | m + 1, v, vx2, vx3, c1, c1x2, c2, c2x2 => law11RawPattern.b3 fu (law11RawPattern.l3 fu k2 m) k2 v vx2 vx3 c1 c1x2 c2 c2x2
noncomputable def law11RawPattern (fu : Nat) (rv : S9) : Option (S7 × Unit) :=
  law11RawPattern.l3 fu (fun c1q2 c1q2x2 c2q2 c2q2x2 => 
      some ((c2q2, c2q2x2, ()), ())) fu rv.1 (rv.1.length : Int) (0 : Int) [] (0 : Int) [] rv.2.1

noncomputable def law11RawPattern.body : Code := Try.f29.body.getD .skip
abbrev law11RawPattern.shl3 : Shp := ⟨[.u, .u, .p 1 0, .p 2 0, .u, .u, .u, .u, .u, .u, .d (.slice kS8), .d (.int .i64), .d (.int .i64), .u, .u, .u, .u, .u, .u, .u, .u, .u, .u, .u, .u, .u, .u, .u, .u, .u, .u, .u, .u, .u, .u, .u, .u, .u, .u, .u, .u, .u, .u], [.c [.u, .u], .c [.o 1050 kS6, .d (.int .u64)], .c [.o 1100 kS6, .d (.int .u64)]]⟩
abbrev law11RawPattern.outl3e2 : Shp := ⟨[.u, .u, .p 1 0, .p 2 0, .u, .u, .u, .u, .u, .u, .u, .u, .u, .u, .u, .u, .u, .u, .u, .u, .u, .u, .u, .u, .u, .u, .u, .u, .u, .u, .u, .u, .u, .u, .u, .u, .u, .u, .u, .u, .u, .u, .u], [.c [.u, .u], .c [.o 1050 kS6, .d (.int .u64)], .c [.o 1100 kS6, .d (.int .u64)]]⟩
noncomputable def law11RawPattern.nml3 : Norm := ⟨{ keep := [2, 3, 10, 11, 12], shut := [(10, (.slice kS8)), (11, (.int .i64)), (12, (.int .i64))], retag := [], heap := 3, dead := [0], cshut := [(1, 1, (.int .u64)), (2, 1, (.int .u64))], cretag := [(1, 0, 1050, kS6), (2, 0, 1100, kS6)] }, [(2, { keep := [2, 3], shut := [], retag := [], heap := 3, dead := [0], cshut := [(1, 1, (.int .u64)), (2, 1, (.int .u64))], cretag := [(1, 0, 1050, kS6), (2, 0, 1100, kS6)] })]⟩
noncomputable def law11RawPattern.con : Con := { ps := [kS9], rs := [kS7], f := fun n x => law11RawPattern n x.1 }
noncomputable def law11RawPattern.env : Env := { tys := [(65, ⟨kS9, 32⟩), (68, ⟨kS7, 32⟩), (51, ⟨(.int .u64), 8⟩), (63, ⟨(.slice kS8), 24⟩), (122, ⟨kS8, 96⟩), (3, ⟨(.int .i64), 8⟩), (66, ⟨(.slice kS6), 24⟩), (5, ⟨(.int .u8), 1⟩), (120, ⟨kS5, 32⟩), (4, ⟨.bool, 1⟩), (77, ⟨kS6, 96⟩)], elems := [(63, 122), (66, 77)], ptrs := [], cons := [(65, law10RawPred.con)], objs := [], loops := [(3, law11RawPattern.nml3)], cuts := [], globs := globs, base := 0 }
noncomputable def law11RawPattern.lp (n : Nat) : LP (Kd.struct law11RawPattern.con.rs).T := fun lo κ body nm K s =>
  cond (lo && Nat.beq κ 3)
    (match law11RawPattern.shl3.dec s with
    | some v => law11RawPattern.l3 n (fun w0 w1 w2 w3 => K (.exit 0) (law11RawPattern.outl3e2.enc (w0, w1, w2, w3, ()))) n v.1 v.2.1 v.2.2.1 v.2.2.2.1 v.2.2.2.2.1 v.2.2.2.2.2.1 v.2.2.2.2.2.2.1
    | none => loops n (Kd.struct law11RawPattern.con.rs).T lo κ body nm K s)
    (loops n (Kd.struct law11RawPattern.con.rs).T lo κ body nm K s)
theorem law11RawPattern.atl3 (n : Nat) (s : St) (K : Ex → St → Option (Kd.struct law11RawPattern.con.rs).T) : (law11RawPattern.lp n) true 3 (evK law11RawPattern.env (law11RawPattern.lp n) n (sub [1, 1, 0, 1, 0, 0] law11RawPattern.body)) law11RawPattern.nml3 K s = loops n (Kd.struct law11RawPattern.con.rs).T true 3 (evK law11RawPattern.env (law11RawPattern.lp n) n (sub [1, 1, 0, 1, 0, 0] law11RawPattern.body)) law11RawPattern.nml3 K s := by
  show (match law11RawPattern.shl3.dec s with | some v => law11RawPattern.l3 n (fun w0 w1 w2 w3 => K (.exit 0) (law11RawPattern.outl3e2.enc (w0, w1, w2, w3, ()))) n v.1 v.2.1 v.2.2.1 v.2.2.2.1 v.2.2.2.2.1 v.2.2.2.2.2.1 v.2.2.2.2.2.2.1 | none => loops n (Kd.struct law11RawPattern.con.rs).T true 3 (evK law11RawPattern.env (law11RawPattern.lp n) n (sub [1, 1, 0, 1, 0, 0] law11RawPattern.body)) law11RawPattern.nml3 K s) = _
  cases h : law11RawPattern.shl3.dec s with
  | none => rfl
  | some v =>
    rw [Shp.dec_enc h]
    exact (evLoop_eq (sh := law11RawPattern.shl3) (body := evK law11RawPattern.env (law11RawPattern.lp n) n (sub [1, 1, 0, 1, 0, 0] law11RawPattern.body)) (nm := law11RawPattern.nml3) (K := K) (b := fun nx v => law11RawPattern.b3 n (fun x0 x1 x2 x3 x4 x5 x6 => nx (x0, x1, x2, x3, x4, x5, x6, ())) (fun w0 w1 w2 w3 => K (.exit 0) (law11RawPattern.outl3e2.enc (w0, w1, w2, w3, ()))) v.1 v.2.1 v.2.2.1 v.2.2.2.1 v.2.2.2.2.1 v.2.2.2.2.2.1 v.2.2.2.2.2.2.1) (l := fun m v => law11RawPattern.l3 n (fun w0 w1 w2 w3 => K (.exit 0) (law11RawPattern.outl3e2.enc (w0, w1, w2, w3, ()))) m v.1 v.2.1 v.2.2.1 v.2.2.2.1 v.2.2.2.2.1 v.2.2.2.2.2.1 v.2.2.2.2.2.2.1) (fun _ => rfl) (fun _ _ => rfl) (fun m v => by kernel_rfl) n v).symm
theorem law11RawPattern.eq (n : Nat) (x : (Kd.struct law11RawPattern.con.ps).T) : evFunc law11RawPattern.env Try.f29 law11RawPattern.body law11RawPattern.con.ps law11RawPattern.con.rs (law11RawPattern.lp n) n x = law11RawPattern.con.f n x := by kernel_rfl
theorem law11RawPattern.sound : Sound Try.prog globs 29 law11RawPattern.con :=
  sound_by (E := law11RawPattern.env) (c := law11RawPattern.body) (envOk (G := globs) (lc := [(65, law10RawPred.con)]) (lo := []) (envB_spec (by kernel_rfl)) rfl rfl ⟨.inl ⟨law10RawPred.sound, by kernel_rfl⟩, trivial⟩ rfl trivial (by kernel_rfl) (by kernel_rfl)) Try.func29 (by kernel_rfl) law11RawPattern.lp (l := [(true, sub [1, 1, 0, 1, 0, 0] law11RawPattern.body, law11RawPattern.nml3)]) (by kernel_rfl) (fun n => ⟨law11RawPattern.atl3 n, trivial⟩) law11RawPattern.eq
noncomputable def ref10Great.b5 (fu : Nat) (next : Int → Int → Int → S3 → Option (Bool × Unit)) (k2 : Int → Option (Bool × Unit)) (n : Int) (v : Int) (vx2 : Int) (b0 : S3) : Option (Bool × Unit) :=
  cond (decide (vx2 < v)) (
    chk (ixOk b0.2.2.1 vx2) <|
    let e1 := ixL ((0 : Int), (0 : Int), ((0 : Int), (0 : Int), (0 : Nat), [], ()), ()) b0.2.2.1 vx2
    let t2 := (e1.2.2.1.2.2.2.1.length : Int)
    let t3 := IntKind.i64.wrap (n + min2 t2 (3000 : Int))
    let t4 := IntKind.i64.wrap (vx2 + (1 : Int))
    next t3 v t4 b0) (
    k2 n)
noncomputable def ref10Great.l5 (fu : Nat) (k2 : Int → Option (Bool × Unit)) : Nat → Int → Int → Int → S3 → Option (Bool × Unit)
  | 0, _, _, _, _ => none
  | m + 1, n, v, vx2, b0 => ref10Great.b5 fu (ref10Great.l5 fu k2 m) k2 n v vx2 b0
noncomputable def ref10Great (fu : Nat) (p : S3) : Option (Bool × Unit) :=
  let t1 := decide ((p.2.2.1.length : Int) > (20 : Int))
  cond t1 (
    some (true, ())) (
    ref10Great.l5 fu (fun nq2 => 
        let t2 := decide (nq2 > (3000 : Int))
        some (t2, ())) fu (p.2.2.1.length : Int) (p.2.2.1.length : Int) (0 : Int) p)

noncomputable def ref10Great.body : Code := Try.f66.body.getD .skip
abbrev ref10Great.shl5 : Shp := ⟨[.u, .p 0 0, .u, .d (.int .i64), .u, .u, .u, .u, .u, .u, .u, .u, .d (.int .i64), .d (.int .i64), .u, .u, .u, .u, .u, .u, .u, .u, .u, .u, .u, .u, .u, .u, .u, .u], [.c [.g kS3]]⟩
abbrev ref10Great.outl5e2 : Shp := ⟨[.u, .u, .u, .d (.int .i64), .u, .u, .u, .u, .u, .u, .u, .u, .u, .u, .u, .u, .u, .u, .u, .u, .u, .u, .u, .u, .u, .u, .u, .u, .u, .u], []⟩
noncomputable def ref10Great.nml5 : Norm := ⟨{ keep := [1, 3, 12, 13], shut := [(3, (.int .i64)), (12, (.int .i64)), (13, (.int .i64))], retag := [], heap := 1, dead := [], cshut := [(0, 0, .bool), (0, 1, (.int .u8)), (0, 2, (.slice kS2))], cretag := [] }, [(2, { keep := [3], shut := [(3, (.int .i64))], retag := [], heap := 0, dead := [], cshut := [], cretag := [] })]⟩
noncomputable def ref10Great.con : Con := { ps := [kS3], rs := [.bool], f := fun n x => ref10Great n x.1 }
noncomputable def ref10Great.env : Env := { tys := [(75, ⟨kS3, 32⟩), (4, ⟨.bool, 1⟩), (73, ⟨(.slice kS2), 24⟩), (88, ⟨kS2, 48⟩), (3, ⟨(.int .i64), 8⟩), (34, ⟨kS1, 40⟩), (9, ⟨.str, 16⟩)], elems := [(73, 88)], ptrs := [], cons := [], objs := [], loops := [(5, ref10Great.nml5)], cuts := [], globs := globs, base := 0 }
noncomputable def ref10Great.lp (n : Nat) : LP (Kd.struct ref10Great.con.rs).T := fun lo κ body nm K s =>
  cond (lo && Nat.beq κ 5)
    (match ref10Great.shl5.dec s with
    | some v => ref10Great.l5 n (fun w0 => K (.exit 0) (ref10Great.outl5e2.enc (w0, ()))) n v.1 v.2.1 v.2.2.1 v.2.2.2.1
    | none => loops n (Kd.struct ref10Great.con.rs).T lo κ body nm K s)
    (loops n (Kd.struct ref10Great.con.rs).T lo κ body nm K s)
theorem ref10Great.atl5 (n : Nat) (s : St) (K : Ex → St → Option (Kd.struct ref10Great.con.rs).T) : (ref10Great.lp n) true 5 (evK ref10Great.env (ref10Great.lp n) n (sub [1, 1, 1, 0, 1, 0, 0] ref10Great.body)) ref10Great.nml5 K s = loops n (Kd.struct ref10Great.con.rs).T true 5 (evK ref10Great.env (ref10Great.lp n) n (sub [1, 1, 1, 0, 1, 0, 0] ref10Great.body)) ref10Great.nml5 K s := by
  show (match ref10Great.shl5.dec s with | some v => ref10Great.l5 n (fun w0 => K (.exit 0) (ref10Great.outl5e2.enc (w0, ()))) n v.1 v.2.1 v.2.2.1 v.2.2.2.1 | none => loops n (Kd.struct ref10Great.con.rs).T true 5 (evK ref10Great.env (ref10Great.lp n) n (sub [1, 1, 1, 0, 1, 0, 0] ref10Great.body)) ref10Great.nml5 K s) = _
  cases h : ref10Great.shl5.dec s with
  | none => rfl
  | some v =>
    rw [Shp.dec_enc h]
    exact (evLoop_eq (sh := ref10Great.shl5) (body := evK ref10Great.env (ref10Great.lp n) n (sub [1, 1, 1, 0, 1, 0, 0] ref10Great.body)) (nm := ref10Great.nml5) (K := K) (b := fun nx v => ref10Great.b5 n (fun x0 x1 x2 x3 => nx (x0, x1, x2, x3, ())) (fun w0 => K (.exit 0) (ref10Great.outl5e2.enc (w0, ()))) v.1 v.2.1 v.2.2.1 v.2.2.2.1) (l := fun m v => ref10Great.l5 n (fun w0 => K (.exit 0) (ref10Great.outl5e2.enc (w0, ()))) m v.1 v.2.1 v.2.2.1 v.2.2.2.1) (fun _ => rfl) (fun _ _ => rfl) (fun m v => by kernel_rfl) n v).symm
theorem ref10Great.eq (n : Nat) (x : (Kd.struct ref10Great.con.ps).T) : evFunc ref10Great.env Try.f66 ref10Great.body ref10Great.con.ps ref10Great.con.rs (ref10Great.lp n) n x = ref10Great.con.f n x := by kernel_rfl
theorem ref10Great.sound : Sound Try.prog globs 66 ref10Great.con :=
  sound_by (E := ref10Great.env) (c := ref10Great.body) (envOk (G := globs) (lc := []) (lo := []) (envB_spec (by kernel_rfl)) rfl rfl trivial rfl trivial (by kernel_rfl) (by kernel_rfl)) Try.func66 (by kernel_rfl) ref10Great.lp (l := [(true, sub [1, 1, 1, 0, 1, 0, 0] ref10Great.body, ref10Great.nml5)]) (by kernel_rfl) (fun n => ⟨ref10Great.atl5 n, trivial⟩) ref10Great.eq
noncomputable def ref11Great.b4 (fu : Nat) (next : Int → Int → S7 → Option (Bool × Unit)) (k1 : Bool → Option (Bool × Unit)) (k2 : Unit → Option (Bool × Unit)) (v : Int) (vx2 : Int) (b0 : S7) : Option (Bool × Unit) :=
  cond (decide (vx2 < v)) (
    chk (ixOk b0.1 vx2) <|
    let e1 := ixL ((0 : Int), (false, (0 : Int), [], ()), false, (false, (0 : Int), [], ()), (0 : Int), (0 : Int), (0 : Int), ()) b0.1 vx2
    (ref10Great fu e1.2.1).bind fun r2 =>
    cond r2.1 (
      k1 true) (
      chk (ixOk b0.1 vx2) <|
      let e3 := ixL ((0 : Int), (false, (0 : Int), [], ()), false, (false, (0 : Int), [], ()), (0 : Int), (0 : Int), (0 : Int), ()) b0.1 vx2
      (ref10Great fu e3.2.2.2.1).bind fun r4 =>
      cond r4.1 (
        k1 true) (
        let t5 := IntKind.i64.wrap (vx2 + (1 : Int))
        next v t5 b0))) (
    k2 ())
noncomputable def ref11Great.l4 (fu : Nat) (k1 : Bool → Option (Bool × Unit)) (k2 : Unit → Option (Bool × Unit)) : Nat → Int → Int → S7 → Option (Bool × Unit)
  | 0, _, _, _ => none
  | m + 1, v, vx2, b0 => ref11Great.b4 fu (ref11Great.l4 fu k1 k2 m) k1 k2 v vx2 b0
noncomputable def ref11Great (fu : Nat) (p : S7) : Option (Bool × Unit) :=
  let t1 := decide ((p.1.length : Int) > (50 : Int))
  cond t1 (
    some (true, ())) (
    ref11Great.l4 fu (fun vq3 => 
        some (vq3, ())) (fun (_ : Unit) => 
        some (false, ())) fu (p.1.length : Int) (0 : Int) p)

noncomputable def ref11Great.body : Code := Try.f30.body.getD .skip
abbrev ref11Great.shl4 : Shp := ⟨[.u, .p 0 0, .u, .u, .u, .u, .u, .u, .u, .u, .d (.int .i64), .d (.int .i64), .u, .u, .u, .u, .u, .u, .u, .u, .u, .u, .u, .u, .u, .u, .u, .u, .u, .u, .u], [.c [.g kS7]]⟩
abbrev ref11Great.outl4e1 : Shp := ⟨[.u, .u, .d .bool, .u, .u, .u, .u, .u, .u, .u, .u, .u, .u, .u, .u, .u, .u, .u, .u, .u, .u, .u, .u, .u, .u, .u, .u, .u, .u, .u, .u], []⟩
abbrev ref11Great.outl4e2 : Shp := ⟨[.u, .u, .u, .u, .u, .u, .u, .u, .u, .u, .u, .u, .u, .u, .u, .u, .u, .u, .u, .u, .u, .u, .u, .u, .u, .u, .u, .u, .u, .u, .u], []⟩
noncomputable def ref11Great.nml4 : Norm := ⟨{ keep := [1, 10, 11], shut := [(10, (.int .i64)), (11, (.int .i64))], retag := [], heap := 1, dead := [], cshut := [(0, 0, (.slice kS6)), (0, 1, (.int .u64))], cretag := [] }, [(1, { keep := [2], shut := [(2, .bool)], retag := [], heap := 0, dead := [], cshut := [], cretag := [] }), (2, { keep := [], shut := [], retag := [], heap := 0, dead := [], cshut := [], cretag := [] })]⟩
noncomputable def ref11Great.con : Con := { ps := [kS7], rs := [.bool], f := fun n x => ref11Great n x.1 }
noncomputable def ref11Great.env : Env := { tys := [(68, ⟨kS7, 32⟩), (4, ⟨.bool, 1⟩), (66, ⟨(.slice kS6), 24⟩), (77, ⟨kS6, 96⟩), (3, ⟨(.int .i64), 8⟩), (75, ⟨kS3, 32⟩)], elems := [(66, 77)], ptrs := [], cons := [(66, ref10Great.con)], objs := [], loops := [(4, ref11Great.nml4)], cuts := [], globs := globs, base := 0 }
noncomputable def ref11Great.lp (n : Nat) : LP (Kd.struct ref11Great.con.rs).T := fun lo κ body nm K s =>
  cond (lo && Nat.beq κ 4)
    (match ref11Great.shl4.dec s with
    | some v => ref11Great.l4 n (fun w0 => K .ret (ref11Great.outl4e1.enc (w0, ()))) (fun _ => K (.exit 0) (ref11Great.outl4e2.enc (()))) n v.1 v.2.1 v.2.2.1
    | none => loops n (Kd.struct ref11Great.con.rs).T lo κ body nm K s)
    (loops n (Kd.struct ref11Great.con.rs).T lo κ body nm K s)
theorem ref11Great.atl4 (n : Nat) (s : St) (K : Ex → St → Option (Kd.struct ref11Great.con.rs).T) : (ref11Great.lp n) true 4 (evK ref11Great.env (ref11Great.lp n) n (sub [1, 1, 0, 1, 0, 0] ref11Great.body)) ref11Great.nml4 K s = loops n (Kd.struct ref11Great.con.rs).T true 4 (evK ref11Great.env (ref11Great.lp n) n (sub [1, 1, 0, 1, 0, 0] ref11Great.body)) ref11Great.nml4 K s := by
  show (match ref11Great.shl4.dec s with | some v => ref11Great.l4 n (fun w0 => K .ret (ref11Great.outl4e1.enc (w0, ()))) (fun _ => K (.exit 0) (ref11Great.outl4e2.enc (()))) n v.1 v.2.1 v.2.2.1 | none => loops n (Kd.struct ref11Great.con.rs).T true 4 (evK ref11Great.env (ref11Great.lp n) n (sub [1, 1, 0, 1, 0, 0] ref11Great.body)) ref11Great.nml4 K s) = _
  cases h : ref11Great.shl4.dec s with
  | none => rfl
  | some v =>
    rw [Shp.dec_enc h]
    exact (evLoop_eq (sh := ref11Great.shl4) (body := evK ref11Great.env (ref11Great.lp n) n (sub [1, 1, 0, 1, 0, 0] ref11Great.body)) (nm := ref11Great.nml4) (K := K) (b := fun nx v => ref11Great.b4 n (fun x0 x1 x2 => nx (x0, x1, x2, ())) (fun w0 => K .ret (ref11Great.outl4e1.enc (w0, ()))) (fun _ => K (.exit 0) (ref11Great.outl4e2.enc (()))) v.1 v.2.1 v.2.2.1) (l := fun m v => ref11Great.l4 n (fun w0 => K .ret (ref11Great.outl4e1.enc (w0, ()))) (fun _ => K (.exit 0) (ref11Great.outl4e2.enc (()))) m v.1 v.2.1 v.2.2.1) (fun _ => rfl) (fun _ _ => rfl) (fun m v => by kernel_rfl) n v).symm
theorem ref11Great.eq (n : Nat) (x : (Kd.struct ref11Great.con.ps).T) : evFunc ref11Great.env Try.f30 ref11Great.body ref11Great.con.ps ref11Great.con.rs (ref11Great.lp n) n x = ref11Great.con.f n x := by kernel_rfl
theorem ref11Great.sound : Sound Try.prog globs 30 ref11Great.con :=
  sound_by (E := ref11Great.env) (c := ref11Great.body) (envOk (G := globs) (lc := [(66, ref10Great.con)]) (lo := []) (envB_spec (by kernel_rfl)) rfl rfl ⟨.inl ⟨ref10Great.sound, by kernel_rfl⟩, trivial⟩ rfl trivial (by kernel_rfl) (by kernel_rfl)) Try.func30 (by kernel_rfl) ref11Great.lp (l := [(true, sub [1, 1, 0, 1, 0, 0] ref11Great.body, ref11Great.nml4)]) (by kernel_rfl) (fun n => ⟨ref11Great.atl4 n, trivial⟩) ref11Great.eq
noncomputable def law11Two (fu : Nat) (a : Int) (b : Int) : Option (S7 × Unit) :=
  let t1 := [((2 : Int), (false, (0 : Int), [], ()), false, (false, (0 : Int), [], ()), (0 : Int), (0 : Int), (2 : Int), ()), ((1 : Int), (false, a, [], ()), false, (false, (0 : Int), [], ()), (0 : Int), (0 : Int), (0 : Int), ()), ((1 : Int), (false, b, [], ()), false, (false, (0 : Int), [], ()), (0 : Int), (0 : Int), (0 : Int), ())]
  some ((t1, (10 : Int), ()), ())

noncomputable def law11Two.body : Code := Try.f67.body.getD .skip
noncomputable def law11Two.con : Con := { ps := [(.int .u8), (.int .u8)], rs := [kS7], f := fun n x => law11Two n x.1 x.2.1 }
noncomputable def law11Two.env : Env := { tys := [(68, ⟨kS7, 32⟩), (77, ⟨kS6, 96⟩), (75, ⟨kS3, 32⟩)], elems := [(66, 77)], ptrs := [], cons := [], objs := [], loops := [], cuts := [], globs := globs, base := 0 }
noncomputable def law11Two.lp (n : Nat) : LP (Kd.struct law11Two.con.rs).T := fun lo κ body nm K s =>
  loops n (Kd.struct law11Two.con.rs).T lo κ body nm K s
theorem law11Two.eq (n : Nat) (x : (Kd.struct law11Two.con.ps).T) : evFunc law11Two.env Try.f67 law11Two.body law11Two.con.ps law11Two.con.rs (law11Two.lp n) n x = law11Two.con.f n x := by kernel_rfl
theorem law11Two.sound : Sound Try.prog globs 67 law11Two.con :=
  sound_by (E := law11Two.env) (c := law11Two.body) (envOk (G := globs) (lc := []) (lo := []) (envB_spec (by kernel_rfl)) rfl rfl trivial rfl trivial (by kernel_rfl) (by kernel_rfl)) Try.func67 (by kernel_rfl) law11Two.lp (l := []) (by kernel_rfl) (fun n => trivial) law11Two.eq
noncomputable def treeParts.b5 (fu : Nat) (next : (List (List S6)) → (List S6) → Option ((List (List S6)) × Unit)) (k1 : (List (List S6)) → Option ((List (List S6)) × Unit)) (k2 : (List (List S6)) → Option ((List (List S6)) × Unit)) (out : List (List S6)) (rest : List S6) : Option ((List (List S6)) × Unit) :=
  let t1 := decide ((rest.length : Int) > (0 : Int))
  cond t1 (
    chk (ixOk rest (0 : Int)) <|
    let e2 := ixL ((0 : Int), (false, (0 : Int), [], ()), false, (false, (0 : Int), [], ()), (0 : Int), (0 : Int), (0 : Int), ()) rest (0 : Int)
    let t3 := decide (e2.2.2.2.2.2.2.1 < (0 : Int))
    cond t3 (
      k1 []) (
      let t4 := decide (e2.2.2.2.2.2.2.1 ≥ (rest.length : Int))
      cond t4 (
        k1 []) (
        let t5 := IntKind.i64.wrap (e2.2.2.2.2.2.2.1 + (1 : Int))
        let t6 := IntKind.i64.wrap (e2.2.2.2.2.2.2.1 + (1 : Int))
        chk (cut3 rest (0 : Int) t5 t6) <|
        chk (apOk out ([cutL rest (0 : Int) t5]) 24) <|
        let t7 := out ++ ([cutL rest (0 : Int) t5])
        let t8 := IntKind.i64.wrap (e2.2.2.2.2.2.2.1 + (1 : Int))
        chk (cutOk rest t8 (rest.length : Int)) <|
        let t9 := cutL rest t8 (rest.length : Int)
        next t7 t9))) (
    k2 out)
noncomputable def treeParts.l5 (fu : Nat) (k1 : (List (List S6)) → Option ((List (List S6)) × Unit)) (k2 : (List (List S6)) → Option ((List (List S6)) × Unit)) : Nat → (List (List S6)) → (List S6) → Option ((List (List S6)) × Unit)
  | 0, _, _ => none
  | m + 1, out, rest => treeParts.b5 fu (treeParts.l5 fu k1 k2 m) k1 k2 out rest
noncomputable def treeParts (fu : Nat) (l : List S6) : Option ((List (List S6)) × Unit) :=
  let t1 := (l.length : Int) == (0 : Int)
  cond t1 (
    some ([], ())) (
    chk (ixOk l (0 : Int)) <|
    let e2 := ixL ((0 : Int), (false, (0 : Int), [], ()), false, (false, (0 : Int), [], ()), (0 : Int), (0 : Int), (0 : Int), ()) l (0 : Int)
    let t3 := IntKind.i64.wrap ((l.length : Int) - (1 : Int))
    cond (e2.2.2.2.2.2.2.1 != t3) (
      some ([], ())) (
      chk (cutOk l (1 : Int) (l.length : Int)) <|
      let t4 := cutL l (1 : Int) (l.length : Int)
      treeParts.l5 fu (fun vq3 => 
          some (vq3, ())) (fun outq4 => 
          some (outq4, ())) fu [] t4))

noncomputable def treeParts.body : Code := Try.f84.body.getD .skip
abbrev treeParts.shl5 : Shp := ⟨[.u, .u, .u, .o 3 (.slice kS6), .d (.slice kS6), .u, .u, .u, .u, .u, .u, .u, .u, .u, .u, .u, .u, .u, .u, .u, .u, .u, .u, .u, .u, .u, .u, .u, .u, .u, .u, .u, .u, .u, .u, .u, .u, .u, .u, .u, .u, .u, .u, .u, .u, .u, .u, .u, .u, .u], []⟩
abbrev treeParts.outl5e1 : Shp := ⟨[.u, .u, .o 2 (.slice kS6), .u, .u, .u, .u, .u, .u, .u, .u, .u, .u, .u, .u, .u, .u, .u, .u, .u, .u, .u, .u, .u, .u, .u, .u, .u, .u, .u, .u, .u, .u, .u, .u, .u, .u, .u, .u, .u, .u, .u, .u, .u, .u, .u, .u, .u, .u, .u], []⟩
abbrev treeParts.outl5e2 : Shp := ⟨[.u, .u, .u, .o 3 (.slice kS6), .u, .u, .u, .u, .u, .u, .u, .u, .u, .u, .u, .u, .u, .u, .u, .u, .u, .u, .u, .u, .u, .u, .u, .u, .u, .u, .u, .u, .u, .u, .u, .u, .u, .u, .u, .u, .u, .u, .u, .u, .u, .u, .u, .u, .u, .u], []⟩
noncomputable def treeParts.nml5 : Norm := ⟨{ keep := [3, 4], shut := [(4, (.slice kS6))], retag := [(3, 3, (.slice kS6))], heap := 0, dead := [], cshut := [], cretag := [] }, [(1, { keep := [2], shut := [], retag := [(2, 2, (.slice kS6))], heap := 0, dead := [], cshut := [], cretag := [] }), (2, { keep := [3], shut := [], retag := [(3, 3, (.slice kS6))], heap := 0, dead := [], cshut := [], cretag := [] })]⟩
noncomputable def treeParts.con : Con := { ps := [(.slice kS6)], rs := [(.slice (.slice kS6))], f := fun n x => treeParts n x.1 }
noncomputable def treeParts.env : Env := { tys := [(140, ⟨(.slice (.slice kS6)), 24⟩), (77, ⟨kS6, 96⟩), (4, ⟨.bool, 1⟩), (3, ⟨(.int .i64), 8⟩), (66, ⟨(.slice kS6), 24⟩)], elems := [(66, 77), (140, 66)], ptrs := [], cons := [], objs := [], loops := [(5, treeParts.nml5)], cuts := [], globs := globs, base := 0 }
noncomputable def treeParts.lp (n : Nat) : LP (Kd.struct treeParts.con.rs).T := fun lo κ body nm K s =>
  cond (lo && Nat.beq κ 5)
    (match treeParts.shl5.dec s with
    | some v => treeParts.l5 n (fun w0 => K .ret (treeParts.outl5e1.enc (w0, ()))) (fun w0 => K (.exit 0) (treeParts.outl5e2.enc (w0, ()))) n v.1 v.2.1
    | none => loops n (Kd.struct treeParts.con.rs).T lo κ body nm K s)
    (loops n (Kd.struct treeParts.con.rs).T lo κ body nm K s)
theorem treeParts.atl5 (n : Nat) (s : St) (K : Ex → St → Option (Kd.struct treeParts.con.rs).T) : (treeParts.lp n) true 5 (evK treeParts.env (treeParts.lp n) n (sub [1, 1, 1, 0, 1, 0, 0] treeParts.body)) treeParts.nml5 K s = loops n (Kd.struct treeParts.con.rs).T true 5 (evK treeParts.env (treeParts.lp n) n (sub [1, 1, 1, 0, 1, 0, 0] treeParts.body)) treeParts.nml5 K s := by
  show (match treeParts.shl5.dec s with | some v => treeParts.l5 n (fun w0 => K .ret (treeParts.outl5e1.enc (w0, ()))) (fun w0 => K (.exit 0) (treeParts.outl5e2.enc (w0, ()))) n v.1 v.2.1 | none => loops n (Kd.struct treeParts.con.rs).T true 5 (evK treeParts.env (treeParts.lp n) n (sub [1, 1, 1, 0, 1, 0, 0] treeParts.body)) treeParts.nml5 K s) = _
  cases h : treeParts.shl5.dec s with
  | none => rfl
  | some v =>
    rw [Shp.dec_enc h]
    exact (evLoop_eq (sh := treeParts.shl5) (body := evK treeParts.env (treeParts.lp n) n (sub [1, 1, 1, 0, 1, 0, 0] treeParts.body)) (nm := treeParts.nml5) (K := K) (b := fun nx v => treeParts.b5 n (fun x0 x1 => nx (x0, x1, ())) (fun w0 => K .ret (treeParts.outl5e1.enc (w0, ()))) (fun w0 => K (.exit 0) (treeParts.outl5e2.enc (w0, ()))) v.1 v.2.1) (l := fun m v => treeParts.l5 n (fun w0 => K .ret (treeParts.outl5e1.enc (w0, ()))) (fun w0 => K (.exit 0) (treeParts.outl5e2.enc (w0, ()))) m v.1 v.2.1) (fun _ => rfl) (fun _ _ => rfl) (fun m v => by kernel_rfl) n v).symm
theorem treeParts.eq (n : Nat) (x : (Kd.struct treeParts.con.ps).T) : evFunc treeParts.env Try.f84 treeParts.body treeParts.con.ps treeParts.con.rs (treeParts.lp n) n x = treeParts.con.f n x := by kernel_rfl
theorem treeParts.sound : Sound Try.prog globs 84 treeParts.con :=
  sound_by (E := treeParts.env) (c := treeParts.body) (envOk (G := globs) (lc := []) (lo := []) (envB_spec (by kernel_rfl)) rfl rfl trivial rfl trivial (by kernel_rfl) (by kernel_rfl)) Try.func84 (by kernel_rfl) treeParts.lp (l := [(true, sub [1, 1, 1, 0, 1, 0, 0] treeParts.body, treeParts.nml5)]) (by kernel_rfl) (fun n => ⟨treeParts.atl5 n, trivial⟩) treeParts.eq
noncomputable def treeNone (fu : Nat) (p : S3) : Option (Bool × Unit) :=
  cond (!p.1) (
    cond (p.2.1 == (0 : Int)) (
      let t1 := (p.2.2.1.length : Int) == (0 : Int)
      some (t1, ())) (
      some (false, ()))) (
    some (false, ()))

noncomputable def treeNone.body : Code := Try.f131.body.getD .skip
noncomputable def treeNone.con : Con := { ps := [kS3], rs := [.bool], f := fun n x => treeNone n x.1 }
noncomputable def treeNone.env : Env := { tys := [(75, ⟨kS3, 32⟩), (4, ⟨.bool, 1⟩), (5, ⟨(.int .u8), 1⟩), (73, ⟨(.slice kS2), 24⟩), (88, ⟨kS2, 48⟩)], elems := [(73, 88)], ptrs := [], cons := [], objs := [], loops := [], cuts := [], globs := globs, base := 0 }
noncomputable def treeNone.lp (n : Nat) : LP (Kd.struct treeNone.con.rs).T := fun lo κ body nm K s =>
  loops n (Kd.struct treeNone.con.rs).T lo κ body nm K s
theorem treeNone.eq (n : Nat) (x : (Kd.struct treeNone.con.ps).T) : evFunc treeNone.env Try.f131 treeNone.body treeNone.con.ps treeNone.con.rs (treeNone.lp n) n x = treeNone.con.f n x := by kernel_rfl
theorem treeNone.sound : Sound Try.prog globs 131 treeNone.con :=
  sound_by (E := treeNone.env) (c := treeNone.body) (envOk (G := globs) (lc := []) (lo := []) (envB_spec (by kernel_rfl)) rfl rfl trivial rfl trivial (by kernel_rfl) (by kernel_rfl)) Try.func131 (by kernel_rfl) treeNone.lp (l := []) (by kernel_rfl) (fun n => trivial) treeNone.eq
noncomputable def treePlain.j4 (fu : Nat) (k1 : Bool → Option (Bool × Unit)) (parts : Int) (bare : Bool) (b0 : S6) : Option (Bool × Unit) :=
  cond (b0.1 == (1 : Int)) (
    cond bare (
      cond (!b0.2.2.1) (
        let t1 := b0.2.2.2.2.2.2.1 == (0 : Int)
        k1 t1) (
        k1 false)) (
      k1 false)) (
    cond (b0.1 == (2 : Int)) (
      cond bare (
        let t2 := decide (parts ≥ (2 : Int))
        k1 t2) (
        k1 false)) (
      cond (b0.1 == (3 : Int)) (
        cond bare (
          let t3 := decide (parts ≥ (2 : Int))
          cond t3 (
            k1 (!b0.2.2.1)) (
            k1 false)) (
          k1 false)) (
        cond (b0.1 == (4 : Int)) (
          cond (parts == (1 : Int)) (
            let t4 := decide (b0.2.2.2.2.1 ≥ (1 : Int))
            cond t4 (
              let t5 := decide (b0.2.2.2.2.1 ≤ b0.2.2.2.2.2.1)
              cond t5 (
                let t6 := decide (b0.2.2.2.2.2.1 ≤ (8 : Int))
                k1 t6) (
                k1 false)) (
              k1 false)) (
            k1 false)) (
          k1 false))))
noncomputable def treePlain.j2 (fu : Nat) (k1 : Bool → Option (Bool × Unit)) (parts : Int) (bare : Bool) (b0 : S6) : Option (Bool × Unit) :=
  cond (b0.1 != (1 : Int)) (
    (treeNone fu b0.2.1).bind fun r1 =>
    cond (!r1.1) (
      k1 false) (
      cond (!b0.2.2.1) (
        (treeNone fu b0.2.2.2.1).bind fun r2 =>
        cond (!r2.1) (
          k1 false) (
          treePlain.j4 fu (fun vq3 => 
              k1 vq3) parts bare b0)) (
        treePlain.j4 fu (fun vq4 => 
            k1 vq4) parts bare b0))) (
    cond (!b0.2.2.1) (
      (treeNone fu b0.2.2.2.1).bind fun r3 =>
      cond (!r3.1) (
        k1 false) (
        treePlain.j4 fu (fun vq5 => 
            k1 vq5) parts bare b0)) (
      treePlain.j4 fu (fun vq6 => 
          k1 vq6) parts bare b0))
noncomputable def treePlain (fu : Nat) (xv : S6) (parts : Int) : Option (Bool × Unit) :=
  let t1 := xv.2.2.2.2.1 == (0 : Int)
  cond t1 (
    let t2 := xv.2.2.2.2.2.1 == (0 : Int)
    treePlain.j2 fu (fun vq1 => 
        some (vq1, ())) parts t2 xv) (
    treePlain.j2 fu (fun vq2 => 
        some (vq2, ())) parts false xv)

noncomputable def treePlain.body : Code := Try.f116.body.getD .skip
abbrev treePlain.shj4 : Shp := ⟨[.u, .d (.int .i64), .p 0 0, .u, .u, .d .bool, .u, .u, .u, .u, .u, .u, .u, .u, .u, .u, .u, .u, .u, .u, .u, .u, .u, .u, .u, .u, .u, .u, .u, .u, .u, .u, .u, .u, .u, .u, .u, .u, .u, .u, .u, .u, .u, .u, .u, .u, .u, .u, .u, .u, .u, .u, .u, .u, .u, .u, .u, .u, .u, .u, .u, .u, .u, .u, .u, .u, .u, .u, .u, .u, .u, .u, .u, .u, .u, .u, .u, .u, .u, .u, .u, .u, .u, .u, .u, .u, .u, .u, .u], [.c [.g kS6]]⟩
abbrev treePlain.outj4e1 : Shp := ⟨[.u, .u, .u, .u, .d .bool, .u, .u, .u, .u, .u, .u, .u, .u, .u, .u, .u, .u, .u, .u, .u, .u, .u, .u, .u, .u, .u, .u, .u, .u, .u, .u, .u, .u, .u, .u, .u, .u, .u, .u, .u, .u, .u, .u, .u, .u, .u, .u, .u, .u, .u, .u, .u, .u, .u, .u, .u, .u, .u, .u, .u, .u, .u, .u, .u, .u, .u, .u, .u, .u, .u, .u, .u, .u, .u, .u, .u, .u, .u, .u, .u, .u, .u, .u, .u, .u, .u, .u, .u, .u], []⟩
noncomputable def treePlain.nmj4 : Norm := ⟨{ keep := [1, 2, 5], shut := [(1, (.int .i64)), (5, .bool)], retag := [], heap := 1, dead := [], cshut := [(0, 0, (.int .u8)), (0, 1, .bool), (0, 2, (.int .u8)), (0, 3, (.slice kS2)), (0, 4, .bool), (0, 5, .bool), (0, 6, (.int .u8)), (0, 7, (.slice kS2)), (0, 8, (.int .u8)), (0, 9, (.int .u8)), (0, 10, (.int .i64))], cretag := [] }, [(1, { keep := [4], shut := [(4, .bool)], retag := [], heap := 0, dead := [], cshut := [], cretag := [] })]⟩
abbrev treePlain.shj2 : Shp := ⟨[.u, .d (.int .i64), .p 0 0, .u, .u, .d .bool, .u, .u, .u, .u, .u, .u, .u, .u, .u, .u, .u, .u, .u, .u, .u, .u, .u, .u, .u, .u, .u, .u, .u, .u, .u, .u, .u, .u, .u, .u, .u, .u, .u, .u, .u, .u, .u, .u, .u, .u, .u, .u, .u, .u, .u, .u, .u, .u, .u, .u, .u, .u, .u, .u, .u, .u, .u, .u, .u, .u, .u, .u, .u, .u, .u, .u, .u, .u, .u, .u, .u, .u, .u, .u, .u, .u, .u, .u, .u, .u, .u, .u, .u], [.c [.g kS6]]⟩
abbrev treePlain.outj2e1 : Shp := ⟨[.u, .u, .u, .u, .d .bool, .u, .u, .u, .u, .u, .u, .u, .u, .u, .u, .u, .u, .u, .u, .u, .u, .u, .u, .u, .u, .u, .u, .u, .u, .u, .u, .u, .u, .u, .u, .u, .u, .u, .u, .u, .u, .u, .u, .u, .u, .u, .u, .u, .u, .u, .u, .u, .u, .u, .u, .u, .u, .u, .u, .u, .u, .u, .u, .u, .u, .u, .u, .u, .u, .u, .u, .u, .u, .u, .u, .u, .u, .u, .u, .u, .u, .u, .u, .u, .u, .u, .u, .u, .u], []⟩
noncomputable def treePlain.nmj2 : Norm := ⟨{ keep := [1, 2, 5], shut := [(1, (.int .i64)), (5, .bool)], retag := [], heap := 1, dead := [], cshut := [(0, 0, (.int .u8)), (0, 1, .bool), (0, 2, (.int .u8)), (0, 3, (.slice kS2)), (0, 4, .bool), (0, 5, .bool), (0, 6, (.int .u8)), (0, 7, (.slice kS2)), (0, 8, (.int .u8)), (0, 9, (.int .u8)), (0, 10, (.int .i64))], cretag := [] }, [(1, { keep := [4], shut := [(4, .bool)], retag := [], heap := 0, dead := [], cshut := [], cretag := [] })]⟩
noncomputable def treePlain.con : Con := { ps := [kS6, (.int .i64)], rs := [.bool], f := fun n x => treePlain n x.1 x.2.1 }
noncomputable def treePlain.env : Env := { tys := [(77, ⟨kS6, 96⟩), (4, ⟨.bool, 1⟩), (5, ⟨(.int .u8), 1⟩), (75, ⟨kS3, 32⟩), (3, ⟨(.int .i64), 8⟩)], elems := [], ptrs := [], cons := [(131, treeNone.con)], objs := [], loops := [], cuts := [(4, treePlain.nmj4), (2, treePlain.nmj2)], globs := globs, base := 0 }
noncomputable def treePlain.lp (n : Nat) : LP (Kd.struct treePlain.con.rs).T := fun lo κ body nm K s =>
  cond (!lo && Nat.beq κ 4)
    (match treePlain.shj4.dec s with
    | some v => treePlain.j4 n (fun w0 => K .ret (treePlain.outj4e1.enc (w0, ()))) v.1 v.2.1 v.2.2.1
    | none => loops n (Kd.struct treePlain.con.rs).T lo κ body nm K s)
    (cond (!lo && Nat.beq κ 2)
    (match treePlain.shj2.dec s with
    | some v => treePlain.j2 n (fun w0 => K .ret (treePlain.outj2e1.enc (w0, ()))) v.1 v.2.1 v.2.2.1
    | none => loops n (Kd.struct treePlain.con.rs).T lo κ body nm K s)
    (loops n (Kd.struct treePlain.con.rs).T lo κ body nm K s))
theorem treePlain.atj4 (n : Nat) (s : St) (K : Ex → St → Option (Kd.struct treePlain.con.rs).T) : (treePlain.lp n) false 4 (evK treePlain.env (treePlain.lp n) n (sub [1, 1, 1] treePlain.body)) treePlain.nmj4 K s = loops n (Kd.struct treePlain.con.rs).T false 4 (evK treePlain.env (treePlain.lp n) n (sub [1, 1, 1] treePlain.body)) treePlain.nmj4 K s := by
  show (match treePlain.shj4.dec s with | some v => treePlain.j4 n (fun w0 => K .ret (treePlain.outj4e1.enc (w0, ()))) v.1 v.2.1 v.2.2.1 | none => loops n (Kd.struct treePlain.con.rs).T false 4 (evK treePlain.env (treePlain.lp n) n (sub [1, 1, 1] treePlain.body)) treePlain.nmj4 K s) = _
  cases h : treePlain.shj4.dec s with
  | none => rfl
  | some v =>
    rw [Shp.dec_enc h]
    kernel_rfl
theorem treePlain.atj2 (n : Nat) (s : St) (K : Ex → St → Option (Kd.struct treePlain.con.rs).T) : (treePlain.lp n) false 2 (evK treePlain.env (treePlain.lp n) n (sub [1, 1] treePlain.body)) treePlain.nmj2 K s = loops n (Kd.struct treePlain.con.rs).T false 2 (evK treePlain.env (treePlain.lp n) n (sub [1, 1] treePlain.body)) treePlain.nmj2 K s := by
  show (match treePlain.shj2.dec s with | some v => treePlain.j2 n (fun w0 => K .ret (treePlain.outj2e1.enc (w0, ()))) v.1 v.2.1 v.2.2.1 | none => loops n (Kd.struct treePlain.con.rs).T false 2 (evK treePlain.env (treePlain.lp n) n (sub [1, 1] treePlain.body)) treePlain.nmj2 K s) = _
  cases h : treePlain.shj2.dec s with
  | none => rfl
  | some v =>
    rw [Shp.dec_enc h]
    kernel_rfl
theorem treePlain.eq (n : Nat) (x : (Kd.struct treePlain.con.ps).T) : evFunc treePlain.env Try.f116 treePlain.body treePlain.con.ps treePlain.con.rs (treePlain.lp n) n x = treePlain.con.f n x := by kernel_rfl
theorem treePlain.sound : Sound Try.prog globs 116 treePlain.con :=
  sound_by (E := treePlain.env) (c := treePlain.body) (envOk (G := globs) (lc := [(131, treeNone.con)]) (lo := []) (envB_spec (by kernel_rfl)) rfl rfl ⟨.inl ⟨treeNone.sound, by kernel_rfl⟩, trivial⟩ rfl trivial (by kernel_rfl) (by kernel_rfl)) Try.func116 (by kernel_rfl) treePlain.lp (l := [(false, sub [1, 1, 1] treePlain.body, treePlain.nmj4), (false, sub [1, 1] treePlain.body, treePlain.nmj2)]) (by kernel_rfl) (fun n => ⟨treePlain.atj4 n, ⟨treePlain.atj2 n, trivial⟩⟩) treePlain.eq
noncomputable def treeFormed1 (fu : Nat) (StreeFormed : (List S6) → Option (Bool × Unit)) (p : List S6) : Option (Bool × Unit) :=
  (StreeFormed p).bind fun r1 =>
  some (!r1.1, ())

noncomputable def slicesIndexFunc.b2 (fu : Nat) (StreeFormed : (List S6) → Option (Bool × Unit)) (next : (List (List S6)) → Int → Int → Option ((Int × Unit) × (Unit))) (k1 : Int → Option ((Int × Unit) × (Unit))) (k2 : Unit → Option ((Int × Unit) × (Unit))) (sv : List (List S6)) (v : Int) (vx2 : Int) : Option ((Int × Unit) × (Unit)) :=
  cond (decide (vx2 < v)) (
    chk (ixOk sv vx2) <|
    let e1 := ixL [] sv vx2
    (treeFormed1 fu StreeFormed e1).bind fun r2 =>
    cond r2.1 (
      k1 vx2) (
      let t3 := IntKind.i64.wrap (vx2 + (1 : Int))
      next sv v t3)) (
    k2 ())
noncomputable def slicesIndexFunc.l2 (fu : Nat) (StreeFormed : (List S6) → Option (Bool × Unit)) (k1 : Int → Option ((Int × Unit) × (Unit))) (k2 : Unit → Option ((Int × Unit) × (Unit))) : Nat → (List (List S6)) → Int → Int → Option ((Int × Unit) × (Unit))
  | 0, _, _, _ => none
  | m + 1, sv, v, vx2 => slicesIndexFunc.b2 fu StreeFormed (slicesIndexFunc.l2 fu StreeFormed k1 k2 m) k1 k2 sv v vx2
noncomputable def slicesIndexFunc (fu : Nat) (StreeFormed : (List S6) → Option (Bool × Unit)) (sv : List (List S6)) : Option ((Int × Unit) × (Unit)) :=
  slicesIndexFunc.l2 fu StreeFormed (fun vq3 => 
      some ((vq3, ()), (()))) (fun (_ : Unit) => 
      some (((-1 : Int), ()), (()))) fu sv (sv.length : Int) (0 : Int)

noncomputable def slicesContainsFunc (fu : Nat) (StreeFormed : (List S6) → Option (Bool × Unit)) (sv : List (List S6)) : Option ((Bool × Unit) × (Unit)) :=
  (slicesIndexFunc fu StreeFormed sv).bind fun r1 =>
  let t2 := decide (r1.1.1 ≥ (0 : Int))
  some ((t2, ()), (()))

noncomputable def treeFormed.bd (fu : Nat) (StreeFormed : (List S6) → Option (Bool × Unit)) (l : List S6) : Option (Bool × Unit) :=
  (treeParts fu l).bind fun r1 =>
  let t2 := (l.length : Int) == (0 : Int)
  cond t2 (
    some (false, ())) (
    chk (ixOk l (0 : Int)) <|
    let e3 := ixL ((0 : Int), (false, (0 : Int), [], ()), false, (false, (0 : Int), [], ()), (0 : Int), (0 : Int), (0 : Int), ()) l (0 : Int)
    (treePlain fu e3 (r1.1.length : Int)).bind fun r4 =>
    cond (!r4.1) (
      some (false, ())) (
      chk (ixOk l (0 : Int)) <|
      let e5 := ixL ((0 : Int), (false, (0 : Int), [], ()), false, (false, (0 : Int), [], ()), (0 : Int), (0 : Int), (0 : Int), ()) l (0 : Int)
      let t6 := IntKind.i64.wrap ((l.length : Int) - (1 : Int))
      cond (e5.2.2.2.2.2.2.1 != t6) (
        some (false, ())) (
        (slicesContainsFunc fu StreeFormed r1.1).bind fun r7 =>
        some (!r7.1.1, ()))))
noncomputable def treeFormed (fu : Nat) (m : Nat) : (List S6) → Option (Bool × Unit) :=
  Nat.rec (fun _ => none) (fun _ StreeFormed => treeFormed.bd fu StreeFormed) m

noncomputable def treeFormed.conM (m : Nat) : Con := { ps := [(.slice kS6)], rs := [.bool], f := fun n x => treeFormed n m x.1 }
noncomputable def treeFormed.con : Con := { ps := [(.slice kS6)], rs := [.bool], f := fun n x => treeFormed n n x.1 }
noncomputable def treeFormed1.body : Code := Try.f118.body.getD .skip
noncomputable def treeFormed1.con (mtreeFormed : Nat) : Con := { ps := [(.slice kS6)], rs := [.bool], f := fun n x => treeFormed1 n (treeFormed n mtreeFormed) x.1 }
noncomputable def treeFormed1.env (mtreeFormed : Nat) : Env := { tys := [(4, ⟨.bool, 1⟩)], elems := [], ptrs := [], cons := [(72, (treeFormed.conM mtreeFormed))], objs := [], loops := [], cuts := [], globs := globs, base := 0 }
noncomputable def treeFormed1.lp (mtreeFormed : Nat) (n : Nat) : LP (Kd.struct (treeFormed1.con mtreeFormed).rs).T := fun lo κ body nm K s =>
  loops n (Kd.struct (treeFormed1.con mtreeFormed).rs).T lo κ body nm K s
theorem treeFormed1.eq (mtreeFormed : Nat) (n : Nat) (x : (Kd.struct (treeFormed1.con mtreeFormed).ps).T) : evFunc (treeFormed1.env mtreeFormed) Try.f118 treeFormed1.body (treeFormed1.con mtreeFormed).ps (treeFormed1.con mtreeFormed).rs (treeFormed1.lp mtreeFormed n) n x = (treeFormed1.con mtreeFormed).f n x := by kernel_rfl
theorem treeFormed1.sound (mtreeFormed : Nat) (ihtreeFormed : Sound Try.prog globs 72 (treeFormed.conM mtreeFormed)) : Sound Try.prog globs 118 (treeFormed1.con mtreeFormed) :=
  sound_by (E := (treeFormed1.env mtreeFormed)) (c := treeFormed1.body) (envOk (G := globs) (lc := [(72, (treeFormed.conM mtreeFormed))]) (lo := []) (envB_spec (by kernel_rfl)) rfl rfl ⟨.inl ⟨ihtreeFormed, by kernel_rfl⟩, trivial⟩ rfl trivial (by kernel_rfl) (by kernel_rfl)) Try.func118 (by kernel_rfl) (treeFormed1.lp mtreeFormed) (l := []) (by kernel_rfl) (fun n => trivial) (treeFormed1.eq mtreeFormed)
noncomputable def slicesIndexFunc.body : Code := Try.f132.body.getD .skip
abbrev slicesIndexFunc.shl2 : Shp := ⟨[.d (.slice (.slice kS6)), .f 118, .u, .u, .u, .u, .u, .d (.int .i64), .d (.int .i64), .u, .u, .u, .u, .u, .u, .u, .u, .u, .u], []⟩
abbrev slicesIndexFunc.outl2e1 : Shp := ⟨[.u, .u, .u, .u, .d (.int .i64), .u, .u, .u, .u, .u, .u, .u, .u, .u, .u, .u, .u, .u, .u], []⟩
abbrev slicesIndexFunc.outl2e2 : Shp := ⟨[.u, .u, .u, .u, .u, .u, .u, .u, .u, .u, .u, .u, .u, .u, .u, .u, .u, .u, .u], []⟩
noncomputable def slicesIndexFunc.nml2 : Norm := ⟨{ keep := [0, 1, 7, 8], shut := [(0, (.slice (.slice kS6))), (7, (.int .i64)), (8, (.int .i64))], retag := [], heap := 0, dead := [], cshut := [], cretag := [] }, [(1, { keep := [4], shut := [(4, (.int .i64))], retag := [], heap := 0, dead := [], cshut := [], cretag := [] }), (2, { keep := [], shut := [], retag := [], heap := 0, dead := [], cshut := [], cretag := [] })]⟩
noncomputable def slicesIndexFunc.con (mtreeFormed : Nat) : OCon := { ps := [.dat (.slice (.slice kS6)), .fn 118], rs := [.dat (.int .i64)], f := fun n x => slicesIndexFunc n (treeFormed n mtreeFormed) x.1 }
noncomputable def slicesIndexFunc.env (mtreeFormed : Nat) : Env := { tys := [(3, ⟨(.int .i64), 8⟩), (66, ⟨(.slice kS6), 24⟩)], elems := [(140, 66)], ptrs := [], cons := [(118, (treeFormed1.con mtreeFormed))], objs := [], loops := [(2, slicesIndexFunc.nml2)], cuts := [], globs := globs, base := 0 }
noncomputable def slicesIndexFunc.lp (mtreeFormed : Nat) (n : Nat) : LP (RT (slicesIndexFunc.con mtreeFormed).rs × BT (slicesIndexFunc.con mtreeFormed).ps) := fun lo κ body nm K s =>
  cond (lo && Nat.beq κ 2)
    (match slicesIndexFunc.shl2.dec s with
    | some v => slicesIndexFunc.l2 n (treeFormed n mtreeFormed) (fun w0 => K .ret (slicesIndexFunc.outl2e1.enc (w0, ()))) (fun _ => K (.exit 0) (slicesIndexFunc.outl2e2.enc (()))) n v.1 v.2.1 v.2.2.1
    | none => loops n (RT (slicesIndexFunc.con mtreeFormed).rs × BT (slicesIndexFunc.con mtreeFormed).ps) lo κ body nm K s)
    (loops n (RT (slicesIndexFunc.con mtreeFormed).rs × BT (slicesIndexFunc.con mtreeFormed).ps) lo κ body nm K s)
theorem slicesIndexFunc.atl2 (mtreeFormed : Nat) (n : Nat) (s : St) (K : Ex → St → Option (RT (slicesIndexFunc.con mtreeFormed).rs × BT (slicesIndexFunc.con mtreeFormed).ps)) : (slicesIndexFunc.lp mtreeFormed n) true 2 (evK (slicesIndexFunc.env mtreeFormed) (slicesIndexFunc.lp mtreeFormed n) n (sub [1, 0, 1, 0, 0] slicesIndexFunc.body)) slicesIndexFunc.nml2 K s = loops n (RT (slicesIndexFunc.con mtreeFormed).rs × BT (slicesIndexFunc.con mtreeFormed).ps) true 2 (evK (slicesIndexFunc.env mtreeFormed) (slicesIndexFunc.lp mtreeFormed n) n (sub [1, 0, 1, 0, 0] slicesIndexFunc.body)) slicesIndexFunc.nml2 K s := by
  show (match slicesIndexFunc.shl2.dec s with | some v => slicesIndexFunc.l2 n (treeFormed n mtreeFormed) (fun w0 => K .ret (slicesIndexFunc.outl2e1.enc (w0, ()))) (fun _ => K (.exit 0) (slicesIndexFunc.outl2e2.enc (()))) n v.1 v.2.1 v.2.2.1 | none => loops n (RT (slicesIndexFunc.con mtreeFormed).rs × BT (slicesIndexFunc.con mtreeFormed).ps) true 2 (evK (slicesIndexFunc.env mtreeFormed) (slicesIndexFunc.lp mtreeFormed n) n (sub [1, 0, 1, 0, 0] slicesIndexFunc.body)) slicesIndexFunc.nml2 K s) = _
  cases h : slicesIndexFunc.shl2.dec s with
  | none => rfl
  | some v =>
    rw [Shp.dec_enc h]
    exact (evLoop_eq (sh := slicesIndexFunc.shl2) (body := evK (slicesIndexFunc.env mtreeFormed) (slicesIndexFunc.lp mtreeFormed n) n (sub [1, 0, 1, 0, 0] slicesIndexFunc.body)) (nm := slicesIndexFunc.nml2) (K := K) (b := fun nx v => slicesIndexFunc.b2 n (treeFormed n mtreeFormed) (fun x0 x1 x2 => nx (x0, x1, x2, ())) (fun w0 => K .ret (slicesIndexFunc.outl2e1.enc (w0, ()))) (fun _ => K (.exit 0) (slicesIndexFunc.outl2e2.enc (()))) v.1 v.2.1 v.2.2.1) (l := fun m v => slicesIndexFunc.l2 n (treeFormed n mtreeFormed) (fun w0 => K .ret (slicesIndexFunc.outl2e1.enc (w0, ()))) (fun _ => K (.exit 0) (slicesIndexFunc.outl2e2.enc (()))) m v.1 v.2.1 v.2.2.1) (fun _ => rfl) (fun _ _ => rfl) (fun m v => by kernel_rfl) n v).symm
theorem slicesIndexFunc.eq (mtreeFormed : Nat) (n : Nat) (x : PT (slicesIndexFunc.con mtreeFormed).ps) : evFuncO (slicesIndexFunc.env mtreeFormed) Try.f132 slicesIndexFunc.body (slicesIndexFunc.con mtreeFormed).ps (slicesIndexFunc.con mtreeFormed).rs (slicesIndexFunc.lp mtreeFormed n) n x = (slicesIndexFunc.con mtreeFormed).f n x := by kernel_rfl
theorem slicesIndexFunc.sound (mtreeFormed : Nat) (ihtreeFormed : Sound Try.prog globs 72 (treeFormed.conM mtreeFormed)) : SoundO Try.prog globs 132 (slicesIndexFunc.con mtreeFormed) :=
  sound_byO (E := (slicesIndexFunc.env mtreeFormed)) (c := slicesIndexFunc.body) (envOk (G := globs) (lc := [(118, (treeFormed1.con mtreeFormed))]) (lo := []) (envB_spec (by kernel_rfl)) rfl rfl ⟨.inl ⟨(treeFormed1.sound mtreeFormed ihtreeFormed), by kernel_rfl⟩, trivial⟩ rfl trivial (by kernel_rfl) (by kernel_rfl)) Try.func132 (by kernel_rfl) (by kernel_rfl) (by kernel_rfl) (slicesIndexFunc.lp mtreeFormed) (l := [(true, sub [1, 0, 1, 0, 0] slicesIndexFunc.body, slicesIndexFunc.nml2)]) (by kernel_rfl) (fun n => ⟨slicesIndexFunc.atl2 mtreeFormed n, trivial⟩) (slicesIndexFunc.eq mtreeFormed)
noncomputable def slicesContainsFunc.body : Code := Try.f117.body.getD .skip
noncomputable def slicesContainsFunc.con (mtreeFormed : Nat) : OCon := { ps := [.dat (.slice (.slice kS6)), .fn 118], rs := [.dat .bool], f := fun n x => slicesContainsFunc n (treeFormed n mtreeFormed) x.1 }
noncomputable def slicesContainsFunc.env (mtreeFormed : Nat) : Env := { tys := [(4, ⟨.bool, 1⟩)], elems := [], ptrs := [], cons := [], objs := [(132, [(slicesIndexFunc.con mtreeFormed)])], loops := [], cuts := [], globs := globs, base := 0 }
noncomputable def slicesContainsFunc.lp (mtreeFormed : Nat) (n : Nat) : LP (RT (slicesContainsFunc.con mtreeFormed).rs × BT (slicesContainsFunc.con mtreeFormed).ps) := fun lo κ body nm K s =>
  loops n (RT (slicesContainsFunc.con mtreeFormed).rs × BT (slicesContainsFunc.con mtreeFormed).ps) lo κ body nm K s
theorem slicesContainsFunc.eq (mtreeFormed : Nat) (n : Nat) (x : PT (slicesContainsFunc.con mtreeFormed).ps) : evFuncO (slicesContainsFunc.env mtreeFormed) Try.f117 slicesContainsFunc.body (slicesContainsFunc.con mtreeFormed).ps (slicesContainsFunc.con mtreeFormed).rs (slicesContainsFunc.lp mtreeFormed n) n x = (slicesContainsFunc.con mtreeFormed).f n x := by kernel_rfl
theorem slicesContainsFunc.sound (mtreeFormed : Nat) (ihtreeFormed : Sound Try.prog globs 72 (treeFormed.conM mtreeFormed)) : SoundO Try.prog globs 117 (slicesContainsFunc.con mtreeFormed) :=
  sound_byO (E := (slicesContainsFunc.env mtreeFormed)) (c := slicesContainsFunc.body) (envOk (G := globs) (lc := []) (lo := [(132, [(slicesIndexFunc.con mtreeFormed)])]) (envB_spec (by kernel_rfl)) rfl rfl trivial rfl ⟨⟨⟨(slicesIndexFunc.sound mtreeFormed ihtreeFormed), trivial⟩, by kernel_rfl⟩, trivial⟩ (by kernel_rfl) (by kernel_rfl)) Try.func117 (by kernel_rfl) (by kernel_rfl) (by kernel_rfl) (slicesContainsFunc.lp mtreeFormed) (l := []) (by kernel_rfl) (fun n => trivial) (slicesContainsFunc.eq mtreeFormed)
noncomputable def treeFormed.body : Code := Try.f72.body.getD .skip
noncomputable def treeFormed.env (mtreeFormed : Nat) : Env := { tys := [(4, ⟨.bool, 1⟩), (77, ⟨kS6, 96⟩), (66, ⟨(.slice kS6), 24⟩), (3, ⟨(.int .i64), 8⟩)], elems := [(66, 77), (140, 66)], ptrs := [], cons := [(84, treeParts.con), (116, treePlain.con)], objs := [(117, [(slicesContainsFunc.con mtreeFormed)])], loops := [], cuts := [], globs := globs, base := 0 }
noncomputable def treeFormed.lp (mtreeFormed : Nat) (n : Nat) : LP (Kd.struct (treeFormed.conM (Nat.succ mtreeFormed)).rs).T := fun lo κ body nm K s =>
  loops n (Kd.struct (treeFormed.conM (Nat.succ mtreeFormed)).rs).T lo κ body nm K s
theorem treeFormed.eq (mtreeFormed : Nat) (n : Nat) (x : (Kd.struct (treeFormed.conM (Nat.succ mtreeFormed)).ps).T) : evFunc (treeFormed.env mtreeFormed) Try.f72 treeFormed.body (treeFormed.conM (Nat.succ mtreeFormed)).ps (treeFormed.conM (Nat.succ mtreeFormed)).rs (treeFormed.lp mtreeFormed n) n x = (treeFormed.conM (Nat.succ mtreeFormed)).f n x := by kernel_rfl
theorem treeFormed.step (mtreeFormed : Nat) (ihtreeFormed : Sound Try.prog globs 72 (treeFormed.conM mtreeFormed)) : Sound Try.prog globs 72 (treeFormed.conM (Nat.succ mtreeFormed)) :=
  sound_by (E := (treeFormed.env mtreeFormed)) (c := treeFormed.body) (envOk (G := globs) (lc := [(84, treeParts.con), (116, treePlain.con)]) (lo := [(117, [(slicesContainsFunc.con mtreeFormed)])]) (envB_spec (by kernel_rfl)) rfl rfl ⟨.inl ⟨treeParts.sound, by kernel_rfl⟩, ⟨.inl ⟨treePlain.sound, by kernel_rfl⟩, trivial⟩⟩ rfl ⟨⟨⟨(slicesContainsFunc.sound mtreeFormed ihtreeFormed), trivial⟩, by kernel_rfl⟩, trivial⟩ (by kernel_rfl) (by kernel_rfl)) Try.func72 (by kernel_rfl) (treeFormed.lp mtreeFormed) (l := []) (by kernel_rfl) (fun n => trivial) (treeFormed.eq mtreeFormed)
theorem treeFormed.soundM (m : Nat) : Sound Try.prog globs 72 (treeFormed.conM m) := by
  induction m with
  | zero => intro n x r h; cases (show none = some r from h)
  | succ m ih => exact treeFormed.step m ih
theorem treeFormed.sound : Sound Try.prog globs 72 treeFormed.con :=
  sound_fuel (ps := [(.slice kS6)]) (rs := [.bool]) (F := fun n m x => treeFormed n m x.1) (treeFormed.soundM)
noncomputable def valueHeld (fu : Nat) (v : S1) : Option (S1 × Unit) :=
  cond (v.1 == (1 : Int)) (
    some ((v.1, v.2.1, (0 : Nat), [], ()), ())) (
    cond (v.1 == (2 : Int)) (
      some ((v.1, (0 : Int), v.2.2.1, [], ()), ())) (
      cond (v.1 == (3 : Int)) (
        some ((v.1, (0 : Int), (0 : Nat), v.2.2.2.1, ()), ())) (
        some ((v.1, (0 : Int), (0 : Nat), [], ()), ()))))

noncomputable def valueHeld.body : Code := Try.f94.body.getD .skip
noncomputable def valueHeld.con : Con := { ps := [kS1], rs := [kS1], f := fun n x => valueHeld n x.1 }
noncomputable def valueHeld.env : Env := { tys := [(34, ⟨kS1, 40⟩), (5, ⟨(.int .u8), 1⟩), (2, ⟨(.int .i64), 8⟩), (32, ⟨.flt, 8⟩), (9, ⟨.str, 16⟩)], elems := [], ptrs := [], cons := [], objs := [], loops := [], cuts := [], globs := globs, base := 0 }
noncomputable def valueHeld.lp (n : Nat) : LP (Kd.struct valueHeld.con.rs).T := fun lo κ body nm K s =>
  loops n (Kd.struct valueHeld.con.rs).T lo κ body nm K s
theorem valueHeld.eq (n : Nat) (x : (Kd.struct valueHeld.con.ps).T) : evFunc valueHeld.env Try.f94 valueHeld.body valueHeld.con.ps valueHeld.con.rs (valueHeld.lp n) n x = valueHeld.con.f n x := by kernel_rfl
theorem valueHeld.sound : Sound Try.prog globs 94 valueHeld.con :=
  sound_by (E := valueHeld.env) (c := valueHeld.body) (envOk (G := globs) (lc := []) (lo := []) (envB_spec (by kernel_rfl)) rfl rfl trivial rfl trivial (by kernel_rfl) (by kernel_rfl)) Try.func94 (by kernel_rfl) valueHeld.lp (l := []) (by kernel_rfl) (fun n => trivial) valueHeld.eq
noncomputable def valueMay (fu : Nat) (v : S1) : Option (Bool × Unit) :=
  (valueHeld fu v).bind fun r1 =>
  cond (decide (v.1 ≤ (3 : Int))) (
    let t2 := decide ((v.2.2.2.1.length : Int) ≤ (255 : Int))
    cond t2 (
      cond (r1.1.2.1 == v.2.1) (
        let t3 := r1.1.2.2.2.1 == v.2.2.2.1
        cond t3 (
          (extBits.f fu (r1.1.2.2.1, ())).bind fun r4 =>
          (extBits.f fu (v.2.2.1, ())).bind fun r5 =>
          some (r4.1 == r5.1, ())) (
          some (false, ()))) (
        some (false, ()))) (
      some (false, ()))) (
    some (false, ()))

noncomputable def valueMay.body : Code := Try.f59.body.getD .skip
noncomputable def valueMay.con : Con := { ps := [kS1], rs := [.bool], f := fun n x => valueMay n x.1 }
noncomputable def valueMay.env : Env := { tys := [(34, ⟨kS1, 40⟩), (4, ⟨.bool, 1⟩), (5, ⟨(.int .u8), 1⟩), (9, ⟨.str, 16⟩), (2, ⟨(.int .i64), 8⟩), (32, ⟨.flt, 8⟩)], elems := [], ptrs := [], cons := [(94, valueHeld.con), (92, extBits)], objs := [], loops := [], cuts := [], globs := globs, base := 0 }
noncomputable def valueMay.lp (n : Nat) : LP (Kd.struct valueMay.con.rs).T := fun lo κ body nm K s =>
  loops n (Kd.struct valueMay.con.rs).T lo κ body nm K s
theorem valueMay.eq (n : Nat) (x : (Kd.struct valueMay.con.ps).T) : evFunc valueMay.env Try.f59 valueMay.body valueMay.con.ps valueMay.con.rs (valueMay.lp n) n x = valueMay.con.f n x := by kernel_rfl
theorem valueMay.sound : Sound Try.prog globs 59 valueMay.con :=
  sound_by (E := valueMay.env) (c := valueMay.body) (envOk (G := globs) (lc := [(94, valueHeld.con), (92, extBits)]) (lo := []) (envB_spec (by kernel_rfl)) rfl rfl ⟨.inl ⟨valueHeld.sound, by kernel_rfl⟩, ⟨.inr (extBits_ok Try.func92 (by kernel_rfl) (by kernel_rfl) (by kernel_rfl) (by kernel_rfl)), trivial⟩⟩ rfl trivial (by kernel_rfl) (by kernel_rfl)) Try.func59 (by kernel_rfl) valueMay.lp (l := []) (by kernel_rfl) (fun n => trivial) valueMay.eq
noncomputable def predRight (fu : Nat) (tv : S2) : Option (Bool × Unit) :=
  (valueMay fu tv.2.2.1).bind fun r1 =>
  cond (!r1.1) (
    some (false, ())) (
    cond (tv.2.1 == (7 : Int)) (
      some (tv.2.2.1.1 == (0 : Int), ())) (
      cond (tv.2.1 == (8 : Int)) (
        some (tv.2.2.1.1 == (3 : Int), ())) (
        let t2 := decide (tv.2.1 ≥ (1 : Int))
        cond t2 (
          let t3 := decide (tv.2.1 ≤ (6 : Int))
          cond t3 (
            some (tv.2.2.1.1 != (0 : Int), ())) (
            some (false, ()))) (
          some (false, ())))))

noncomputable def predRight.body : Code := Try.f115.body.getD .skip
noncomputable def predRight.con : Con := { ps := [kS2], rs := [.bool], f := fun n x => predRight n x.1 }
noncomputable def predRight.env : Env := { tys := [(88, ⟨kS2, 48⟩), (4, ⟨.bool, 1⟩), (34, ⟨kS1, 40⟩), (5, ⟨(.int .u8), 1⟩)], elems := [], ptrs := [], cons := [(59, valueMay.con)], objs := [], loops := [], cuts := [], globs := globs, base := 0 }
noncomputable def predRight.lp (n : Nat) : LP (Kd.struct predRight.con.rs).T := fun lo κ body nm K s =>
  loops n (Kd.struct predRight.con.rs).T lo κ body nm K s
theorem predRight.eq (n : Nat) (x : (Kd.struct predRight.con.ps).T) : evFunc predRight.env Try.f115 predRight.body predRight.con.ps predRight.con.rs (predRight.lp n) n x = predRight.con.f n x := by kernel_rfl
theorem predRight.sound : Sound Try.prog globs 115 predRight.con :=
  sound_by (E := predRight.env) (c := predRight.body) (envOk (G := globs) (lc := [(59, valueMay.con)]) (lo := []) (envB_spec (by kernel_rfl)) rfl rfl ⟨.inl ⟨valueMay.sound, by kernel_rfl⟩, trivial⟩ rfl trivial (by kernel_rfl) (by kernel_rfl)) Try.func115 (by kernel_rfl) predRight.lp (l := []) (by kernel_rfl) (fun n => trivial) predRight.eq
noncomputable def predMay1 (fu : Nat) (tv : S2) : Option (Bool × Unit) :=
  (predRight fu tv).bind fun r1 =>
  some (!r1.1, ())

noncomputable def predMay1.body : Code := Try.f114.body.getD .skip
noncomputable def predMay1.con : Con := { ps := [kS2], rs := [.bool], f := fun n x => predMay1 n x.1 }
noncomputable def predMay1.env : Env := { tys := [(88, ⟨kS2, 48⟩), (4, ⟨.bool, 1⟩)], elems := [], ptrs := [], cons := [(115, predRight.con)], objs := [], loops := [], cuts := [], globs := globs, base := 0 }
noncomputable def predMay1.lp (n : Nat) : LP (Kd.struct predMay1.con.rs).T := fun lo κ body nm K s =>
  loops n (Kd.struct predMay1.con.rs).T lo κ body nm K s
theorem predMay1.eq (n : Nat) (x : (Kd.struct predMay1.con.ps).T) : evFunc predMay1.env Try.f114 predMay1.body predMay1.con.ps predMay1.con.rs (predMay1.lp n) n x = predMay1.con.f n x := by kernel_rfl
theorem predMay1.sound : Sound Try.prog globs 114 predMay1.con :=
  sound_by (E := predMay1.env) (c := predMay1.body) (envOk (G := globs) (lc := [(115, predRight.con)]) (lo := []) (envB_spec (by kernel_rfl)) rfl rfl ⟨.inl ⟨predRight.sound, by kernel_rfl⟩, trivial⟩ rfl trivial (by kernel_rfl) (by kernel_rfl)) Try.func114 (by kernel_rfl) predMay1.lp (l := []) (by kernel_rfl) (fun n => trivial) predMay1.eq
noncomputable def slicesIndexFuncF130.b2 (fu : Nat) (next : (List S2) → Int → Int → Option ((Int × Unit) × (Unit))) (k1 : Int → Option ((Int × Unit) × (Unit))) (k2 : Unit → Option ((Int × Unit) × (Unit))) (sv : List S2) (v : Int) (vx2 : Int) : Option ((Int × Unit) × (Unit)) :=
  cond (decide (vx2 < v)) (
    chk (ixOk sv vx2) <|
    let e1 := ixL ((0 : Int), (0 : Int), ((0 : Int), (0 : Int), (0 : Nat), [], ()), ()) sv vx2
    (predMay1 fu e1).bind fun r2 =>
    cond r2.1 (
      k1 vx2) (
      let t3 := IntKind.i64.wrap (vx2 + (1 : Int))
      next sv v t3)) (
    k2 ())
noncomputable def slicesIndexFuncF130.l2 (fu : Nat) (k1 : Int → Option ((Int × Unit) × (Unit))) (k2 : Unit → Option ((Int × Unit) × (Unit))) : Nat → (List S2) → Int → Int → Option ((Int × Unit) × (Unit))
  | 0, _, _, _ => none
  | m + 1, sv, v, vx2 => slicesIndexFuncF130.b2 fu (slicesIndexFuncF130.l2 fu k1 k2 m) k1 k2 sv v vx2
noncomputable def slicesIndexFuncF130 (fu : Nat) (sv : List S2) : Option ((Int × Unit) × (Unit)) :=
  slicesIndexFuncF130.l2 fu (fun vq3 => 
      some ((vq3, ()), (()))) (fun (_ : Unit) => 
      some (((-1 : Int), ()), (()))) fu sv (sv.length : Int) (0 : Int)

noncomputable def slicesIndexFuncF130.body : Code := Try.f130.body.getD .skip
abbrev slicesIndexFuncF130.shl2 : Shp := ⟨[.d (.slice kS2), .f 114, .u, .u, .u, .u, .u, .d (.int .i64), .d (.int .i64), .u, .u, .u, .u, .u, .u, .u, .u, .u, .u], []⟩
abbrev slicesIndexFuncF130.outl2e1 : Shp := ⟨[.u, .u, .u, .u, .d (.int .i64), .u, .u, .u, .u, .u, .u, .u, .u, .u, .u, .u, .u, .u, .u], []⟩
abbrev slicesIndexFuncF130.outl2e2 : Shp := ⟨[.u, .u, .u, .u, .u, .u, .u, .u, .u, .u, .u, .u, .u, .u, .u, .u, .u, .u, .u], []⟩
noncomputable def slicesIndexFuncF130.nml2 : Norm := ⟨{ keep := [0, 1, 7, 8], shut := [(0, (.slice kS2)), (7, (.int .i64)), (8, (.int .i64))], retag := [], heap := 0, dead := [], cshut := [], cretag := [] }, [(1, { keep := [4], shut := [(4, (.int .i64))], retag := [], heap := 0, dead := [], cshut := [], cretag := [] }), (2, { keep := [], shut := [], retag := [], heap := 0, dead := [], cshut := [], cretag := [] })]⟩
noncomputable def slicesIndexFuncF130.con : OCon := { ps := [.dat (.slice kS2), .fn 114], rs := [.dat (.int .i64)], f := fun n x => slicesIndexFuncF130 n x.1 }
noncomputable def slicesIndexFuncF130.env : Env := { tys := [(3, ⟨(.int .i64), 8⟩), (88, ⟨kS2, 48⟩)], elems := [(73, 88)], ptrs := [], cons := [(114, predMay1.con)], objs := [], loops := [(2, slicesIndexFuncF130.nml2)], cuts := [], globs := globs, base := 0 }
noncomputable def slicesIndexFuncF130.lp (n : Nat) : LP (RT slicesIndexFuncF130.con.rs × BT slicesIndexFuncF130.con.ps) := fun lo κ body nm K s =>
  cond (lo && Nat.beq κ 2)
    (match slicesIndexFuncF130.shl2.dec s with
    | some v => slicesIndexFuncF130.l2 n (fun w0 => K .ret (slicesIndexFuncF130.outl2e1.enc (w0, ()))) (fun _ => K (.exit 0) (slicesIndexFuncF130.outl2e2.enc (()))) n v.1 v.2.1 v.2.2.1
    | none => loops n (RT slicesIndexFuncF130.con.rs × BT slicesIndexFuncF130.con.ps) lo κ body nm K s)
    (loops n (RT slicesIndexFuncF130.con.rs × BT slicesIndexFuncF130.con.ps) lo κ body nm K s)
theorem slicesIndexFuncF130.atl2 (n : Nat) (s : St) (K : Ex → St → Option (RT slicesIndexFuncF130.con.rs × BT slicesIndexFuncF130.con.ps)) : (slicesIndexFuncF130.lp n) true 2 (evK slicesIndexFuncF130.env (slicesIndexFuncF130.lp n) n (sub [1, 0, 1, 0, 0] slicesIndexFuncF130.body)) slicesIndexFuncF130.nml2 K s = loops n (RT slicesIndexFuncF130.con.rs × BT slicesIndexFuncF130.con.ps) true 2 (evK slicesIndexFuncF130.env (slicesIndexFuncF130.lp n) n (sub [1, 0, 1, 0, 0] slicesIndexFuncF130.body)) slicesIndexFuncF130.nml2 K s := by
  show (match slicesIndexFuncF130.shl2.dec s with | some v => slicesIndexFuncF130.l2 n (fun w0 => K .ret (slicesIndexFuncF130.outl2e1.enc (w0, ()))) (fun _ => K (.exit 0) (slicesIndexFuncF130.outl2e2.enc (()))) n v.1 v.2.1 v.2.2.1 | none => loops n (RT slicesIndexFuncF130.con.rs × BT slicesIndexFuncF130.con.ps) true 2 (evK slicesIndexFuncF130.env (slicesIndexFuncF130.lp n) n (sub [1, 0, 1, 0, 0] slicesIndexFuncF130.body)) slicesIndexFuncF130.nml2 K s) = _
  cases h : slicesIndexFuncF130.shl2.dec s with
  | none => rfl
  | some v =>
    rw [Shp.dec_enc h]
    exact (evLoop_eq (sh := slicesIndexFuncF130.shl2) (body := evK slicesIndexFuncF130.env (slicesIndexFuncF130.lp n) n (sub [1, 0, 1, 0, 0] slicesIndexFuncF130.body)) (nm := slicesIndexFuncF130.nml2) (K := K) (b := fun nx v => slicesIndexFuncF130.b2 n (fun x0 x1 x2 => nx (x0, x1, x2, ())) (fun w0 => K .ret (slicesIndexFuncF130.outl2e1.enc (w0, ()))) (fun _ => K (.exit 0) (slicesIndexFuncF130.outl2e2.enc (()))) v.1 v.2.1 v.2.2.1) (l := fun m v => slicesIndexFuncF130.l2 n (fun w0 => K .ret (slicesIndexFuncF130.outl2e1.enc (w0, ()))) (fun _ => K (.exit 0) (slicesIndexFuncF130.outl2e2.enc (()))) m v.1 v.2.1 v.2.2.1) (fun _ => rfl) (fun _ _ => rfl) (fun m v => by kernel_rfl) n v).symm
theorem slicesIndexFuncF130.eq (n : Nat) (x : PT slicesIndexFuncF130.con.ps) : evFuncO slicesIndexFuncF130.env Try.f130 slicesIndexFuncF130.body slicesIndexFuncF130.con.ps slicesIndexFuncF130.con.rs (slicesIndexFuncF130.lp n) n x = slicesIndexFuncF130.con.f n x := by kernel_rfl
theorem slicesIndexFuncF130.sound : SoundO Try.prog globs 130 slicesIndexFuncF130.con :=
  sound_byO (E := slicesIndexFuncF130.env) (c := slicesIndexFuncF130.body) (envOk (G := globs) (lc := [(114, predMay1.con)]) (lo := []) (envB_spec (by kernel_rfl)) rfl rfl ⟨.inl ⟨predMay1.sound, by kernel_rfl⟩, trivial⟩ rfl trivial (by kernel_rfl) (by kernel_rfl)) Try.func130 (by kernel_rfl) (by kernel_rfl) (by kernel_rfl) slicesIndexFuncF130.lp (l := [(true, sub [1, 0, 1, 0, 0] slicesIndexFuncF130.body, slicesIndexFuncF130.nml2)]) (by kernel_rfl) (fun n => ⟨slicesIndexFuncF130.atl2 n, trivial⟩) slicesIndexFuncF130.eq
noncomputable def slicesContainsFuncF113 (fu : Nat) (sv : List S2) : Option ((Bool × Unit) × (Unit)) :=
  (slicesIndexFuncF130 fu sv).bind fun r1 =>
  let t2 := decide (r1.1.1 ≥ (0 : Int))
  some ((t2, ()), (()))

noncomputable def slicesContainsFuncF113.body : Code := Try.f113.body.getD .skip
noncomputable def slicesContainsFuncF113.con : OCon := { ps := [.dat (.slice kS2), .fn 114], rs := [.dat .bool], f := fun n x => slicesContainsFuncF113 n x.1 }
noncomputable def slicesContainsFuncF113.env : Env := { tys := [(4, ⟨.bool, 1⟩)], elems := [], ptrs := [], cons := [], objs := [(130, [slicesIndexFuncF130.con])], loops := [], cuts := [], globs := globs, base := 0 }
noncomputable def slicesContainsFuncF113.lp (n : Nat) : LP (RT slicesContainsFuncF113.con.rs × BT slicesContainsFuncF113.con.ps) := fun lo κ body nm K s =>
  loops n (RT slicesContainsFuncF113.con.rs × BT slicesContainsFuncF113.con.ps) lo κ body nm K s
theorem slicesContainsFuncF113.eq (n : Nat) (x : PT slicesContainsFuncF113.con.ps) : evFuncO slicesContainsFuncF113.env Try.f113 slicesContainsFuncF113.body slicesContainsFuncF113.con.ps slicesContainsFuncF113.con.rs (slicesContainsFuncF113.lp n) n x = slicesContainsFuncF113.con.f n x := by kernel_rfl
theorem slicesContainsFuncF113.sound : SoundO Try.prog globs 113 slicesContainsFuncF113.con :=
  sound_byO (E := slicesContainsFuncF113.env) (c := slicesContainsFuncF113.body) (envOk (G := globs) (lc := []) (lo := [(130, [slicesIndexFuncF130.con])]) (envB_spec (by kernel_rfl)) rfl rfl trivial rfl ⟨⟨⟨slicesIndexFuncF130.sound, trivial⟩, by kernel_rfl⟩, trivial⟩ (by kernel_rfl) (by kernel_rfl)) Try.func113 (by kernel_rfl) (by kernel_rfl) (by kernel_rfl) slicesContainsFuncF113.lp (l := []) (by kernel_rfl) (fun n => trivial) slicesContainsFuncF113.eq
noncomputable def predMay (fu : Nat) (p : S3) : Option (Bool × Unit) :=
  cond p.1 (
    cond (p.2.1 != (0 : Int)) (
      some (false, ())) (
      let t1 := decide ((p.2.2.1.length : Int) > (4 : Int))
      cond t1 (
        some (false, ())) (
        (slicesContainsFuncF113 fu p.2.2.1).bind fun r2 =>
        some (!r2.1.1, ())))) (
    let t3 := decide ((p.2.2.1.length : Int) > (4 : Int))
    cond t3 (
      some (false, ())) (
      (slicesContainsFuncF113 fu p.2.2.1).bind fun r4 =>
      some (!r4.1.1, ())))

noncomputable def predMay.body : Code := Try.f71.body.getD .skip
noncomputable def predMay.con : Con := { ps := [kS3], rs := [.bool], f := fun n x => predMay n x.1 }
noncomputable def predMay.env : Env := { tys := [(75, ⟨kS3, 32⟩), (4, ⟨.bool, 1⟩), (5, ⟨(.int .u8), 1⟩), (73, ⟨(.slice kS2), 24⟩), (88, ⟨kS2, 48⟩)], elems := [(73, 88)], ptrs := [], cons := [], objs := [(113, [slicesContainsFuncF113.con])], loops := [], cuts := [], globs := globs, base := 0 }
noncomputable def predMay.lp (n : Nat) : LP (Kd.struct predMay.con.rs).T := fun lo κ body nm K s =>
  loops n (Kd.struct predMay.con.rs).T lo κ body nm K s
theorem predMay.eq (n : Nat) (x : (Kd.struct predMay.con.ps).T) : evFunc predMay.env Try.f71 predMay.body predMay.con.ps predMay.con.rs (predMay.lp n) n x = predMay.con.f n x := by kernel_rfl
theorem predMay.sound : Sound Try.prog globs 71 predMay.con :=
  sound_by (E := predMay.env) (c := predMay.body) (envOk (G := globs) (lc := []) (lo := [(113, [slicesContainsFuncF113.con])]) (envB_spec (by kernel_rfl)) rfl rfl trivial rfl ⟨⟨⟨slicesContainsFuncF113.sound, trivial⟩, by kernel_rfl⟩, trivial⟩ (by kernel_rfl) (by kernel_rfl)) Try.func71 (by kernel_rfl) predMay.lp (l := []) (by kernel_rfl) (fun n => trivial) predMay.eq
noncomputable def treeMay1 (fu : Nat) (xv : S6) : Option (Bool × Unit) :=
  (predMay fu xv.2.1).bind fun r1 =>
  cond (!r1.1) (
    some (true, ())) (
    (predMay fu xv.2.2.2.1).bind fun r2 =>
    some (!r2.1, ()))

noncomputable def treeMay1.body : Code := Try.f70.body.getD .skip
noncomputable def treeMay1.con : Con := { ps := [kS6], rs := [.bool], f := fun n x => treeMay1 n x.1 }
noncomputable def treeMay1.env : Env := { tys := [(77, ⟨kS6, 96⟩), (4, ⟨.bool, 1⟩), (75, ⟨kS3, 32⟩)], elems := [], ptrs := [], cons := [(71, predMay.con)], objs := [], loops := [], cuts := [], globs := globs, base := 0 }
noncomputable def treeMay1.lp (n : Nat) : LP (Kd.struct treeMay1.con.rs).T := fun lo κ body nm K s =>
  loops n (Kd.struct treeMay1.con.rs).T lo κ body nm K s
theorem treeMay1.eq (n : Nat) (x : (Kd.struct treeMay1.con.ps).T) : evFunc treeMay1.env Try.f70 treeMay1.body treeMay1.con.ps treeMay1.con.rs (treeMay1.lp n) n x = treeMay1.con.f n x := by kernel_rfl
theorem treeMay1.sound : Sound Try.prog globs 70 treeMay1.con :=
  sound_by (E := treeMay1.env) (c := treeMay1.body) (envOk (G := globs) (lc := [(71, predMay.con)]) (lo := []) (envB_spec (by kernel_rfl)) rfl rfl ⟨.inl ⟨predMay.sound, by kernel_rfl⟩, trivial⟩ rfl trivial (by kernel_rfl) (by kernel_rfl)) Try.func70 (by kernel_rfl) treeMay1.lp (l := []) (by kernel_rfl) (fun n => trivial) treeMay1.eq
noncomputable def slicesIndexFuncF119.b2 (fu : Nat) (next : (List S6) → Int → Int → Option ((Int × Unit) × (Unit))) (k1 : Int → Option ((Int × Unit) × (Unit))) (k2 : Unit → Option ((Int × Unit) × (Unit))) (sv : List S6) (v : Int) (vx2 : Int) : Option ((Int × Unit) × (Unit)) :=
  cond (decide (vx2 < v)) (
    chk (ixOk sv vx2) <|
    let e1 := ixL ((0 : Int), (false, (0 : Int), [], ()), false, (false, (0 : Int), [], ()), (0 : Int), (0 : Int), (0 : Int), ()) sv vx2
    (treeMay1 fu e1).bind fun r2 =>
    cond r2.1 (
      k1 vx2) (
      let t3 := IntKind.i64.wrap (vx2 + (1 : Int))
      next sv v t3)) (
    k2 ())
noncomputable def slicesIndexFuncF119.l2 (fu : Nat) (k1 : Int → Option ((Int × Unit) × (Unit))) (k2 : Unit → Option ((Int × Unit) × (Unit))) : Nat → (List S6) → Int → Int → Option ((Int × Unit) × (Unit))
  | 0, _, _, _ => none
  | m + 1, sv, v, vx2 => slicesIndexFuncF119.b2 fu (slicesIndexFuncF119.l2 fu k1 k2 m) k1 k2 sv v vx2
noncomputable def slicesIndexFuncF119 (fu : Nat) (sv : List S6) : Option ((Int × Unit) × (Unit)) :=
  slicesIndexFuncF119.l2 fu (fun vq3 => 
      some ((vq3, ()), (()))) (fun (_ : Unit) => 
      some (((-1 : Int), ()), (()))) fu sv (sv.length : Int) (0 : Int)

noncomputable def slicesIndexFuncF119.body : Code := Try.f119.body.getD .skip
abbrev slicesIndexFuncF119.shl2 : Shp := ⟨[.d (.slice kS6), .f 70, .u, .u, .u, .u, .u, .d (.int .i64), .d (.int .i64), .u, .u, .u, .u, .u, .u, .u, .u, .u, .u], []⟩
abbrev slicesIndexFuncF119.outl2e1 : Shp := ⟨[.u, .u, .u, .u, .d (.int .i64), .u, .u, .u, .u, .u, .u, .u, .u, .u, .u, .u, .u, .u, .u], []⟩
abbrev slicesIndexFuncF119.outl2e2 : Shp := ⟨[.u, .u, .u, .u, .u, .u, .u, .u, .u, .u, .u, .u, .u, .u, .u, .u, .u, .u, .u], []⟩
noncomputable def slicesIndexFuncF119.nml2 : Norm := ⟨{ keep := [0, 1, 7, 8], shut := [(0, (.slice kS6)), (7, (.int .i64)), (8, (.int .i64))], retag := [], heap := 0, dead := [], cshut := [], cretag := [] }, [(1, { keep := [4], shut := [(4, (.int .i64))], retag := [], heap := 0, dead := [], cshut := [], cretag := [] }), (2, { keep := [], shut := [], retag := [], heap := 0, dead := [], cshut := [], cretag := [] })]⟩
noncomputable def slicesIndexFuncF119.con : OCon := { ps := [.dat (.slice kS6), .fn 70], rs := [.dat (.int .i64)], f := fun n x => slicesIndexFuncF119 n x.1 }
noncomputable def slicesIndexFuncF119.env : Env := { tys := [(3, ⟨(.int .i64), 8⟩), (77, ⟨kS6, 96⟩)], elems := [(66, 77)], ptrs := [], cons := [(70, treeMay1.con)], objs := [], loops := [(2, slicesIndexFuncF119.nml2)], cuts := [], globs := globs, base := 0 }
noncomputable def slicesIndexFuncF119.lp (n : Nat) : LP (RT slicesIndexFuncF119.con.rs × BT slicesIndexFuncF119.con.ps) := fun lo κ body nm K s =>
  cond (lo && Nat.beq κ 2)
    (match slicesIndexFuncF119.shl2.dec s with
    | some v => slicesIndexFuncF119.l2 n (fun w0 => K .ret (slicesIndexFuncF119.outl2e1.enc (w0, ()))) (fun _ => K (.exit 0) (slicesIndexFuncF119.outl2e2.enc (()))) n v.1 v.2.1 v.2.2.1
    | none => loops n (RT slicesIndexFuncF119.con.rs × BT slicesIndexFuncF119.con.ps) lo κ body nm K s)
    (loops n (RT slicesIndexFuncF119.con.rs × BT slicesIndexFuncF119.con.ps) lo κ body nm K s)
theorem slicesIndexFuncF119.atl2 (n : Nat) (s : St) (K : Ex → St → Option (RT slicesIndexFuncF119.con.rs × BT slicesIndexFuncF119.con.ps)) : (slicesIndexFuncF119.lp n) true 2 (evK slicesIndexFuncF119.env (slicesIndexFuncF119.lp n) n (sub [1, 0, 1, 0, 0] slicesIndexFuncF119.body)) slicesIndexFuncF119.nml2 K s = loops n (RT slicesIndexFuncF119.con.rs × BT slicesIndexFuncF119.con.ps) true 2 (evK slicesIndexFuncF119.env (slicesIndexFuncF119.lp n) n (sub [1, 0, 1, 0, 0] slicesIndexFuncF119.body)) slicesIndexFuncF119.nml2 K s := by
  show (match slicesIndexFuncF119.shl2.dec s with | some v => slicesIndexFuncF119.l2 n (fun w0 => K .ret (slicesIndexFuncF119.outl2e1.enc (w0, ()))) (fun _ => K (.exit 0) (slicesIndexFuncF119.outl2e2.enc (()))) n v.1 v.2.1 v.2.2.1 | none => loops n (RT slicesIndexFuncF119.con.rs × BT slicesIndexFuncF119.con.ps) true 2 (evK slicesIndexFuncF119.env (slicesIndexFuncF119.lp n) n (sub [1, 0, 1, 0, 0] slicesIndexFuncF119.body)) slicesIndexFuncF119.nml2 K s) = _
  cases h : slicesIndexFuncF119.shl2.dec s with
  | none => rfl
  | some v =>
    rw [Shp.dec_enc h]
    exact (evLoop_eq (sh := slicesIndexFuncF119.shl2) (body := evK slicesIndexFuncF119.env (slicesIndexFuncF119.lp n) n (sub [1, 0, 1, 0, 0] slicesIndexFuncF119.body)) (nm := slicesIndexFuncF119.nml2) (K := K) (b := fun nx v => slicesIndexFuncF119.b2 n (fun x0 x1 x2 => nx (x0, x1, x2, ())) (fun w0 => K .ret (slicesIndexFuncF119.outl2e1.enc (w0, ()))) (fun _ => K (.exit 0) (slicesIndexFuncF119.outl2e2.enc (()))) v.1 v.2.1 v.2.2.1) (l := fun m v => slicesIndexFuncF119.l2 n (fun w0 => K .ret (slicesIndexFuncF119.outl2e1.enc (w0, ()))) (fun _ => K (.exit 0) (slicesIndexFuncF119.outl2e2.enc (()))) m v.1 v.2.1 v.2.2.1) (fun _ => rfl) (fun _ _ => rfl) (fun m v => by kernel_rfl) n v).symm
theorem slicesIndexFuncF119.eq (n : Nat) (x : PT slicesIndexFuncF119.con.ps) : evFuncO slicesIndexFuncF119.env Try.f119 slicesIndexFuncF119.body slicesIndexFuncF119.con.ps slicesIndexFuncF119.con.rs (slicesIndexFuncF119.lp n) n x = slicesIndexFuncF119.con.f n x := by kernel_rfl
theorem slicesIndexFuncF119.sound : SoundO Try.prog globs 119 slicesIndexFuncF119.con :=
  sound_byO (E := slicesIndexFuncF119.env) (c := slicesIndexFuncF119.body) (envOk (G := globs) (lc := [(70, treeMay1.con)]) (lo := []) (envB_spec (by kernel_rfl)) rfl rfl ⟨.inl ⟨treeMay1.sound, by kernel_rfl⟩, trivial⟩ rfl trivial (by kernel_rfl) (by kernel_rfl)) Try.func119 (by kernel_rfl) (by kernel_rfl) (by kernel_rfl) slicesIndexFuncF119.lp (l := [(true, sub [1, 0, 1, 0, 0] slicesIndexFuncF119.body, slicesIndexFuncF119.nml2)]) (by kernel_rfl) (fun n => ⟨slicesIndexFuncF119.atl2 n, trivial⟩) slicesIndexFuncF119.eq
noncomputable def slicesContainsFuncF73 (fu : Nat) (sv : List S6) : Option ((Bool × Unit) × (Unit)) :=
  (slicesIndexFuncF119 fu sv).bind fun r1 =>
  let t2 := decide (r1.1.1 ≥ (0 : Int))
  some ((t2, ()), (()))

noncomputable def slicesContainsFuncF73.body : Code := Try.f73.body.getD .skip
noncomputable def slicesContainsFuncF73.con : OCon := { ps := [.dat (.slice kS6), .fn 70], rs := [.dat .bool], f := fun n x => slicesContainsFuncF73 n x.1 }
noncomputable def slicesContainsFuncF73.env : Env := { tys := [(4, ⟨.bool, 1⟩)], elems := [], ptrs := [], cons := [], objs := [(119, [slicesIndexFuncF119.con])], loops := [], cuts := [], globs := globs, base := 0 }
noncomputable def slicesContainsFuncF73.lp (n : Nat) : LP (RT slicesContainsFuncF73.con.rs × BT slicesContainsFuncF73.con.ps) := fun lo κ body nm K s =>
  loops n (RT slicesContainsFuncF73.con.rs × BT slicesContainsFuncF73.con.ps) lo κ body nm K s
theorem slicesContainsFuncF73.eq (n : Nat) (x : PT slicesContainsFuncF73.con.ps) : evFuncO slicesContainsFuncF73.env Try.f73 slicesContainsFuncF73.body slicesContainsFuncF73.con.ps slicesContainsFuncF73.con.rs (slicesContainsFuncF73.lp n) n x = slicesContainsFuncF73.con.f n x := by kernel_rfl
theorem slicesContainsFuncF73.sound : SoundO Try.prog globs 73 slicesContainsFuncF73.con :=
  sound_byO (E := slicesContainsFuncF73.env) (c := slicesContainsFuncF73.body) (envOk (G := globs) (lc := []) (lo := [(119, [slicesIndexFuncF119.con])]) (envB_spec (by kernel_rfl)) rfl rfl trivial rfl ⟨⟨⟨slicesIndexFuncF119.sound, trivial⟩, by kernel_rfl⟩, trivial⟩ (by kernel_rfl) (by kernel_rfl)) Try.func73 (by kernel_rfl) (by kernel_rfl) (by kernel_rfl) slicesContainsFuncF73.lp (l := []) (by kernel_rfl) (fun n => trivial) slicesContainsFuncF73.eq
noncomputable def treeDeep.b3 (fu : Nat) (StreeDeep : (List S6) → Option (Int × Unit)) (next : Int → (List (List S6)) → Int → Int → Option (Int × Unit)) (k2 : Int → Option (Int × Unit)) (most : Int) (v : List (List S6)) (vx2 : Int) (vx3 : Int) : Option (Int × Unit) :=
  cond (decide (vx3 < vx2)) (
    chk (ixOk v vx3) <|
    let e1 := ixL [] v vx3
    (StreeDeep e1).bind fun r2 =>
    let t3 := IntKind.i64.wrap (r2.1 + (1 : Int))
    let t4 := IntKind.i64.wrap (vx3 + (1 : Int))
    next (max2 most t3) v vx2 t4) (
    k2 most)
noncomputable def treeDeep.l3 (fu : Nat) (StreeDeep : (List S6) → Option (Int × Unit)) (k2 : Int → Option (Int × Unit)) : Nat → Int → (List (List S6)) → Int → Int → Option (Int × Unit)
  | 0, _, _, _, _ => none
  | m + 1, most, v, vx2, vx3 => treeDeep.b3 fu StreeDeep (treeDeep.l3 fu StreeDeep k2 m) k2 most v vx2 vx3
noncomputable def treeDeep.bd (fu : Nat) (StreeDeep : (List S6) → Option (Int × Unit)) (l : List S6) : Option (Int × Unit) :=
  (treeParts fu l).bind fun r1 =>
  treeDeep.l3 fu StreeDeep (fun mostq2 => 
      some (mostq2, ())) fu (0 : Int) r1.1 (r1.1.length : Int) (0 : Int)
noncomputable def treeDeep (fu : Nat) (m : Nat) : (List S6) → Option (Int × Unit) :=
  Nat.rec (fun _ => none) (fun _ StreeDeep => treeDeep.bd fu StreeDeep) m

noncomputable def treeDeep.conM (m : Nat) : Con := { ps := [(.slice kS6)], rs := [(.int .i64)], f := fun n x => treeDeep n m x.1 }
noncomputable def treeDeep.con : Con := { ps := [(.slice kS6)], rs := [(.int .i64)], f := fun n x => treeDeep n n x.1 }
noncomputable def treeDeep.body : Code := Try.f74.body.getD .skip
abbrev treeDeep.shl3 : Shp := ⟨[.u, .u, .u, .d (.int .i64), .u, .u, .u, .d (.slice (.slice kS6)), .d (.int .i64), .d (.int .i64), .u, .u, .u, .u, .u, .u, .u, .u, .u, .u], []⟩
abbrev treeDeep.outl3e2 : Shp := ⟨[.u, .u, .u, .d (.int .i64), .u, .u, .u, .u, .u, .u, .u, .u, .u, .u, .u, .u, .u, .u, .u, .u], []⟩
noncomputable def treeDeep.nml3 : Norm := ⟨{ keep := [3, 7, 8, 9], shut := [(3, (.int .i64)), (7, (.slice (.slice kS6))), (8, (.int .i64)), (9, (.int .i64))], retag := [], heap := 0, dead := [], cshut := [], cretag := [] }, [(2, { keep := [3], shut := [(3, (.int .i64))], retag := [], heap := 0, dead := [], cshut := [], cretag := [] })]⟩
noncomputable def treeDeep.env (mtreeDeep : Nat) : Env := { tys := [(3, ⟨(.int .i64), 8⟩), (66, ⟨(.slice kS6), 24⟩)], elems := [(140, 66)], ptrs := [], cons := [(84, treeParts.con), (74, (treeDeep.conM mtreeDeep))], objs := [], loops := [(3, treeDeep.nml3)], cuts := [], globs := globs, base := 0 }
noncomputable def treeDeep.lp (mtreeDeep : Nat) (n : Nat) : LP (Kd.struct (treeDeep.conM (Nat.succ mtreeDeep)).rs).T := fun lo κ body nm K s =>
  cond (lo && Nat.beq κ 3)
    (match treeDeep.shl3.dec s with
    | some v => treeDeep.l3 n (treeDeep n mtreeDeep) (fun w0 => K (.exit 0) (treeDeep.outl3e2.enc (w0, ()))) n v.1 v.2.1 v.2.2.1 v.2.2.2.1
    | none => loops n (Kd.struct (treeDeep.conM (Nat.succ mtreeDeep)).rs).T lo κ body nm K s)
    (loops n (Kd.struct (treeDeep.conM (Nat.succ mtreeDeep)).rs).T lo κ body nm K s)
theorem treeDeep.atl3 (mtreeDeep : Nat) (n : Nat) (s : St) (K : Ex → St → Option (Kd.struct (treeDeep.conM (Nat.succ mtreeDeep)).rs).T) : (treeDeep.lp mtreeDeep n) true 3 (evK (treeDeep.env mtreeDeep) (treeDeep.lp mtreeDeep n) n (sub [1, 1, 0, 1, 0, 0] treeDeep.body)) treeDeep.nml3 K s = loops n (Kd.struct (treeDeep.conM (Nat.succ mtreeDeep)).rs).T true 3 (evK (treeDeep.env mtreeDeep) (treeDeep.lp mtreeDeep n) n (sub [1, 1, 0, 1, 0, 0] treeDeep.body)) treeDeep.nml3 K s := by
  show (match treeDeep.shl3.dec s with | some v => treeDeep.l3 n (treeDeep n mtreeDeep) (fun w0 => K (.exit 0) (treeDeep.outl3e2.enc (w0, ()))) n v.1 v.2.1 v.2.2.1 v.2.2.2.1 | none => loops n (Kd.struct (treeDeep.conM (Nat.succ mtreeDeep)).rs).T true 3 (evK (treeDeep.env mtreeDeep) (treeDeep.lp mtreeDeep n) n (sub [1, 1, 0, 1, 0, 0] treeDeep.body)) treeDeep.nml3 K s) = _
  cases h : treeDeep.shl3.dec s with
  | none => rfl
  | some v =>
    rw [Shp.dec_enc h]
    exact (evLoop_eq (sh := treeDeep.shl3) (body := evK (treeDeep.env mtreeDeep) (treeDeep.lp mtreeDeep n) n (sub [1, 1, 0, 1, 0, 0] treeDeep.body)) (nm := treeDeep.nml3) (K := K) (b := fun nx v => treeDeep.b3 n (treeDeep n mtreeDeep) (fun x0 x1 x2 x3 => nx (x0, x1, x2, x3, ())) (fun w0 => K (.exit 0) (treeDeep.outl3e2.enc (w0, ()))) v.1 v.2.1 v.2.2.1 v.2.2.2.1) (l := fun m v => treeDeep.l3 n (treeDeep n mtreeDeep) (fun w0 => K (.exit 0) (treeDeep.outl3e2.enc (w0, ()))) m v.1 v.2.1 v.2.2.1 v.2.2.2.1) (fun _ => rfl) (fun _ _ => rfl) (fun m v => by kernel_rfl) n v).symm
theorem treeDeep.eq (mtreeDeep : Nat) (n : Nat) (x : (Kd.struct (treeDeep.conM (Nat.succ mtreeDeep)).ps).T) : evFunc (treeDeep.env mtreeDeep) Try.f74 treeDeep.body (treeDeep.conM (Nat.succ mtreeDeep)).ps (treeDeep.conM (Nat.succ mtreeDeep)).rs (treeDeep.lp mtreeDeep n) n x = (treeDeep.conM (Nat.succ mtreeDeep)).f n x := by kernel_rfl
theorem treeDeep.step (mtreeDeep : Nat) (ihtreeDeep : Sound Try.prog globs 74 (treeDeep.conM mtreeDeep)) : Sound Try.prog globs 74 (treeDeep.conM (Nat.succ mtreeDeep)) :=
  sound_by (E := (treeDeep.env mtreeDeep)) (c := treeDeep.body) (envOk (G := globs) (lc := [(84, treeParts.con), (74, (treeDeep.conM mtreeDeep))]) (lo := []) (envB_spec (by kernel_rfl)) rfl rfl ⟨.inl ⟨treeParts.sound, by kernel_rfl⟩, ⟨.inl ⟨ihtreeDeep, by kernel_rfl⟩, trivial⟩⟩ rfl trivial (by kernel_rfl) (by kernel_rfl)) Try.func74 (by kernel_rfl) (treeDeep.lp mtreeDeep) (l := [(true, sub [1, 1, 0, 1, 0, 0] treeDeep.body, treeDeep.nml3)]) (by kernel_rfl) (fun n => ⟨treeDeep.atl3 mtreeDeep n, trivial⟩) (treeDeep.eq mtreeDeep)
theorem treeDeep.soundM (m : Nat) : Sound Try.prog globs 74 (treeDeep.conM m) := by
  induction m with
  | zero => intro n x r h; cases (show none = some r from h)
  | succ m ih => exact treeDeep.step m ih
theorem treeDeep.sound : Sound Try.prog globs 74 treeDeep.con :=
  sound_fuel (ps := [(.slice kS6)]) (rs := [(.int .i64)]) (F := fun n m x => treeDeep n m x.1) (treeDeep.soundM)
noncomputable def treePlaces.b5 (fu : Nat) (StreePlaces : (List S6) → Option (Int × Unit)) (next : (List S6) → Int → (List (List S6)) → Int → Int → Option (Int × Unit)) (k2 : (List S6) → Int → Option (Int × Unit)) (l : List S6) (n : Int) (v : List (List S6)) (vx2 : Int) (vx3 : Int) : Option (Int × Unit) :=
  cond (decide (vx3 < vx2)) (
    chk (ixOk v vx3) <|
    let e1 := ixL [] v vx3
    (StreePlaces e1).bind fun r2 =>
    let t3 := IntKind.i64.wrap (n + r2.1)
    let t4 := IntKind.i64.wrap (vx3 + (1 : Int))
    next l t3 v vx2 t4) (
    k2 l n)
noncomputable def treePlaces.l5 (fu : Nat) (StreePlaces : (List S6) → Option (Int × Unit)) (k2 : (List S6) → Int → Option (Int × Unit)) : Nat → (List S6) → Int → (List (List S6)) → Int → Int → Option (Int × Unit)
  | 0, _, _, _, _, _ => none
  | m + 1, l, n, v, vx2, vx3 => treePlaces.b5 fu StreePlaces (treePlaces.l5 fu StreePlaces k2 m) k2 l n v vx2 vx3
noncomputable def treePlaces.bd (fu : Nat) (StreePlaces : (List S6) → Option (Int × Unit)) (l : List S6) : Option (Int × Unit) :=
  chk (ixOk l (0 : Int)) <|
  let e1 := ixL ((0 : Int), (false, (0 : Int), [], ()), false, (false, (0 : Int), [], ()), (0 : Int), (0 : Int), (0 : Int), ()) l (0 : Int)
  cond (e1.1 == (1 : Int)) (
    some ((1 : Int), ())) (
    (treeParts fu l).bind fun r2 =>
    treePlaces.l5 fu StreePlaces (fun lq2 nq2 => 
        chk (ixOk lq2 (0 : Int)) <|
        let e3 := ixL ((0 : Int), (false, (0 : Int), [], ()), false, (false, (0 : Int), [], ()), (0 : Int), (0 : Int), (0 : Int), ()) lq2 (0 : Int)
        cond (e3.1 == (4 : Int)) (
          chk (ixOk lq2 (0 : Int)) <|
          let e4 := ixL ((0 : Int), (false, (0 : Int), [], ()), false, (false, (0 : Int), [], ()), (0 : Int), (0 : Int), (0 : Int), ()) lq2 (0 : Int)
          let t5 := IntKind.i64.wrap e4.2.2.2.2.2.1
          let t6 := IntKind.i64.wrap (nq2 * t5)
          some (t6, ())) (
          some (nq2, ()))) fu l (0 : Int) r2.1 (r2.1.length : Int) (0 : Int))
noncomputable def treePlaces (fu : Nat) (m : Nat) : (List S6) → Option (Int × Unit) :=
  Nat.rec (fun _ => none) (fun _ StreePlaces => treePlaces.bd fu StreePlaces) m

noncomputable def treePlaces.conM (m : Nat) : Con := { ps := [(.slice kS6)], rs := [(.int .i64)], f := fun n x => treePlaces n m x.1 }
noncomputable def treePlaces.con : Con := { ps := [(.slice kS6)], rs := [(.int .i64)], f := fun n x => treePlaces n n x.1 }
noncomputable def treePlaces.body : Code := Try.f75.body.getD .skip
abbrev treePlaces.shl5 : Shp := ⟨[.d (.slice kS6), .u, .u, .d (.int .i64), .u, .u, .u, .u, .u, .u, .u, .u, .d (.slice (.slice kS6)), .d (.int .i64), .d (.int .i64), .u, .u, .u, .u, .u, .u, .u, .u, .u, .u, .u, .u, .u, .u, .u, .u, .u, .u, .u, .u, .u], []⟩
abbrev treePlaces.outl5e2 : Shp := ⟨[.d (.slice kS6), .u, .u, .d (.int .i64), .u, .u, .u, .u, .u, .u, .u, .u, .u, .u, .u, .u, .u, .u, .u, .u, .u, .u, .u, .u, .u, .u, .u, .u, .u, .u, .u, .u, .u, .u, .u, .u], []⟩
noncomputable def treePlaces.nml5 : Norm := ⟨{ keep := [0, 3, 12, 13, 14], shut := [(0, (.slice kS6)), (3, (.int .i64)), (12, (.slice (.slice kS6))), (13, (.int .i64)), (14, (.int .i64))], retag := [], heap := 0, dead := [], cshut := [], cretag := [] }, [(2, { keep := [0, 3], shut := [(0, (.slice kS6)), (3, (.int .i64))], retag := [], heap := 0, dead := [], cshut := [], cretag := [] })]⟩
noncomputable def treePlaces.env (mtreePlaces : Nat) : Env := { tys := [(3, ⟨(.int .i64), 8⟩), (77, ⟨kS6, 96⟩), (5, ⟨(.int .u8), 1⟩), (66, ⟨(.slice kS6), 24⟩)], elems := [(66, 77), (140, 66)], ptrs := [], cons := [(84, treeParts.con), (75, (treePlaces.conM mtreePlaces))], objs := [], loops := [(5, treePlaces.nml5)], cuts := [], globs := globs, base := 0 }
noncomputable def treePlaces.lp (mtreePlaces : Nat) (n : Nat) : LP (Kd.struct (treePlaces.conM (Nat.succ mtreePlaces)).rs).T := fun lo κ body nm K s =>
  cond (lo && Nat.beq κ 5)
    (match treePlaces.shl5.dec s with
    | some v => treePlaces.l5 n (treePlaces n mtreePlaces) (fun w0 w1 => K (.exit 0) (treePlaces.outl5e2.enc (w0, w1, ()))) n v.1 v.2.1 v.2.2.1 v.2.2.2.1 v.2.2.2.2.1
    | none => loops n (Kd.struct (treePlaces.conM (Nat.succ mtreePlaces)).rs).T lo κ body nm K s)
    (loops n (Kd.struct (treePlaces.conM (Nat.succ mtreePlaces)).rs).T lo κ body nm K s)
theorem treePlaces.atl5 (mtreePlaces : Nat) (n : Nat) (s : St) (K : Ex → St → Option (Kd.struct (treePlaces.conM (Nat.succ mtreePlaces)).rs).T) : (treePlaces.lp mtreePlaces n) true 5 (evK (treePlaces.env mtreePlaces) (treePlaces.lp mtreePlaces n) n (sub [1, 1, 1, 0, 1, 0, 0] treePlaces.body)) treePlaces.nml5 K s = loops n (Kd.struct (treePlaces.conM (Nat.succ mtreePlaces)).rs).T true 5 (evK (treePlaces.env mtreePlaces) (treePlaces.lp mtreePlaces n) n (sub [1, 1, 1, 0, 1, 0, 0] treePlaces.body)) treePlaces.nml5 K s := by
  show (match treePlaces.shl5.dec s with | some v => treePlaces.l5 n (treePlaces n mtreePlaces) (fun w0 w1 => K (.exit 0) (treePlaces.outl5e2.enc (w0, w1, ()))) n v.1 v.2.1 v.2.2.1 v.2.2.2.1 v.2.2.2.2.1 | none => loops n (Kd.struct (treePlaces.conM (Nat.succ mtreePlaces)).rs).T true 5 (evK (treePlaces.env mtreePlaces) (treePlaces.lp mtreePlaces n) n (sub [1, 1, 1, 0, 1, 0, 0] treePlaces.body)) treePlaces.nml5 K s) = _
  cases h : treePlaces.shl5.dec s with
  | none => rfl
  | some v =>
    rw [Shp.dec_enc h]
    exact (evLoop_eq (sh := treePlaces.shl5) (body := evK (treePlaces.env mtreePlaces) (treePlaces.lp mtreePlaces n) n (sub [1, 1, 1, 0, 1, 0, 0] treePlaces.body)) (nm := treePlaces.nml5) (K := K) (b := fun nx v => treePlaces.b5 n (treePlaces n mtreePlaces) (fun x0 x1 x2 x3 x4 => nx (x0, x1, x2, x3, x4, ())) (fun w0 w1 => K (.exit 0) (treePlaces.outl5e2.enc (w0, w1, ()))) v.1 v.2.1 v.2.2.1 v.2.2.2.1 v.2.2.2.2.1) (l := fun m v => treePlaces.l5 n (treePlaces n mtreePlaces) (fun w0 w1 => K (.exit 0) (treePlaces.outl5e2.enc (w0, w1, ()))) m v.1 v.2.1 v.2.2.1 v.2.2.2.1 v.2.2.2.2.1) (fun _ => rfl) (fun _ _ => rfl) (fun m v => by kernel_rfl) n v).symm
theorem treePlaces.eq (mtreePlaces : Nat) (n : Nat) (x : (Kd.struct (treePlaces.conM (Nat.succ mtreePlaces)).ps).T) : evFunc (treePlaces.env mtreePlaces) Try.f75 treePlaces.body (treePlaces.conM (Nat.succ mtreePlaces)).ps (treePlaces.conM (Nat.succ mtreePlaces)).rs (treePlaces.lp mtreePlaces n) n x = (treePlaces.conM (Nat.succ mtreePlaces)).f n x := by kernel_rfl
theorem treePlaces.step (mtreePlaces : Nat) (ihtreePlaces : Sound Try.prog globs 75 (treePlaces.conM mtreePlaces)) : Sound Try.prog globs 75 (treePlaces.conM (Nat.succ mtreePlaces)) :=
  sound_by (E := (treePlaces.env mtreePlaces)) (c := treePlaces.body) (envOk (G := globs) (lc := [(84, treeParts.con), (75, (treePlaces.conM mtreePlaces))]) (lo := []) (envB_spec (by kernel_rfl)) rfl rfl ⟨.inl ⟨treeParts.sound, by kernel_rfl⟩, ⟨.inl ⟨ihtreePlaces, by kernel_rfl⟩, trivial⟩⟩ rfl trivial (by kernel_rfl) (by kernel_rfl)) Try.func75 (by kernel_rfl) (treePlaces.lp mtreePlaces) (l := [(true, sub [1, 1, 1, 0, 1, 0, 0] treePlaces.body, treePlaces.nml5)]) (by kernel_rfl) (fun n => ⟨treePlaces.atl5 mtreePlaces n, trivial⟩) (treePlaces.eq mtreePlaces)
theorem treePlaces.soundM (m : Nat) : Sound Try.prog globs 75 (treePlaces.conM m) := by
  induction m with
  | zero => intro n x r h; cases (show none = some r from h)
  | succ m ih => exact treePlaces.step m ih
theorem treePlaces.sound : Sound Try.prog globs 75 treePlaces.con :=
  sound_fuel (ps := [(.slice kS6)]) (rs := [(.int .i64)]) (F := fun n m x => treePlaces n m x.1) (treePlaces.soundM)
noncomputable def treeMay.j25011 (fu : Nat) (k0 : Unit → Option (Int × Unit)) (k1 : Int → Option (Int × Unit)) (v : Bool) (b0 : S7) : Option (Int × Unit) :=
  cond v (
    k1 (5 : Int)) (
    (treePlaces fu fu b0.1).bind fun r1 =>
    let t2 := decide (r1.1 > (32 : Int))
    cond t2 (
      k1 (4 : Int)) (
      k0 ()))
noncomputable def treeMay (fu : Nat) (p : S7) : Option (Int × Unit) :=
  let t1 := decide ((p.1.length : Int) > (32 : Int))
  cond t1 (
    some ((12 : Int), ())) (
    (treeFormed fu fu p.1).bind fun r2 =>
    cond (!r2.1) (
      some ((2 : Int), ())) (
      (slicesContainsFuncF73 fu p.1).bind fun r3 =>
      cond r3.1.1 (
        some ((1 : Int), ())) (
        (treeDeep fu fu p.1).bind fun r4 =>
        let t5 := decide (r4.1 > (8 : Int))
        cond t5 (
          some ((16 : Int), ())) (
          let t6 := decide (p.2.1 < (1 : Int))
          cond t6 (
            treeMay.j25011 fu (fun (_ : Unit) => 
                some ((0 : Int), ())) (fun vq6 => 
                some (vq6, ())) true p) (
            let t7 := decide (p.2.1 > (1048576 : Int))
            treeMay.j25011 fu (fun (_ : Unit) => 
                some ((0 : Int), ())) (fun vq8 => 
                some (vq8, ())) t7 p)))))

noncomputable def treeMay.body : Code := Try.f33.body.getD .skip
abbrev treeMay.shj25011 : Shp := ⟨[.u, .p 0 0, .u, .u, .u, .u, .u, .u, .u, .u, .u, .u, .u, .u, .u, .u, .u, .u, .u, .u, .u, .u, .u, .u, .d .bool, .u, .u, .u, .u, .u, .u, .u, .u, .u, .u, .u, .u, .u], [.c [.g kS7]]⟩
abbrev treeMay.outj25011e0 : Shp := ⟨[.u, .u, .u, .u, .u, .u, .u, .u, .u, .u, .u, .u, .u, .u, .u, .u, .u, .u, .u, .u, .u, .u, .u, .u, .u, .u, .u, .u, .u, .u, .u, .u, .u, .u, .u, .u, .u, .u], []⟩
abbrev treeMay.outj25011e1 : Shp := ⟨[.u, .u, .d (.int .i64), .u, .u, .u, .u, .u, .u, .u, .u, .u, .u, .u, .u, .u, .u, .u, .u, .u, .u, .u, .u, .u, .u, .u, .u, .u, .u, .u, .u, .u, .u, .u, .u, .u, .u, .u], []⟩
noncomputable def treeMay.nmj25011 : Norm := ⟨{ keep := [1, 24], shut := [(24, .bool)], retag := [], heap := 1, dead := [], cshut := [(0, 0, (.slice kS6)), (0, 1, (.int .u64))], cretag := [] }, [(0, { keep := [], shut := [], retag := [], heap := 0, dead := [], cshut := [], cretag := [] }), (1, { keep := [2], shut := [(2, (.int .i64))], retag := [], heap := 0, dead := [], cshut := [], cretag := [] })]⟩
noncomputable def treeMay.con : Con := { ps := [kS7], rs := [(.int .i64)], f := fun n x => treeMay n x.1 }
noncomputable def treeMay.env : Env := { tys := [(68, ⟨kS7, 32⟩), (39, ⟨(.int .i64), 8⟩), (66, ⟨(.slice kS6), 24⟩), (77, ⟨kS6, 96⟩), (51, ⟨(.int .u64), 8⟩), (4, ⟨.bool, 1⟩)], elems := [(66, 77)], ptrs := [], cons := [(72, treeFormed.con), (74, treeDeep.con), (75, treePlaces.con)], objs := [(73, [slicesContainsFuncF73.con])], loops := [], cuts := [(25011, treeMay.nmj25011)], globs := globs, base := 0 }
noncomputable def treeMay.lp (n : Nat) : LP (Kd.struct treeMay.con.rs).T := fun lo κ body nm K s =>
  cond (!lo && Nat.beq κ 25011)
    (match treeMay.shj25011.dec s with
    | some v => treeMay.j25011 n (fun _ => K .normal (treeMay.outj25011e0.enc (()))) (fun w0 => K .ret (treeMay.outj25011e1.enc (w0, ()))) v.1 v.2.1
    | none => loops n (Kd.struct treeMay.con.rs).T lo κ body nm K s)
    (loops n (Kd.struct treeMay.con.rs).T lo κ body nm K s)
theorem treeMay.atj25011 (n : Nat) (s : St) (K : Ex → St → Option (Kd.struct treeMay.con.rs).T) : (treeMay.lp n) false 25011 (evK treeMay.env (treeMay.lp n) n (sub [1, 1, 0, 0, 1, 1, 1, 1, 1, 1, 1, 1, 1] treeMay.body)) treeMay.nmj25011 K s = loops n (Kd.struct treeMay.con.rs).T false 25011 (evK treeMay.env (treeMay.lp n) n (sub [1, 1, 0, 0, 1, 1, 1, 1, 1, 1, 1, 1, 1] treeMay.body)) treeMay.nmj25011 K s := by
  show (match treeMay.shj25011.dec s with | some v => treeMay.j25011 n (fun _ => K .normal (treeMay.outj25011e0.enc (()))) (fun w0 => K .ret (treeMay.outj25011e1.enc (w0, ()))) v.1 v.2.1 | none => loops n (Kd.struct treeMay.con.rs).T false 25011 (evK treeMay.env (treeMay.lp n) n (sub [1, 1, 0, 0, 1, 1, 1, 1, 1, 1, 1, 1, 1] treeMay.body)) treeMay.nmj25011 K s) = _
  cases h : treeMay.shj25011.dec s with
  | none => rfl
  | some v =>
    rw [Shp.dec_enc h]
    kernel_rfl
theorem treeMay.eq (n : Nat) (x : (Kd.struct treeMay.con.ps).T) : evFunc treeMay.env Try.f33 treeMay.body treeMay.con.ps treeMay.con.rs (treeMay.lp n) n x = treeMay.con.f n x := by kernel_rfl
theorem treeMay.sound : Sound Try.prog globs 33 treeMay.con :=
  sound_by (E := treeMay.env) (c := treeMay.body) (envOk (G := globs) (lc := [(72, treeFormed.con), (74, treeDeep.con), (75, treePlaces.con)]) (lo := [(73, [slicesContainsFuncF73.con])]) (envB_spec (by kernel_rfl)) rfl rfl ⟨.inl ⟨treeFormed.sound, by kernel_rfl⟩, ⟨.inl ⟨treeDeep.sound, by kernel_rfl⟩, ⟨.inl ⟨treePlaces.sound, by kernel_rfl⟩, trivial⟩⟩⟩ rfl ⟨⟨⟨slicesContainsFuncF73.sound, trivial⟩, by kernel_rfl⟩, trivial⟩ (by kernel_rfl) (by kernel_rfl)) Try.func33 (by kernel_rfl) treeMay.lp (l := [(false, sub [1, 1, 0, 0, 1, 1, 1, 1, 1, 1, 1, 1, 1] treeMay.body, treeMay.nmj25011)]) (by kernel_rfl) (fun n => ⟨treeMay.atj25011 n, trivial⟩) treeMay.eq
noncomputable def treePlacesF34 (fu : Nat) (p : S7) : Option (Int × Unit) :=
  (treeMay fu p).bind fun r1 =>
  cond (r1.1 != (0 : Int)) (
    some ((0 : Int), ())) (
    (treePlaces fu fu p.1).bind fun r2 =>
    some (r2.1, ()))

noncomputable def treePlacesF34.body : Code := Try.f34.body.getD .skip
noncomputable def treePlacesF34.con : Con := { ps := [kS7], rs := [(.int .i64)], f := fun n x => treePlacesF34 n x.1 }
noncomputable def treePlacesF34.env : Env := { tys := [(68, ⟨kS7, 32⟩), (3, ⟨(.int .i64), 8⟩), (66, ⟨(.slice kS6), 24⟩)], elems := [], ptrs := [], cons := [(33, treeMay.con), (75, treePlaces.con)], objs := [], loops := [], cuts := [], globs := globs, base := 0 }
noncomputable def treePlacesF34.lp (n : Nat) : LP (Kd.struct treePlacesF34.con.rs).T := fun lo κ body nm K s =>
  loops n (Kd.struct treePlacesF34.con.rs).T lo κ body nm K s
theorem treePlacesF34.eq (n : Nat) (x : (Kd.struct treePlacesF34.con.ps).T) : evFunc treePlacesF34.env Try.f34 treePlacesF34.body treePlacesF34.con.ps treePlacesF34.con.rs (treePlacesF34.lp n) n x = treePlacesF34.con.f n x := by kernel_rfl
theorem treePlacesF34.sound : Sound Try.prog globs 34 treePlacesF34.con :=
  sound_by (E := treePlacesF34.env) (c := treePlacesF34.body) (envOk (G := globs) (lc := [(33, treeMay.con), (75, treePlaces.con)]) (lo := []) (envB_spec (by kernel_rfl)) rfl rfl ⟨.inl ⟨treeMay.sound, by kernel_rfl⟩, ⟨.inl ⟨treePlaces.sound, by kernel_rfl⟩, trivial⟩⟩ rfl trivial (by kernel_rfl) (by kernel_rfl)) Try.func34 (by kernel_rfl) treePlacesF34.lp (l := []) (by kernel_rfl) (fun n => trivial) treePlacesF34.eq
noncomputable def treeDepth (fu : Nat) (p : S7) : Option (Int × Unit) :=
  (treeMay fu p).bind fun r1 =>
  cond (r1.1 != (0 : Int)) (
    some ((0 : Int), ())) (
    (treeDeep fu fu p.1).bind fun r2 =>
    some (r2.1, ()))

noncomputable def treeDepth.body : Code := Try.f35.body.getD .skip
noncomputable def treeDepth.con : Con := { ps := [kS7], rs := [(.int .i64)], f := fun n x => treeDepth n x.1 }
noncomputable def treeDepth.env : Env := { tys := [(68, ⟨kS7, 32⟩), (3, ⟨(.int .i64), 8⟩), (66, ⟨(.slice kS6), 24⟩)], elems := [], ptrs := [], cons := [(33, treeMay.con), (74, treeDeep.con)], objs := [], loops := [], cuts := [], globs := globs, base := 0 }
noncomputable def treeDepth.lp (n : Nat) : LP (Kd.struct treeDepth.con.rs).T := fun lo κ body nm K s =>
  loops n (Kd.struct treeDepth.con.rs).T lo κ body nm K s
theorem treeDepth.eq (n : Nat) (x : (Kd.struct treeDepth.con.ps).T) : evFunc treeDepth.env Try.f35 treeDepth.body treeDepth.con.ps treeDepth.con.rs (treeDepth.lp n) n x = treeDepth.con.f n x := by kernel_rfl
theorem treeDepth.sound : Sound Try.prog globs 35 treeDepth.con :=
  sound_by (E := treeDepth.env) (c := treeDepth.body) (envOk (G := globs) (lc := [(33, treeMay.con), (74, treeDeep.con)]) (lo := []) (envB_spec (by kernel_rfl)) rfl rfl ⟨.inl ⟨treeMay.sound, by kernel_rfl⟩, ⟨.inl ⟨treeDeep.sound, by kernel_rfl⟩, trivial⟩⟩ rfl trivial (by kernel_rfl) (by kernel_rfl)) Try.func35 (by kernel_rfl) treeDepth.lp (l := []) (by kernel_rfl) (fun n => trivial) treeDepth.eq
noncomputable def law11Fixed (fu : Nat) : Option (Bool × Unit) :=
  (law11Two fu (1 : Int) (2 : Int)).bind fun r1 =>
  let t2 := [((4 : Int), (false, (0 : Int), [], ()), false, (false, (0 : Int), [], ()), (2 : Int), (3 : Int), (3 : Int), ())]
  chk (apOk t2 r1.1.1 96) <|
  (treeMay fu r1.1).bind fun r3 =>
  cond (r3.1 == (0 : Int)) (
    (treePlacesF34 fu r1.1).bind fun r4 =>
    cond (r4.1 == (2 : Int)) (
      (treePlacesF34 fu (t2 ++ r1.1.1, (1 : Int), ())).bind fun r5 =>
      cond (r5.1 == (6 : Int)) (
        (treeDepth fu (t2 ++ r1.1.1, (1 : Int), ())).bind fun r6 =>
        some (r6.1 == (2 : Int), ())) (
        some (false, ()))) (
      some (false, ()))) (
    some (false, ()))

noncomputable def law11Fixed.body : Code := Try.f31.body.getD .skip
noncomputable def law11Fixed.con : Con := { ps := [], rs := [.bool], f := fun n x => law11Fixed n }
noncomputable def law11Fixed.env : Env := { tys := [(4, ⟨.bool, 1⟩), (68, ⟨kS7, 32⟩), (77, ⟨kS6, 96⟩), (66, ⟨(.slice kS6), 24⟩)], elems := [(66, 77)], ptrs := [], cons := [(67, law11Two.con), (33, treeMay.con), (34, treePlacesF34.con), (35, treeDepth.con)], objs := [], loops := [], cuts := [], globs := globs, base := 0 }
noncomputable def law11Fixed.lp (n : Nat) : LP (Kd.struct law11Fixed.con.rs).T := fun lo κ body nm K s =>
  loops n (Kd.struct law11Fixed.con.rs).T lo κ body nm K s
theorem law11Fixed.eq (n : Nat) (x : (Kd.struct law11Fixed.con.ps).T) : evFunc law11Fixed.env Try.f31 law11Fixed.body law11Fixed.con.ps law11Fixed.con.rs (law11Fixed.lp n) n x = law11Fixed.con.f n x := by kernel_rfl
theorem law11Fixed.sound : Sound Try.prog globs 31 law11Fixed.con :=
  sound_by (E := law11Fixed.env) (c := law11Fixed.body) (envOk (G := globs) (lc := [(67, law11Two.con), (33, treeMay.con), (34, treePlacesF34.con), (35, treeDepth.con)]) (lo := []) (envB_spec (by kernel_rfl)) rfl rfl ⟨.inl ⟨law11Two.sound, by kernel_rfl⟩, ⟨.inl ⟨treeMay.sound, by kernel_rfl⟩, ⟨.inl ⟨treePlacesF34.sound, by kernel_rfl⟩, ⟨.inl ⟨treeDepth.sound, by kernel_rfl⟩, trivial⟩⟩⟩⟩ rfl trivial (by kernel_rfl) (by kernel_rfl)) Try.func31 (by kernel_rfl) law11Fixed.lp (l := []) (by kernel_rfl) (fun n => trivial) law11Fixed.eq
noncomputable def ref11Build.b8 (fu : Nat) (Sref11Build : (List S6) → Int → Int → Option ((Tr S6) × Int × Bool × Unit)) (next : (List S6) → Int → Int → Int → Int → Bool → Int → (List S2) → Bool → Bool → Int → (List S2) → Int → Int → Int → (List (Tr S6)) → Int → Bool → Int → (List S2) → Bool → Bool → Int → (List S2) → Int → Int → Int → (List (Tr S6)) → Option ((Tr S6) × Int × Bool × Unit)) (k1 : Int → Bool → Int → Bool → Int → (List S2) → Bool → Bool → Int → (List S2) → Int → Int → Int → (List (Tr S6)) → Option ((Tr S6) × Int × Bool × Unit)) (k2 : Int → Int → Bool → Int → (List S2) → Bool → Bool → Int → (List S2) → Int → Int → Int → (List (Tr S6)) → Int → Bool → Int → (List S2) → Bool → Bool → Int → (List S2) → Int → Int → Int → (List (Tr S6)) → Option ((Tr S6) × Int × Bool × Unit)) (l : List S6) (atv : Int) (n : Int) (kv : Int) (c0 : Int) (c0x2 : Bool) (c0x3 : Int) (c0x4 : List S2) (c0x5 : Bool) (c0x6 : Bool) (c0x7 : Int) (c0x8 : List S2) (c0x9 : Int) (c0x10 : Int) (c0x11 : Int) (c0x12 : List (Tr S6)) (c1 : Int) (c1x2 : Bool) (c1x3 : Int) (c1x4 : List S2) (c1x5 : Bool) (c1x6 : Bool) (c1x7 : Int) (c1x8 : List S2) (c1x9 : Int) (c1x10 : Int) (c1x11 : Int) (c1x12 : List (Tr S6)) : Option ((Tr S6) × Int × Bool × Unit) :=
  let t1 := IntKind.i64.wrap (atv + (1 : Int))
  let t2 := IntKind.i64.wrap (t1 + n)
  cond (decide (kv < t2)) (
    let t3 := IntKind.i64.wrap (atv + (1 : Int))
    let t4 := IntKind.i64.wrap (t3 + n)
    (Sref11Build l kv t4).bind fun r5 =>
    cond (!r5.2.2.1) (
      k1 (0 : Int) false (0 : Int) false (0 : Int) [] false false (0 : Int) [] (0 : Int) (0 : Int) (0 : Int) []) (
      let t6 := [Tr.mk r5.1.val r5.1.sub]
      chk (apOk c1x12 t6 120) <|
      next l atv n r5.2.1 c0 c0x2 c0x3 c0x4 c0x5 c0x6 c0x7 c0x8 c0x9 c0x10 c0x11 c0x12 c1 c1x2 c1x3 c1x4 c1x5 c1x6 c1x7 c1x8 c1x9 c1x10 c1x11 (c1x12 ++ t6))) (
    k2 kv c0 c0x2 c0x3 c0x4 c0x5 c0x6 c0x7 c0x8 c0x9 c0x10 c0x11 c0x12 c1 c1x2 c1x3 c1x4 c1x5 c1x6 c1x7 c1x8 c1x9 c1x10 c1x11 c1x12)
noncomputable def ref11Build.l8 (fu : Nat) (Sref11Build : (List S6) → Int → Int → Option ((Tr S6) × Int × Bool × Unit)) (k1 : Int → Bool → Int → Bool → Int → (List S2) → Bool → Bool → Int → (List S2) → Int → Int → Int → (List (Tr S6)) → Option ((Tr S6) × Int × Bool × Unit)) (k2 : Int → Int → Bool → Int → (List S2) → Bool → Bool → Int → (List S2) → Int → Int → Int → (List (Tr S6)) → Int → Bool → Int → (List S2) → Bool → Bool → Int → (List S2) → Int → Int → Int → (List (Tr S6)) → Option ((Tr S6) × Int × Bool × Unit)) : Nat → (List S6) → Int → Int → Int → Int → Bool → Int → (List S2) → Bool → Bool → Int → (List S2) → Int → Int → Int → (List (Tr S6)) → Int → Bool → Int → (List S2) → Bool → Bool → Int → (List S2) → Int → Int → Int → (List (Tr S6)) → Option ((Tr S6) × Int × Bool × Unit)
  | 0, _, _, _, _, _, _, _, _, _, _, _, _, _, _, _, _, _, _, _, _, _, _, _, _, _, _, _, _ => none
  | m + 1, l, atv, n, kv, c0, c0x2, c0x3, c0x4, c0x5, c0x6, c0x7, c0x8, c0x9, c0x10, c0x11, c0x12, c1, c1x2, c1x3, c1x4, c1x5, c1x6, c1x7, c1x8, c1x9, c1x10, c1x11, c1x12 => ref11Build.b8 fu Sref11Build (ref11Build.l8 fu Sref11Build k1 k2 m) k1 k2 l atv n kv c0 c0x2 c0x3 c0x4 c0x5 c0x6 c0x7 c0x8 c0x9 c0x10 c0x11 c0x12 c1 c1x2 c1x3 c1x4 c1x5 c1x6 c1x7 c1x8 c1x9 c1x10 c1x11 c1x12
noncomputable def ref11Build.bd (fu : Nat) (Sref11Build : (List S6) → Int → Int → Option ((Tr S6) × Int × Bool × Unit)) (l : List S6) (atv : Int) (endv : Int) : Option ((Tr S6) × Int × Bool × Unit) :=
  cond (decide (atv ≥ endv)) (
    some (Tr.mk ((0 : Int), (false, (0 : Int), [], ()), false, (false, (0 : Int), [], ()), (0 : Int), (0 : Int), (0 : Int), ()) [], (0 : Int), false, ())) (
    chk (ixOk l atv) <|
    let e1 := ixL ((0 : Int), (false, (0 : Int), [], ()), false, (false, (0 : Int), [], ()), (0 : Int), (0 : Int), (0 : Int), ()) l atv
    chk (ixOk l atv) <|
    let e2 := ixL ((0 : Int), (false, (0 : Int), [], ()), false, (false, (0 : Int), [], ()), (0 : Int), (0 : Int), (0 : Int), ()) l atv
    let t3 := decide (e2.2.2.2.2.2.2.1 < (0 : Int))
    cond t3 (
      some (Tr.mk ((0 : Int), (false, (0 : Int), [], ()), false, (false, (0 : Int), [], ()), (0 : Int), (0 : Int), (0 : Int), ()) [], (0 : Int), false, ())) (
      let t4 := IntKind.i64.wrap (endv - atv)
      let t5 := IntKind.i64.wrap (t4 - (1 : Int))
      let t6 := decide (e2.2.2.2.2.2.2.1 > t5)
      cond t6 (
        some (Tr.mk ((0 : Int), (false, (0 : Int), [], ()), false, (false, (0 : Int), [], ()), (0 : Int), (0 : Int), (0 : Int), ()) [], (0 : Int), false, ())) (
        let t7 := IntKind.i64.wrap (atv + (1 : Int))
        ref11Build.l8 fu Sref11Build (fun vq3 vq3x2 c0q3 c0q3x2 c0q3x3 c0q3x4 c0q3x5 c0q3x6 c0q3x7 c0q3x8 c0q3x9 c0q3x10 c0q3x11 c0q3x12 => 
            some (Tr.mk (c0q3, (c0q3x2, c0q3x3, c0q3x4, ()), c0q3x5, (c0q3x6, c0q3x7, c0q3x8, ()), c0q3x9, c0q3x10, c0q3x11, ()) c0q3x12, vq3, vq3x2, ())) (fun kvq4 c0q4 c0q4x2 c0q4x3 c0q4x4 c0q4x5 c0q4x6 c0q4x7 c0q4x8 c0q4x9 c0q4x10 c0q4x11 c0q4x12 c1q4 c1q4x2 c1q4x3 c1q4x4 c1q4x5 c1q4x6 c1q4x7 c1q4x8 c1q4x9 c1q4x10 c1q4x11 c1q4x12 => 
            some (Tr.mk (c1q4, (c1q4x2, c1q4x3, c1q4x4, ()), c1q4x5, (c1q4x6, c1q4x7, c1q4x8, ()), c1q4x9, c1q4x10, c1q4x11, ()) c1q4x12, kvq4, true, ())) fu l atv e2.2.2.2.2.2.2.1 t7 (0 : Int) false (0 : Int) [] false false (0 : Int) [] (0 : Int) (0 : Int) (0 : Int) [] e1.1 e1.2.1.1 e1.2.1.2.1 e1.2.1.2.2.1 e1.2.2.1 e1.2.2.2.1.1 e1.2.2.2.1.2.1 e1.2.2.2.1.2.2.1 e1.2.2.2.2.1 e1.2.2.2.2.2.1 e1.2.2.2.2.2.2.1 [])))
noncomputable def ref11Build (fu : Nat) (m : Nat) : (List S6) → Int → Int → Option ((Tr S6) × Int × Bool × Unit) :=
  Nat.rec (fun _ _ _ => none) (fun _ Sref11Build => ref11Build.bd fu Sref11Build) m

noncomputable def ref11Build.conM (m : Nat) : Con := { ps := [(.slice kS6), (.int .i64), (.int .i64)], rs := [(.tre kS6), (.int .i64), .bool], f := fun n x => ref11Build n m x.1 x.2.1 x.2.2.1 }
noncomputable def ref11Build.con : Con := { ps := [(.slice kS6), (.int .i64), (.int .i64)], rs := [(.tre kS6), (.int .i64), .bool], f := fun n x => ref11Build n n x.1 x.2.1 x.2.2.1 }
noncomputable def ref11Build.body : Code := Try.f76.body.getD .skip
abbrev ref11Build.shl8 : Shp := ⟨[.d (.slice kS6), .d (.int .i64), .u, .u, .u, .u, .p 0 0, .u, .u, .p 1 0, .d (.int .i64), .d (.int .i64), .u, .u, .u, .u, .u, .u, .u, .u, .u, .u, .u, .u, .u, .u, .u, .u, .u, .u, .u, .u, .u, .u, .u, .u, .u, .u, .u, .u, .u, .u, .u, .u, .u, .u, .u, .u, .u, .u, .u, .u, .u, .u, .u, .u, .u, .u, .u, .u, .u, .u, .u, .u, .u, .u, .u, .u, .u, .u, .u], [.c [.d (.int .u8), .d .bool, .d (.int .u8), .o 1003 kS2, .d .bool, .d .bool, .d (.int .u8), .o 1007 kS2, .d (.int .u8), .d (.int .u8), .d (.int .i64), .o 1011 (.tre kS6)], .c [.d (.int .u8), .d .bool, .d (.int .u8), .d (.slice kS2), .d .bool, .d .bool, .d (.int .u8), .d (.slice kS2), .d (.int .u8), .d (.int .u8), .d (.int .i64), .o 1061 (.tre kS6)]]⟩
abbrev ref11Build.outl8e1 : Shp := ⟨[.u, .u, .u, .u, .u, .u, .p 0 0, .d (.int .i64), .d .bool, .u, .u, .u, .u, .u, .u, .u, .u, .u, .u, .u, .u, .u, .u, .u, .u, .u, .u, .u, .u, .u, .u, .u, .u, .u, .u, .u, .u, .u, .u, .u, .u, .u, .u, .u, .u, .u, .u, .u, .u, .u, .u, .u, .u, .u, .u, .u, .u, .u, .u, .u, .u, .u, .u, .u, .u, .u, .u, .u, .u, .u, .u], [.c [.d (.int .u8), .d .bool, .d (.int .u8), .o 1003 kS2, .d .bool, .d .bool, .d (.int .u8), .o 1007 kS2, .d (.int .u8), .d (.int .u8), .d (.int .i64), .o 1011 (.tre kS6)]]⟩
abbrev ref11Build.outl8e2 : Shp := ⟨[.u, .u, .u, .u, .u, .u, .p 0 0, .u, .u, .p 1 0, .u, .d (.int .i64), .u, .u, .u, .u, .u, .u, .u, .u, .u, .u, .u, .u, .u, .u, .u, .u, .u, .u, .u, .u, .u, .u, .u, .u, .u, .u, .u, .u, .u, .u, .u, .u, .u, .u, .u, .u, .u, .u, .u, .u, .u, .u, .u, .u, .u, .u, .u, .u, .u, .u, .u, .u, .u, .u, .u, .u, .u, .u, .u], [.c [.d (.int .u8), .d .bool, .d (.int .u8), .o 1003 kS2, .d .bool, .d .bool, .d (.int .u8), .o 1007 kS2, .d (.int .u8), .d (.int .u8), .d (.int .i64), .o 1011 (.tre kS6)], .c [.d (.int .u8), .d .bool, .d (.int .u8), .d (.slice kS2), .d .bool, .d .bool, .d (.int .u8), .d (.slice kS2), .d (.int .u8), .d (.int .u8), .d (.int .i64), .o 1061 (.tre kS6)]]⟩
noncomputable def ref11Build.nml8 : Norm := ⟨{ keep := [0, 1, 6, 9, 10, 11], shut := [(0, (.slice kS6)), (1, (.int .i64)), (10, (.int .i64)), (11, (.int .i64))], retag := [], heap := 2, dead := [], cshut := [(0, 0, (.int .u8)), (0, 1, .bool), (0, 2, (.int .u8)), (0, 4, .bool), (0, 5, .bool), (0, 6, (.int .u8)), (0, 8, (.int .u8)), (0, 9, (.int .u8)), (0, 10, (.int .i64)), (1, 0, (.int .u8)), (1, 1, .bool), (1, 2, (.int .u8)), (1, 3, (.slice kS2)), (1, 4, .bool), (1, 5, .bool), (1, 6, (.int .u8)), (1, 7, (.slice kS2)), (1, 8, (.int .u8)), (1, 9, (.int .u8)), (1, 10, (.int .i64))], cretag := [(0, 3, 1003, kS2), (0, 7, 1007, kS2), (0, 11, 1011, (.tre kS6)), (1, 11, 1061, (.tre kS6))] }, [(1, { keep := [6, 7, 8], shut := [(7, (.int .i64)), (8, .bool)], retag := [], heap := 1, dead := [], cshut := [(0, 0, (.int .u8)), (0, 1, .bool), (0, 2, (.int .u8)), (0, 4, .bool), (0, 5, .bool), (0, 6, (.int .u8)), (0, 8, (.int .u8)), (0, 9, (.int .u8)), (0, 10, (.int .i64))], cretag := [(0, 3, 1003, kS2), (0, 7, 1007, kS2), (0, 11, 1011, (.tre kS6))] }), (2, { keep := [6, 9, 11], shut := [(11, (.int .i64))], retag := [], heap := 2, dead := [], cshut := [(0, 0, (.int .u8)), (0, 1, .bool), (0, 2, (.int .u8)), (0, 4, .bool), (0, 5, .bool), (0, 6, (.int .u8)), (0, 8, (.int .u8)), (0, 9, (.int .u8)), (0, 10, (.int .i64)), (1, 0, (.int .u8)), (1, 1, .bool), (1, 2, (.int .u8)), (1, 3, (.slice kS2)), (1, 4, .bool), (1, 5, .bool), (1, 6, (.int .u8)), (1, 7, (.slice kS2)), (1, 8, (.int .u8)), (1, 9, (.int .u8)), (1, 10, (.int .i64))], cretag := [(0, 3, 1003, kS2), (0, 7, 1007, kS2), (0, 11, 1011, (.tre kS6)), (1, 11, 1061, (.tre kS6))] })]⟩
noncomputable def ref11Build.env (mref11Build : Nat) : Env := { tys := [(80, ⟨(.tre kS6), 120⟩), (3, ⟨(.int .i64), 8⟩), (4, ⟨.bool, 1⟩), (77, ⟨kS6, 96⟩), (78, ⟨(.slice (.tre kS6)), 24⟩)], elems := [(66, 77), (78, 80)], ptrs := [], cons := [(76, (ref11Build.conM mref11Build))], objs := [], loops := [(8, ref11Build.nml8)], cuts := [], globs := globs, base := 0 }
noncomputable def ref11Build.lp (mref11Build : Nat) (n : Nat) : LP (Kd.struct (ref11Build.conM (Nat.succ mref11Build)).rs).T := fun lo κ body nm K s =>
  cond (lo && Nat.beq κ 8)
    (match ref11Build.shl8.dec s with
    | some v => ref11Build.l8 n (ref11Build n mref11Build) (fun w0 w1 w2 w3 w4 w5 w6 w7 w8 w9 w10 w11 w12 w13 => K .ret (ref11Build.outl8e1.enc (w0, w1, w2, w3, w4, w5, w6, w7, w8, w9, w10, w11, w12, w13, ()))) (fun w0 w1 w2 w3 w4 w5 w6 w7 w8 w9 w10 w11 w12 w13 w14 w15 w16 w17 w18 w19 w20 w21 w22 w23 w24 => K (.exit 0) (ref11Build.outl8e2.enc (w0, w1, w2, w3, w4, w5, w6, w7, w8, w9, w10, w11, w12, w13, w14, w15, w16, w17, w18, w19, w20, w21, w22, w23, w24, ()))) n v.1 v.2.1 v.2.2.1 v.2.2.2.1 v.2.2.2.2.1 v.2.2.2.2.2.1 v.2.2.2.2.2.2.1 v.2.2.2.2.2.2.2.1 v.2.2.2.2.2.2.2.2.1 v.2.2.2.2.2.2.2.2.2.1 v.2.2.2.2.2.2.2.2.2.2.1 v.2.2.2.2.2.2.2.2.2.2.2.1 v.2.2.2.2.2.2.2.2.2.2.2.2.1 v.2.2.2.2.2.2.2.2.2.2.2.2.2.1 v.2.2.2.2.2.2.2.2.2.2.2.2.2.2.1 v.2.2.2.2.2.2.2.2.2.2.2.2.2.2.2.1 v.2.2.2.2.2.2.2.2.2.2.2.2.2.2.2.2.1 v.2.2.2.2.2.2.2.2.2.2.2.2.2.2.2.2.2.1 v.2.2.2.2.2.2.2.2.2.2.2.2.2.2.2.2.2.2.1 v.2.2.2.2.2.2.2.2.2.2.2.2.2.2.2.2.2.2.2.1 v.2.2.2.2.2.2.2.2.2.2.2.2.2.2.2.2.2.2.2.2.1 v.2.2.2.2.2.2.2.2.2.2.2.2.2.2.2.2.2.2.2.2.2.1 v.2.2.2.2.2.2.2.2.2.2.2.2.2.2.2.2.2.2.2.2.2.2.1 v.2.2.2.2.2.2.2.2.2.2.2.2.2.2.2.2.2.2.2.2.2.2.2.1 v.2.2.2.2.2.2.2.2.2.2.2.2.2.2.2.2.2.2.2.2.2.2.2.2.1 v.2.2.2.2.2.2.2.2.2.2.2.2.2.2.2.2.2.2.2.2.2.2.2.2.2.1 v.2.2.2.2.2.2.2.2.2.2.2.2.2.2.2.2.2.2.2.2.2.2.2.2.2.2.1 v.2.2.2.2.2.2.2.2.2.2.2.2.2.2.2.2.2.2.2.2.2.2.2.2.2.2.2.1
    | none => loops n (Kd.struct (ref11Build.conM (Nat.succ mref11Build)).rs).T lo κ body nm K s)
    (loops n (Kd.struct (ref11Build.conM (Nat.succ mref11Build)).rs).T lo κ body nm K s)
theorem ref11Build.atl8 (mref11Build : Nat) (n : Nat) (s : St) (K : Ex → St → Option (Kd.struct (ref11Build.conM (Nat.succ mref11Build)).rs).T) : (ref11Build.lp mref11Build n) true 8 (evK (ref11Build.env mref11Build) (ref11Build.lp mref11Build n) n (sub [1, 1, 1, 1, 1, 1, 0, 0, 0] ref11Build.body)) ref11Build.nml8 K s = loops n (Kd.struct (ref11Build.conM (Nat.succ mref11Build)).rs).T true 8 (evK (ref11Build.env mref11Build) (ref11Build.lp mref11Build n) n (sub [1, 1, 1, 1, 1, 1, 0, 0, 0] ref11Build.body)) ref11Build.nml8 K s := by
  show (match ref11Build.shl8.dec s with | some v => ref11Build.l8 n (ref11Build n mref11Build) (fun w0 w1 w2 w3 w4 w5 w6 w7 w8 w9 w10 w11 w12 w13 => K .ret (ref11Build.outl8e1.enc (w0, w1, w2, w3, w4, w5, w6, w7, w8, w9, w10, w11, w12, w13, ()))) (fun w0 w1 w2 w3 w4 w5 w6 w7 w8 w9 w10 w11 w12 w13 w14 w15 w16 w17 w18 w19 w20 w21 w22 w23 w24 => K (.exit 0) (ref11Build.outl8e2.enc (w0, w1, w2, w3, w4, w5, w6, w7, w8, w9, w10, w11, w12, w13, w14, w15, w16, w17, w18, w19, w20, w21, w22, w23, w24, ()))) n v.1 v.2.1 v.2.2.1 v.2.2.2.1 v.2.2.2.2.1 v.2.2.2.2.2.1 v.2.2.2.2.2.2.1 v.2.2.2.2.2.2.2.1 v.2.2.2.2.2.2.2.2.1 v.2.2.2.2.2.2.2.2.2.1 v.2.2.2.2.2.2.2.2.2.2.1 v.2.2.2.2.2.2.2.2.2.2.2.1 v.2.2.2.2.2.2.2.2.2.2.2.2.1 v.2.2.2.2.2.2.2.2.2.2.2.2.2.1 v.2.2.2.2.2.2.2.2.2.2.2.2.2.2.1 v.2.2.2.2.2.2.2.2.2.2.2.2.2.2.2.1 v.2.2.2.2.2.2.2.2.2.2.2.2.2.2.2.2.1 v.2.2.2.2.2.2.2.2.2.2.2.2.2.2.2.2.2.1 v.2.2.2.2.2.2.2.2.2.2.2.2.2.2.2.2.2.2.1 v.2.2.2.2.2.2.2.2.2.2.2.2.2.2.2.2.2.2.2.1 v.2.2.2.2.2.2.2.2.2.2.2.2.2.2.2.2.2.2.2.2.1 v.2.2.2.2.2.2.2.2.2.2.2.2.2.2.2.2.2.2.2.2.2.1 v.2.2.2.2.2.2.2.2.2.2.2.2.2.2.2.2.2.2.2.2.2.2.1 v.2.2.2.2.2.2.2.2.2.2.2.2.2.2.2.2.2.2.2.2.2.2.2.1 v.2.2.2.2.2.2.2.2.2.2.2.2.2.2.2.2.2.2.2.2.2.2.2.2.1 v.2.2.2.2.2.2.2.2.2.2.2.2.2.2.2.2.2.2.2.2.2.2.2.2.2.1 v.2.2.2.2.2.2.2.2.2.2.2.2.2.2.2.2.2.2.2.2.2.2.2.2.2.2.1 v.2.2.2.2.2.2.2.2.2.2.2.2.2.2.2.2.2.2.2.2.2.2.2.2.2.2.2.1 | none => loops n (Kd.struct (ref11Build.conM (Nat.succ mref11Build)).rs).T true 8 (evK (ref11Build.env mref11Build) (ref11Build.lp mref11Build n) n (sub [1, 1, 1, 1, 1, 1, 0, 0, 0] ref11Build.body)) ref11Build.nml8 K s) = _
  cases h : ref11Build.shl8.dec s with
  | none => rfl
  | some v =>
    rw [Shp.dec_enc h]
    exact (evLoop_eq (sh := ref11Build.shl8) (body := evK (ref11Build.env mref11Build) (ref11Build.lp mref11Build n) n (sub [1, 1, 1, 1, 1, 1, 0, 0, 0] ref11Build.body)) (nm := ref11Build.nml8) (K := K) (b := fun nx v => ref11Build.b8 n (ref11Build n mref11Build) (fun x0 x1 x2 x3 x4 x5 x6 x7 x8 x9 x10 x11 x12 x13 x14 x15 x16 x17 x18 x19 x20 x21 x22 x23 x24 x25 x26 x27 => nx (x0, x1, x2, x3, x4, x5, x6, x7, x8, x9, x10, x11, x12, x13, x14, x15, x16, x17, x18, x19, x20, x21, x22, x23, x24, x25, x26, x27, ())) (fun w0 w1 w2 w3 w4 w5 w6 w7 w8 w9 w10 w11 w12 w13 => K .ret (ref11Build.outl8e1.enc (w0, w1, w2, w3, w4, w5, w6, w7, w8, w9, w10, w11, w12, w13, ()))) (fun w0 w1 w2 w3 w4 w5 w6 w7 w8 w9 w10 w11 w12 w13 w14 w15 w16 w17 w18 w19 w20 w21 w22 w23 w24 => K (.exit 0) (ref11Build.outl8e2.enc (w0, w1, w2, w3, w4, w5, w6, w7, w8, w9, w10, w11, w12, w13, w14, w15, w16, w17, w18, w19, w20, w21, w22, w23, w24, ()))) v.1 v.2.1 v.2.2.1 v.2.2.2.1 v.2.2.2.2.1 v.2.2.2.2.2.1 v.2.2.2.2.2.2.1 v.2.2.2.2.2.2.2.1 v.2.2.2.2.2.2.2.2.1 v.2.2.2.2.2.2.2.2.2.1 v.2.2.2.2.2.2.2.2.2.2.1 v.2.2.2.2.2.2.2.2.2.2.2.1 v.2.2.2.2.2.2.2.2.2.2.2.2.1 v.2.2.2.2.2.2.2.2.2.2.2.2.2.1 v.2.2.2.2.2.2.2.2.2.2.2.2.2.2.1 v.2.2.2.2.2.2.2.2.2.2.2.2.2.2.2.1 v.2.2.2.2.2.2.2.2.2.2.2.2.2.2.2.2.1 v.2.2.2.2.2.2.2.2.2.2.2.2.2.2.2.2.2.1 v.2.2.2.2.2.2.2.2.2.2.2.2.2.2.2.2.2.2.1 v.2.2.2.2.2.2.2.2.2.2.2.2.2.2.2.2.2.2.2.1 v.2.2.2.2.2.2.2.2.2.2.2.2.2.2.2.2.2.2.2.2.1 v.2.2.2.2.2.2.2.2.2.2.2.2.2.2.2.2.2.2.2.2.2.1 v.2.2.2.2.2.2.2.2.2.2.2.2.2.2.2.2.2.2.2.2.2.2.1 v.2.2.2.2.2.2.2.2.2.2.2.2.2.2.2.2.2.2.2.2.2.2.2.1 v.2.2.2.2.2.2.2.2.2.2.2.2.2.2.2.2.2.2.2.2.2.2.2.2.1 v.2.2.2.2.2.2.2.2.2.2.2.2.2.2.2.2.2.2.2.2.2.2.2.2.2.1 v.2.2.2.2.2.2.2.2.2.2.2.2.2.2.2.2.2.2.2.2.2.2.2.2.2.2.1 v.2.2.2.2.2.2.2.2.2.2.2.2.2.2.2.2.2.2.2.2.2.2.2.2.2.2.2.1) (l := fun m v => ref11Build.l8 n (ref11Build n mref11Build) (fun w0 w1 w2 w3 w4 w5 w6 w7 w8 w9 w10 w11 w12 w13 => K .ret (ref11Build.outl8e1.enc (w0, w1, w2, w3, w4, w5, w6, w7, w8, w9, w10, w11, w12, w13, ()))) (fun w0 w1 w2 w3 w4 w5 w6 w7 w8 w9 w10 w11 w12 w13 w14 w15 w16 w17 w18 w19 w20 w21 w22 w23 w24 => K (.exit 0) (ref11Build.outl8e2.enc (w0, w1, w2, w3, w4, w5, w6, w7, w8, w9, w10, w11, w12, w13, w14, w15, w16, w17, w18, w19, w20, w21, w22, w23, w24, ()))) m v.1 v.2.1 v.2.2.1 v.2.2.2.1 v.2.2.2.2.1 v.2.2.2.2.2.1 v.2.2.2.2.2.2.1 v.2.2.2.2.2.2.2.1 v.2.2.2.2.2.2.2.2.1 v.2.2.2.2.2.2.2.2.2.1 v.2.2.2.2.2.2.2.2.2.2.1 v.2.2.2.2.2.2.2.2.2.2.2.1 v.2.2.2.2.2.2.2.2.2.2.2.2.1 v.2.2.2.2.2.2.2.2.2.2.2.2.2.1 v.2.2.2.2.2.2.2.2.2.2.2.2.2.2.1 v.2.2.2.2.2.2.2.2.2.2.2.2.2.2.2.1 v.2.2.2.2.2.2.2.2.2.2.2.2.2.2.2.2.1 v.2.2.2.2.2.2.2.2.2.2.2.2.2.2.2.2.2.1 v.2.2.2.2.2.2.2.2.2.2.2.2.2.2.2.2.2.2.1 v.2.2.2.2.2.2.2.2.2.2.2.2.2.2.2.2.2.2.2.1 v.2.2.2.2.2.2.2.2.2.2.2.2.2.2.2.2.2.2.2.2.1 v.2.2.2.2.2.2.2.2.2.2.2.2.2.2.2.2.2.2.2.2.2.1 v.2.2.2.2.2.2.2.2.2.2.2.2.2.2.2.2.2.2.2.2.2.2.1 v.2.2.2.2.2.2.2.2.2.2.2.2.2.2.2.2.2.2.2.2.2.2.2.1 v.2.2.2.2.2.2.2.2.2.2.2.2.2.2.2.2.2.2.2.2.2.2.2.2.1 v.2.2.2.2.2.2.2.2.2.2.2.2.2.2.2.2.2.2.2.2.2.2.2.2.2.1 v.2.2.2.2.2.2.2.2.2.2.2.2.2.2.2.2.2.2.2.2.2.2.2.2.2.2.1 v.2.2.2.2.2.2.2.2.2.2.2.2.2.2.2.2.2.2.2.2.2.2.2.2.2.2.2.1) (fun _ => rfl) (fun _ _ => rfl) (fun m v => by kernel_rfl) n v).symm
theorem ref11Build.eq (mref11Build : Nat) (n : Nat) (x : (Kd.struct (ref11Build.conM (Nat.succ mref11Build)).ps).T) : evFunc (ref11Build.env mref11Build) Try.f76 ref11Build.body (ref11Build.conM (Nat.succ mref11Build)).ps (ref11Build.conM (Nat.succ mref11Build)).rs (ref11Build.lp mref11Build n) n x = (ref11Build.conM (Nat.succ mref11Build)).f n x := by kernel_rfl
theorem ref11Build.step (mref11Build : Nat) (ihref11Build : Sound Try.prog globs 76 (ref11Build.conM mref11Build)) : Sound Try.prog globs 76 (ref11Build.conM (Nat.succ mref11Build)) :=
  sound_by (E := (ref11Build.env mref11Build)) (c := ref11Build.body) (envOk (G := globs) (lc := [(76, (ref11Build.conM mref11Build))]) (lo := []) (envB_spec (by kernel_rfl)) rfl rfl ⟨.inl ⟨ihref11Build, by kernel_rfl⟩, trivial⟩ rfl trivial (by kernel_rfl) (by kernel_rfl)) Try.func76 (by kernel_rfl) (ref11Build.lp mref11Build) (l := [(true, sub [1, 1, 1, 1, 1, 1, 0, 0, 0] ref11Build.body, ref11Build.nml8)]) (by kernel_rfl) (fun n => ⟨ref11Build.atl8 mref11Build n, trivial⟩) (ref11Build.eq mref11Build)
theorem ref11Build.soundM (m : Nat) : Sound Try.prog globs 76 (ref11Build.conM m) := by
  induction m with
  | zero => intro n x r h; cases (show none = some r from h)
  | succ m ih => exact ref11Build.step m ih
theorem ref11Build.sound : Sound Try.prog globs 76 ref11Build.con :=
  sound_fuel (ps := [(.slice kS6), (.int .i64), (.int .i64)]) (rs := [(.tre kS6), (.int .i64), .bool]) (F := fun n m x => ref11Build n m x.1 x.2.1 x.2.2.1) (ref11Build.soundM)
noncomputable def ref11Tree (fu : Nat) (l : List S6) : Option ((Tr S6) × Bool × Unit) :=
  (ref11Build fu fu l (0 : Int) (l.length : Int)).bind fun r1 =>
  cond r1.2.2.1 (
    let t2 := r1.2.1 == (l.length : Int)
    some (Tr.mk r1.1.val r1.1.sub, t2, ())) (
    some (Tr.mk r1.1.val r1.1.sub, false, ()))

noncomputable def ref11Tree.body : Code := Try.f36.body.getD .skip
noncomputable def ref11Tree.con : Con := { ps := [(.slice kS6)], rs := [(.tre kS6), .bool], f := fun n x => ref11Tree n x.1 }
noncomputable def ref11Tree.env : Env := { tys := [(80, ⟨(.tre kS6), 120⟩), (4, ⟨.bool, 1⟩), (77, ⟨kS6, 96⟩)], elems := [(66, 77)], ptrs := [], cons := [(76, ref11Build.con)], objs := [], loops := [], cuts := [], globs := globs, base := 0 }
noncomputable def ref11Tree.lp (n : Nat) : LP (Kd.struct ref11Tree.con.rs).T := fun lo κ body nm K s =>
  loops n (Kd.struct ref11Tree.con.rs).T lo κ body nm K s
theorem ref11Tree.eq (n : Nat) (x : (Kd.struct ref11Tree.con.ps).T) : evFunc ref11Tree.env Try.f36 ref11Tree.body ref11Tree.con.ps ref11Tree.con.rs (ref11Tree.lp n) n x = ref11Tree.con.f n x := by kernel_rfl
theorem ref11Tree.sound : Sound Try.prog globs 36 ref11Tree.con :=
  sound_by (E := ref11Tree.env) (c := ref11Tree.body) (envOk (G := globs) (lc := [(76, ref11Build.con)]) (lo := []) (envB_spec (by kernel_rfl)) rfl rfl ⟨.inl ⟨ref11Build.sound, by kernel_rfl⟩, trivial⟩ rfl trivial (by kernel_rfl) (by kernel_rfl)) Try.func36 (by kernel_rfl) ref11Tree.lp (l := []) (by kernel_rfl) (fun n => trivial) ref11Tree.eq
noncomputable def ref11None (fu : Nat) (p : S3) : Option (Bool × Unit) :=
  cond (!p.1) (
    cond (p.2.1 == (0 : Int)) (
      let t1 := (p.2.2.1.length : Int) == (0 : Int)
      some (t1, ())) (
      some (false, ()))) (
    some (false, ()))

noncomputable def ref11None.body : Code := Try.f111.body.getD .skip
noncomputable def ref11None.con : Con := { ps := [kS3], rs := [.bool], f := fun n x => ref11None n x.1 }
noncomputable def ref11None.env : Env := { tys := [(75, ⟨kS3, 32⟩), (4, ⟨.bool, 1⟩), (5, ⟨(.int .u8), 1⟩), (73, ⟨(.slice kS2), 24⟩), (88, ⟨kS2, 48⟩)], elems := [(73, 88)], ptrs := [], cons := [], objs := [], loops := [], cuts := [], globs := globs, base := 0 }
noncomputable def ref11None.lp (n : Nat) : LP (Kd.struct ref11None.con.rs).T := fun lo κ body nm K s =>
  loops n (Kd.struct ref11None.con.rs).T lo κ body nm K s
theorem ref11None.eq (n : Nat) (x : (Kd.struct ref11None.con.ps).T) : evFunc ref11None.env Try.f111 ref11None.body ref11None.con.ps ref11None.con.rs (ref11None.lp n) n x = ref11None.con.f n x := by kernel_rfl
theorem ref11None.sound : Sound Try.prog globs 111 ref11None.con :=
  sound_by (E := ref11None.env) (c := ref11None.body) (envOk (G := globs) (lc := []) (lo := []) (envB_spec (by kernel_rfl)) rfl rfl trivial rfl trivial (by kernel_rfl) (by kernel_rfl)) Try.func111 (by kernel_rfl) ref11None.lp (l := []) (by kernel_rfl) (fun n => trivial) ref11None.eq
noncomputable def ref11TFormed.b16 (fu : Nat) (Sref11TFormed : (Tr S6) → Option (Bool × Unit)) (next : Bool → Int → Int → Int → Bool → Int → (List S2) → Bool → Bool → Int → (List S2) → Int → Int → Int → (List (Tr S6)) → Option (Bool × Unit)) (k3 : Bool → Option (Bool × Unit)) (ok : Bool) (v : Int) (vx2 : Int) (c0 : Int) (c0x2 : Bool) (c0x3 : Int) (c0x4 : List S2) (c0x5 : Bool) (c0x6 : Bool) (c0x7 : Int) (c0x8 : List S2) (c0x9 : Int) (c0x10 : Int) (c0x11 : Int) (c0x12 : List (Tr S6)) : Option (Bool × Unit) :=
  cond (decide (vx2 < v)) (
    cond ok (
      chk (ixOk c0x12 vx2) <|
      let e1 := ixL (Tr.mk ((0 : Int), (false, (0 : Int), [], ()), false, (false, (0 : Int), [], ()), (0 : Int), (0 : Int), (0 : Int), ()) []) c0x12 vx2
      (Sref11TFormed e1).bind fun r2 =>
      let t3 := IntKind.i64.wrap (vx2 + (1 : Int))
      next r2.1 v t3 c0 c0x2 c0x3 c0x4 c0x5 c0x6 c0x7 c0x8 c0x9 c0x10 c0x11 c0x12) (
      let t4 := IntKind.i64.wrap (vx2 + (1 : Int))
      next false v t4 c0 c0x2 c0x3 c0x4 c0x5 c0x6 c0x7 c0x8 c0x9 c0x10 c0x11 c0x12)) (
    k3 ok)
noncomputable def ref11TFormed.l16 (fu : Nat) (Sref11TFormed : (Tr S6) → Option (Bool × Unit)) (k3 : Bool → Option (Bool × Unit)) : Nat → Bool → Int → Int → Int → Bool → Int → (List S2) → Bool → Bool → Int → (List S2) → Int → Int → Int → (List (Tr S6)) → Option (Bool × Unit)
  | 0, _, _, _, _, _, _, _, _, _, _, _, _, _, _, _ => none
  | m + 1, ok, v, vx2, c0, c0x2, c0x3, c0x4, c0x5, c0x6, c0x7, c0x8, c0x9, c0x10, c0x11, c0x12 => ref11TFormed.b16 fu Sref11TFormed (ref11TFormed.l16 fu Sref11TFormed k3 m) k3 ok v vx2 c0 c0x2 c0x3 c0x4 c0x5 c0x6 c0x7 c0x8 c0x9 c0x10 c0x11 c0x12
noncomputable def ref11TFormed.j15 (fu : Nat) (Sref11TFormed : (Tr S6) → Option (Bool × Unit)) (k1 : Bool → Option (Bool × Unit)) (ok : Bool) (c0 : Int) (c0x2 : Bool) (c0x3 : Int) (c0x4 : List S2) (c0x5 : Bool) (c0x6 : Bool) (c0x7 : Int) (c0x8 : List S2) (c0x9 : Int) (c0x10 : Int) (c0x11 : Int) (c0x12 : List (Tr S6)) : Option (Bool × Unit) :=
  ref11TFormed.l16 fu Sref11TFormed (fun okq21 => 
      k1 okq21) fu ok (c0x12.length : Int) (0 : Int) c0 c0x2 c0x3 c0x4 c0x5 c0x6 c0x7 c0x8 c0x9 c0x10 c0x11 c0x12
noncomputable def ref11TFormed.j13 (fu : Nat) (Sref11TFormed : (Tr S6) → Option (Bool × Unit)) (k1 : Bool → Option (Bool × Unit)) (ok : Bool) (c0 : Int) (c0x2 : Bool) (c0x3 : Int) (c0x4 : List S2) (c0x5 : Bool) (c0x6 : Bool) (c0x7 : Int) (c0x8 : List S2) (c0x9 : Int) (c0x10 : Int) (c0x11 : Int) (c0x12 : List (Tr S6)) (b1 : S6) : Option (Bool × Unit) :=
  cond (!b1.2.2.1) (
    (ref11None fu b1.2.2.2.1).bind fun r1 =>
    cond (!r1.1) (
      ref11TFormed.j15 fu Sref11TFormed (fun vq22 => 
          k1 vq22) false c0 c0x2 c0x3 c0x4 c0x5 c0x6 c0x7 c0x8 c0x9 c0x10 c0x11 c0x12) (
      ref11TFormed.j15 fu Sref11TFormed (fun vq23 => 
          k1 vq23) ok c0 c0x2 c0x3 c0x4 c0x5 c0x6 c0x7 c0x8 c0x9 c0x10 c0x11 c0x12)) (
    ref11TFormed.j15 fu Sref11TFormed (fun vq24 => 
        k1 vq24) ok c0 c0x2 c0x3 c0x4 c0x5 c0x6 c0x7 c0x8 c0x9 c0x10 c0x11 c0x12)
noncomputable def ref11TFormed.bd (fu : Nat) (Sref11TFormed : (Tr S6) → Option (Bool × Unit)) (tv : Tr S6) : Option (Bool × Unit) :=
  cond (tv.val.1 == (1 : Int)) (
    let t1 := (tv.sub.length : Int) == (0 : Int)
    cond t1 (
      let t2 := tv.val.2.2.2.2.1 == (0 : Int)
      cond t2 (
        let t3 := tv.val.2.2.2.2.2.1 == (0 : Int)
        cond t3 (
          ref11TFormed.j13 fu Sref11TFormed (fun vq1 => 
              some (vq1, ())) (!tv.val.2.2.1) tv.val.1 tv.val.2.1.1 tv.val.2.1.2.1 tv.val.2.1.2.2.1 tv.val.2.2.1 tv.val.2.2.2.1.1 tv.val.2.2.2.1.2.1 tv.val.2.2.2.1.2.2.1 tv.val.2.2.2.2.1 tv.val.2.2.2.2.2.1 tv.val.2.2.2.2.2.2.1 tv.sub tv.val) (
          ref11TFormed.j13 fu Sref11TFormed (fun vq2 => 
              some (vq2, ())) false tv.val.1 tv.val.2.1.1 tv.val.2.1.2.1 tv.val.2.1.2.2.1 tv.val.2.2.1 tv.val.2.2.2.1.1 tv.val.2.2.2.1.2.1 tv.val.2.2.2.1.2.2.1 tv.val.2.2.2.2.1 tv.val.2.2.2.2.2.1 tv.val.2.2.2.2.2.2.1 tv.sub tv.val)) (
        ref11TFormed.j13 fu Sref11TFormed (fun vq3 => 
            some (vq3, ())) false tv.val.1 tv.val.2.1.1 tv.val.2.1.2.1 tv.val.2.1.2.2.1 tv.val.2.2.1 tv.val.2.2.2.1.1 tv.val.2.2.2.1.2.1 tv.val.2.2.2.1.2.2.1 tv.val.2.2.2.2.1 tv.val.2.2.2.2.2.1 tv.val.2.2.2.2.2.2.1 tv.sub tv.val)) (
      ref11TFormed.j13 fu Sref11TFormed (fun vq4 => 
          some (vq4, ())) false tv.val.1 tv.val.2.1.1 tv.val.2.1.2.1 tv.val.2.1.2.2.1 tv.val.2.2.1 tv.val.2.2.2.1.1 tv.val.2.2.2.1.2.1 tv.val.2.2.2.1.2.2.1 tv.val.2.2.2.2.1 tv.val.2.2.2.2.2.1 tv.val.2.2.2.2.2.2.1 tv.sub tv.val)) (
    cond (tv.val.1 == (2 : Int)) (
      let t4 := decide ((tv.sub.length : Int) > (1 : Int))
      cond t4 (
        let t5 := tv.val.2.2.2.2.1 == (0 : Int)
        cond t5 (
          let t6 := tv.val.2.2.2.2.2.1 == (0 : Int)
          cond t6 (
            (ref11None fu tv.val.2.1).bind fun r7 =>
            ref11TFormed.j13 fu Sref11TFormed (fun vq5 => 
                some (vq5, ())) r7.1 tv.val.1 tv.val.2.1.1 tv.val.2.1.2.1 tv.val.2.1.2.2.1 tv.val.2.2.1 tv.val.2.2.2.1.1 tv.val.2.2.2.1.2.1 tv.val.2.2.2.1.2.2.1 tv.val.2.2.2.2.1 tv.val.2.2.2.2.2.1 tv.val.2.2.2.2.2.2.1 tv.sub tv.val) (
            ref11TFormed.j13 fu Sref11TFormed (fun vq6 => 
                some (vq6, ())) false tv.val.1 tv.val.2.1.1 tv.val.2.1.2.1 tv.val.2.1.2.2.1 tv.val.2.2.1 tv.val.2.2.2.1.1 tv.val.2.2.2.1.2.1 tv.val.2.2.2.1.2.2.1 tv.val.2.2.2.2.1 tv.val.2.2.2.2.2.1 tv.val.2.2.2.2.2.2.1 tv.sub tv.val)) (
          ref11TFormed.j13 fu Sref11TFormed (fun vq7 => 
              some (vq7, ())) false tv.val.1 tv.val.2.1.1 tv.val.2.1.2.1 tv.val.2.1.2.2.1 tv.val.2.2.1 tv.val.2.2.2.1.1 tv.val.2.2.2.1.2.1 tv.val.2.2.2.1.2.2.1 tv.val.2.2.2.2.1 tv.val.2.2.2.2.2.1 tv.val.2.2.2.2.2.2.1 tv.sub tv.val)) (
        ref11TFormed.j13 fu Sref11TFormed (fun vq8 => 
            some (vq8, ())) false tv.val.1 tv.val.2.1.1 tv.val.2.1.2.1 tv.val.2.1.2.2.1 tv.val.2.2.1 tv.val.2.2.2.1.1 tv.val.2.2.2.1.2.1 tv.val.2.2.2.1.2.2.1 tv.val.2.2.2.2.1 tv.val.2.2.2.2.2.1 tv.val.2.2.2.2.2.2.1 tv.sub tv.val)) (
      cond (tv.val.1 == (3 : Int)) (
        let t8 := decide ((tv.sub.length : Int) > (1 : Int))
        cond t8 (
          let t9 := tv.val.2.2.2.2.1 == (0 : Int)
          cond t9 (
            let t10 := tv.val.2.2.2.2.2.1 == (0 : Int)
            cond t10 (
              (ref11None fu tv.val.2.1).bind fun r11 =>
              cond r11.1 (
                ref11TFormed.j13 fu Sref11TFormed (fun vq9 => 
                    some (vq9, ())) (!tv.val.2.2.1) tv.val.1 tv.val.2.1.1 tv.val.2.1.2.1 tv.val.2.1.2.2.1 tv.val.2.2.1 tv.val.2.2.2.1.1 tv.val.2.2.2.1.2.1 tv.val.2.2.2.1.2.2.1 tv.val.2.2.2.2.1 tv.val.2.2.2.2.2.1 tv.val.2.2.2.2.2.2.1 tv.sub tv.val) (
                ref11TFormed.j13 fu Sref11TFormed (fun vq10 => 
                    some (vq10, ())) false tv.val.1 tv.val.2.1.1 tv.val.2.1.2.1 tv.val.2.1.2.2.1 tv.val.2.2.1 tv.val.2.2.2.1.1 tv.val.2.2.2.1.2.1 tv.val.2.2.2.1.2.2.1 tv.val.2.2.2.2.1 tv.val.2.2.2.2.2.1 tv.val.2.2.2.2.2.2.1 tv.sub tv.val)) (
              ref11TFormed.j13 fu Sref11TFormed (fun vq11 => 
                  some (vq11, ())) false tv.val.1 tv.val.2.1.1 tv.val.2.1.2.1 tv.val.2.1.2.2.1 tv.val.2.2.1 tv.val.2.2.2.1.1 tv.val.2.2.2.1.2.1 tv.val.2.2.2.1.2.2.1 tv.val.2.2.2.2.1 tv.val.2.2.2.2.2.1 tv.val.2.2.2.2.2.2.1 tv.sub tv.val)) (
            ref11TFormed.j13 fu Sref11TFormed (fun vq12 => 
                some (vq12, ())) false tv.val.1 tv.val.2.1.1 tv.val.2.1.2.1 tv.val.2.1.2.2.1 tv.val.2.2.1 tv.val.2.2.2.1.1 tv.val.2.2.2.1.2.1 tv.val.2.2.2.1.2.2.1 tv.val.2.2.2.2.1 tv.val.2.2.2.2.2.1 tv.val.2.2.2.2.2.2.1 tv.sub tv.val)) (
          ref11TFormed.j13 fu Sref11TFormed (fun vq13 => 
              some (vq13, ())) false tv.val.1 tv.val.2.1.1 tv.val.2.1.2.1 tv.val.2.1.2.2.1 tv.val.2.2.1 tv.val.2.2.2.1.1 tv.val.2.2.2.1.2.1 tv.val.2.2.2.1.2.2.1 tv.val.2.2.2.2.1 tv.val.2.2.2.2.2.1 tv.val.2.2.2.2.2.2.1 tv.sub tv.val)) (
        cond (tv.val.1 == (4 : Int)) (
          let t12 := (tv.sub.length : Int) == (1 : Int)
          cond t12 (
            let t13 := decide (tv.val.2.2.2.2.1 > (0 : Int))
            cond t13 (
              let t14 := decide (tv.val.2.2.2.2.2.1 ≥ tv.val.2.2.2.2.1)
              cond t14 (
                let t15 := decide (tv.val.2.2.2.2.2.1 < (9 : Int))
                cond t15 (
                  (ref11None fu tv.val.2.1).bind fun r16 =>
                  ref11TFormed.j13 fu Sref11TFormed (fun vq14 => 
                      some (vq14, ())) r16.1 tv.val.1 tv.val.2.1.1 tv.val.2.1.2.1 tv.val.2.1.2.2.1 tv.val.2.2.1 tv.val.2.2.2.1.1 tv.val.2.2.2.1.2.1 tv.val.2.2.2.1.2.2.1 tv.val.2.2.2.2.1 tv.val.2.2.2.2.2.1 tv.val.2.2.2.2.2.2.1 tv.sub tv.val) (
                  ref11TFormed.j13 fu Sref11TFormed (fun vq15 => 
                      some (vq15, ())) false tv.val.1 tv.val.2.1.1 tv.val.2.1.2.1 tv.val.2.1.2.2.1 tv.val.2.2.1 tv.val.2.2.2.1.1 tv.val.2.2.2.1.2.1 tv.val.2.2.2.1.2.2.1 tv.val.2.2.2.2.1 tv.val.2.2.2.2.2.1 tv.val.2.2.2.2.2.2.1 tv.sub tv.val)) (
                ref11TFormed.j13 fu Sref11TFormed (fun vq16 => 
                    some (vq16, ())) false tv.val.1 tv.val.2.1.1 tv.val.2.1.2.1 tv.val.2.1.2.2.1 tv.val.2.2.1 tv.val.2.2.2.1.1 tv.val.2.2.2.1.2.1 tv.val.2.2.2.1.2.2.1 tv.val.2.2.2.2.1 tv.val.2.2.2.2.2.1 tv.val.2.2.2.2.2.2.1 tv.sub tv.val)) (
              ref11TFormed.j13 fu Sref11TFormed (fun vq17 => 
                  some (vq17, ())) false tv.val.1 tv.val.2.1.1 tv.val.2.1.2.1 tv.val.2.1.2.2.1 tv.val.2.2.1 tv.val.2.2.2.1.1 tv.val.2.2.2.1.2.1 tv.val.2.2.2.1.2.2.1 tv.val.2.2.2.2.1 tv.val.2.2.2.2.2.1 tv.val.2.2.2.2.2.2.1 tv.sub tv.val)) (
            ref11TFormed.j13 fu Sref11TFormed (fun vq18 => 
                some (vq18, ())) false tv.val.1 tv.val.2.1.1 tv.val.2.1.2.1 tv.val.2.1.2.2.1 tv.val.2.2.1 tv.val.2.2.2.1.1 tv.val.2.2.2.1.2.1 tv.val.2.2.2.1.2.2.1 tv.val.2.2.2.2.1 tv.val.2.2.2.2.2.1 tv.val.2.2.2.2.2.2.1 tv.sub tv.val)) (
          ref11TFormed.j13 fu Sref11TFormed (fun vq19 => 
              some (vq19, ())) false tv.val.1 tv.val.2.1.1 tv.val.2.1.2.1 tv.val.2.1.2.2.1 tv.val.2.2.1 tv.val.2.2.2.1.1 tv.val.2.2.2.1.2.1 tv.val.2.2.2.1.2.2.1 tv.val.2.2.2.2.1 tv.val.2.2.2.2.2.1 tv.val.2.2.2.2.2.2.1 tv.sub tv.val))))
noncomputable def ref11TFormed (fu : Nat) (m : Nat) : (Tr S6) → Option (Bool × Unit) :=
  Nat.rec (fun _ => none) (fun _ Sref11TFormed => ref11TFormed.bd fu Sref11TFormed) m

noncomputable def ref11TFormed.conM (m : Nat) : Con := { ps := [(.tre kS6)], rs := [.bool], f := fun n x => ref11TFormed n m x.1 }
noncomputable def ref11TFormed.con : Con := { ps := [(.tre kS6)], rs := [.bool], f := fun n x => ref11TFormed n n x.1 }
noncomputable def ref11TFormed.body : Code := Try.f68.body.getD .skip
abbrev ref11TFormed.shl16 : Shp := ⟨[.u, .p 0 0, .u, .u, .u, .d .bool, .u, .u, .u, .u, .u, .u, .u, .u, .u, .u, .u, .u, .u, .u, .u, .u, .u, .u, .u, .u, .u, .u, .u, .u, .u, .u, .u, .u, .u, .u, .u, .u, .u, .u, .u, .u, .u, .u, .u, .u, .u, .u, .u, .u, .u, .u, .u, .u, .u, .u, .u, .u, .u, .u, .u, .u, .u, .u, .u, .u, .u, .u, .u, .u, .u, .u, .u, .u, .u, .u, .u, .u, .u, .u, .u, .u, .u, .u, .u, .u, .u, .u, .u, .u, .u, .u, .u, .u, .u, .u, .u, .u, .u, .u, .u, .u, .u, .u, .u, .u, .u, .u, .u, .u, .u, .u, .u, .d (.int .i64), .d (.int .i64), .u, .u, .u, .u, .u, .u, .u, .u, .u, .u, .u, .u, .u], [.c [.d (.int .u8), .d .bool, .d (.int .u8), .d (.slice kS2), .d .bool, .d .bool, .d (.int .u8), .d (.slice kS2), .d (.int .u8), .d (.int .u8), .d (.int .i64), .d (.slice (.tre kS6))]]⟩
abbrev ref11TFormed.outl16e3 : Shp := ⟨[.u, .u, .u, .u, .u, .d .bool, .u, .u, .u, .u, .u, .u, .u, .u, .u, .u, .u, .u, .u, .u, .u, .u, .u, .u, .u, .u, .u, .u, .u, .u, .u, .u, .u, .u, .u, .u, .u, .u, .u, .u, .u, .u, .u, .u, .u, .u, .u, .u, .u, .u, .u, .u, .u, .u, .u, .u, .u, .u, .u, .u, .u, .u, .u, .u, .u, .u, .u, .u, .u, .u, .u, .u, .u, .u, .u, .u, .u, .u, .u, .u, .u, .u, .u, .u, .u, .u, .u, .u, .u, .u, .u, .u, .u, .u, .u, .u, .u, .u, .u, .u, .u, .u, .u, .u, .u, .u, .u, .u, .u, .u, .u, .u, .u, .u, .u, .u, .u, .u, .u, .u, .u, .u, .u, .u, .u, .u, .u, .u], []⟩
noncomputable def ref11TFormed.nml16 : Norm := ⟨{ keep := [1, 5, 113, 114], shut := [(5, .bool), (113, (.int .i64)), (114, (.int .i64))], retag := [], heap := 1, dead := [], cshut := [(0, 0, (.int .u8)), (0, 1, .bool), (0, 2, (.int .u8)), (0, 3, (.slice kS2)), (0, 4, .bool), (0, 5, .bool), (0, 6, (.int .u8)), (0, 7, (.slice kS2)), (0, 8, (.int .u8)), (0, 9, (.int .u8)), (0, 10, (.int .i64)), (0, 11, (.slice (.tre kS6)))], cretag := [] }, [(3, { keep := [5], shut := [(5, .bool)], retag := [], heap := 0, dead := [], cshut := [], cretag := [] })]⟩
abbrev ref11TFormed.shj15 : Shp := ⟨[.u, .p 0 0, .u, .u, .u, .d .bool, .u, .u, .u, .u, .u, .u, .u, .u, .u, .u, .u, .u, .u, .u, .u, .u, .u, .u, .u, .u, .u, .u, .u, .u, .u, .u, .u, .u, .u, .u, .u, .u, .u, .u, .u, .u, .u, .u, .u, .u, .u, .u, .u, .u, .u, .u, .u, .u, .u, .u, .u, .u, .u, .u, .u, .u, .u, .u, .u, .u, .u, .u, .u, .u, .u, .u, .u, .u, .u, .u, .u, .u, .u, .u, .u, .u, .u, .u, .u, .u, .u, .u, .u, .u, .u, .u, .u, .u, .u, .u, .u, .u, .u, .u, .u, .u, .u, .u, .u, .u, .u, .u, .u, .u, .u, .u, .u, .u, .u, .u, .u, .u, .u, .u, .u, .u, .u, .u, .u, .u, .u, .u], [.c [.d (.int .u8), .d .bool, .d (.int .u8), .d (.slice kS2), .d .bool, .d .bool, .d (.int .u8), .d (.slice kS2), .d (.int .u8), .d (.int .u8), .d (.int .i64), .d (.slice (.tre kS6))]]⟩
abbrev ref11TFormed.outj15e1 : Shp := ⟨[.u, .u, .d .bool, .u, .u, .u, .u, .u, .u, .u, .u, .u, .u, .u, .u, .u, .u, .u, .u, .u, .u, .u, .u, .u, .u, .u, .u, .u, .u, .u, .u, .u, .u, .u, .u, .u, .u, .u, .u, .u, .u, .u, .u, .u, .u, .u, .u, .u, .u, .u, .u, .u, .u, .u, .u, .u, .u, .u, .u, .u, .u, .u, .u, .u, .u, .u, .u, .u, .u, .u, .u, .u, .u, .u, .u, .u, .u, .u, .u, .u, .u, .u, .u, .u, .u, .u, .u, .u, .u, .u, .u, .u, .u, .u, .u, .u, .u, .u, .u, .u, .u, .u, .u, .u, .u, .u, .u, .u, .u, .u, .u, .u, .u, .u, .u, .u, .u, .u, .u, .u, .u, .u, .u, .u, .u, .u, .u, .u], []⟩
noncomputable def ref11TFormed.nmj15 : Norm := ⟨{ keep := [1, 5], shut := [(5, .bool)], retag := [], heap := 1, dead := [], cshut := [(0, 0, (.int .u8)), (0, 1, .bool), (0, 2, (.int .u8)), (0, 3, (.slice kS2)), (0, 4, .bool), (0, 5, .bool), (0, 6, (.int .u8)), (0, 7, (.slice kS2)), (0, 8, (.int .u8)), (0, 9, (.int .u8)), (0, 10, (.int .i64)), (0, 11, (.slice (.tre kS6)))], cretag := [] }, [(1, { keep := [2], shut := [(2, .bool)], retag := [], heap := 0, dead := [], cshut := [], cretag := [] })]⟩
abbrev ref11TFormed.shj13 : Shp := ⟨[.u, .p 0 0, .u, .p 1 0, .u, .d .bool, .u, .u, .u, .u, .u, .u, .u, .u, .u, .u, .u, .u, .u, .u, .u, .u, .u, .u, .u, .u, .u, .u, .u, .u, .u, .u, .u, .u, .u, .u, .u, .u, .u, .u, .u, .u, .u, .u, .u, .u, .u, .u, .u, .u, .u, .u, .u, .u, .u, .u, .u, .u, .u, .u, .u, .u, .u, .u, .u, .u, .u, .u, .u, .u, .u, .u, .u, .u, .u, .u, .u, .u, .u, .u, .u, .u, .u, .u, .u, .u, .u, .u, .u, .u, .u, .u, .u, .u, .u, .u, .u, .u, .u, .u, .u, .u, .u, .u, .u, .u, .u, .u, .u, .u, .u, .u, .u, .u, .u, .u, .u, .u, .u, .u, .u, .u, .u, .u, .u, .u, .u, .u], [.c [.d (.int .u8), .d .bool, .d (.int .u8), .d (.slice kS2), .d .bool, .d .bool, .d (.int .u8), .d (.slice kS2), .d (.int .u8), .d (.int .u8), .d (.int .i64), .d (.slice (.tre kS6))], .c [.g kS6]]⟩
abbrev ref11TFormed.outj13e1 : Shp := ⟨[.u, .u, .d .bool, .u, .u, .u, .u, .u, .u, .u, .u, .u, .u, .u, .u, .u, .u, .u, .u, .u, .u, .u, .u, .u, .u, .u, .u, .u, .u, .u, .u, .u, .u, .u, .u, .u, .u, .u, .u, .u, .u, .u, .u, .u, .u, .u, .u, .u, .u, .u, .u, .u, .u, .u, .u, .u, .u, .u, .u, .u, .u, .u, .u, .u, .u, .u, .u, .u, .u, .u, .u, .u, .u, .u, .u, .u, .u, .u, .u, .u, .u, .u, .u, .u, .u, .u, .u, .u, .u, .u, .u, .u, .u, .u, .u, .u, .u, .u, .u, .u, .u, .u, .u, .u, .u, .u, .u, .u, .u, .u, .u, .u, .u, .u, .u, .u, .u, .u, .u, .u, .u, .u, .u, .u, .u, .u, .u, .u], []⟩
noncomputable def ref11TFormed.nmj13 : Norm := ⟨{ keep := [1, 3, 5], shut := [(5, .bool)], retag := [], heap := 2, dead := [], cshut := [(0, 0, (.int .u8)), (0, 1, .bool), (0, 2, (.int .u8)), (0, 3, (.slice kS2)), (0, 4, .bool), (0, 5, .bool), (0, 6, (.int .u8)), (0, 7, (.slice kS2)), (0, 8, (.int .u8)), (0, 9, (.int .u8)), (0, 10, (.int .i64)), (0, 11, (.slice (.tre kS6))), (1, 0, (.int .u8)), (1, 1, .bool), (1, 2, (.int .u8)), (1, 3, (.slice kS2)), (1, 4, .bool), (1, 5, .bool), (1, 6, (.int .u8)), (1, 7, (.slice kS2)), (1, 8, (.int .u8)), (1, 9, (.int .u8)), (1, 10, (.int .i64))], cretag := [] }, [(1, { keep := [2], shut := [(2, .bool)], retag := [], heap := 0, dead := [], cshut := [], cretag := [] })]⟩
noncomputable def ref11TFormed.env (mref11TFormed : Nat) : Env := { tys := [(80, ⟨(.tre kS6), 120⟩), (4, ⟨.bool, 1⟩), (77, ⟨kS6, 96⟩), (78, ⟨(.slice (.tre kS6)), 24⟩), (5, ⟨(.int .u8), 1⟩), (75, ⟨kS3, 32⟩), (3, ⟨(.int .i64), 8⟩)], elems := [(78, 80)], ptrs := [], cons := [(111, ref11None.con), (68, (ref11TFormed.conM mref11TFormed))], objs := [], loops := [(16, ref11TFormed.nml16)], cuts := [(15, ref11TFormed.nmj15), (13, ref11TFormed.nmj13)], globs := globs, base := 0 }
noncomputable def ref11TFormed.lp (mref11TFormed : Nat) (n : Nat) : LP (Kd.struct (ref11TFormed.conM (Nat.succ mref11TFormed)).rs).T := fun lo κ body nm K s =>
  cond (lo && Nat.beq κ 16)
    (match ref11TFormed.shl16.dec s with
    | some v => ref11TFormed.l16 n (ref11TFormed n mref11TFormed) (fun w0 => K (.exit 1) (ref11TFormed.outl16e3.enc (w0, ()))) n v.1 v.2.1 v.2.2.1 v.2.2.2.1 v.2.2.2.2.1 v.2.2.2.2.2.1 v.2.2.2.2.2.2.1 v.2.2.2.2.2.2.2.1 v.2.2.2.2.2.2.2.2.1 v.2.2.2.2.2.2.2.2.2.1 v.2.2.2.2.2.2.2.2.2.2.1 v.2.2.2.2.2.2.2.2.2.2.2.1 v.2.2.2.2.2.2.2.2.2.2.2.2.1 v.2.2.2.2.2.2.2.2.2.2.2.2.2.1 v.2.2.2.2.2.2.2.2.2.2.2.2.2.2.1
    | none => loops n (Kd.struct (ref11TFormed.conM (Nat.succ mref11TFormed)).rs).T lo κ body nm K s)
    (cond (!lo && Nat.beq κ 15)
    (match ref11TFormed.shj15.dec s with
    | some v => ref11TFormed.j15 n (ref11TFormed n mref11TFormed) (fun w0 => K .ret (ref11TFormed.outj15e1.enc (w0, ()))) v.1 v.2.1 v.2.2.1 v.2.2.2.1 v.2.2.2.2.1 v.2.2.2.2.2.1 v.2.2.2.2.2.2.1 v.2.2.2.2.2.2.2.1 v.2.2.2.2.2.2.2.2.1 v.2.2.2.2.2.2.2.2.2.1 v.2.2.2.2.2.2.2.2.2.2.1 v.2.2.2.2.2.2.2.2.2.2.2.1 v.2.2.2.2.2.2.2.2.2.2.2.2.1
    | none => loops n (Kd.struct (ref11TFormed.conM (Nat.succ mref11TFormed)).rs).T lo κ body nm K s)
    (cond (!lo && Nat.beq κ 13)
    (match ref11TFormed.shj13.dec s with
    | some v => ref11TFormed.j13 n (ref11TFormed n mref11TFormed) (fun w0 => K .ret (ref11TFormed.outj13e1.enc (w0, ()))) v.1 v.2.1 v.2.2.1 v.2.2.2.1 v.2.2.2.2.1 v.2.2.2.2.2.1 v.2.2.2.2.2.2.1 v.2.2.2.2.2.2.2.1 v.2.2.2.2.2.2.2.2.1 v.2.2.2.2.2.2.2.2.2.1 v.2.2.2.2.2.2.2.2.2.2.1 v.2.2.2.2.2.2.2.2.2.2.2.1 v.2.2.2.2.2.2.2.2.2.2.2.2.1 v.2.2.2.2.2.2.2.2.2.2.2.2.2.1
    | none => loops n (Kd.struct (ref11TFormed.conM (Nat.succ mref11TFormed)).rs).T lo κ body nm K s)
    (loops n (Kd.struct (ref11TFormed.conM (Nat.succ mref11TFormed)).rs).T lo κ body nm K s)))
theorem ref11TFormed.atl16 (mref11TFormed : Nat) (n : Nat) (s : St) (K : Ex → St → Option (Kd.struct (ref11TFormed.conM (Nat.succ mref11TFormed)).rs).T) : (ref11TFormed.lp mref11TFormed n) true 16 (evK (ref11TFormed.env mref11TFormed) (ref11TFormed.lp mref11TFormed n) n (sub [1, 1, 1, 1, 1, 1, 0, 1, 0, 0] ref11TFormed.body)) ref11TFormed.nml16 K s = loops n (Kd.struct (ref11TFormed.conM (Nat.succ mref11TFormed)).rs).T true 16 (evK (ref11TFormed.env mref11TFormed) (ref11TFormed.lp mref11TFormed n) n (sub [1, 1, 1, 1, 1, 1, 0, 1, 0, 0] ref11TFormed.body)) ref11TFormed.nml16 K s := by
  show (match ref11TFormed.shl16.dec s with | some v => ref11TFormed.l16 n (ref11TFormed n mref11TFormed) (fun w0 => K (.exit 1) (ref11TFormed.outl16e3.enc (w0, ()))) n v.1 v.2.1 v.2.2.1 v.2.2.2.1 v.2.2.2.2.1 v.2.2.2.2.2.1 v.2.2.2.2.2.2.1 v.2.2.2.2.2.2.2.1 v.2.2.2.2.2.2.2.2.1 v.2.2.2.2.2.2.2.2.2.1 v.2.2.2.2.2.2.2.2.2.2.1 v.2.2.2.2.2.2.2.2.2.2.2.1 v.2.2.2.2.2.2.2.2.2.2.2.2.1 v.2.2.2.2.2.2.2.2.2.2.2.2.2.1 v.2.2.2.2.2.2.2.2.2.2.2.2.2.2.1 | none => loops n (Kd.struct (ref11TFormed.conM (Nat.succ mref11TFormed)).rs).T true 16 (evK (ref11TFormed.env mref11TFormed) (ref11TFormed.lp mref11TFormed n) n (sub [1, 1, 1, 1, 1, 1, 0, 1, 0, 0] ref11TFormed.body)) ref11TFormed.nml16 K s) = _
  cases h : ref11TFormed.shl16.dec s with
  | none => rfl
  | some v =>
    rw [Shp.dec_enc h]
    exact (evLoop_eq (sh := ref11TFormed.shl16) (body := evK (ref11TFormed.env mref11TFormed) (ref11TFormed.lp mref11TFormed n) n (sub [1, 1, 1, 1, 1, 1, 0, 1, 0, 0] ref11TFormed.body)) (nm := ref11TFormed.nml16) (K := K) (b := fun nx v => ref11TFormed.b16 n (ref11TFormed n mref11TFormed) (fun x0 x1 x2 x3 x4 x5 x6 x7 x8 x9 x10 x11 x12 x13 x14 => nx (x0, x1, x2, x3, x4, x5, x6, x7, x8, x9, x10, x11, x12, x13, x14, ())) (fun w0 => K (.exit 1) (ref11TFormed.outl16e3.enc (w0, ()))) v.1 v.2.1 v.2.2.1 v.2.2.2.1 v.2.2.2.2.1 v.2.2.2.2.2.1 v.2.2.2.2.2.2.1 v.2.2.2.2.2.2.2.1 v.2.2.2.2.2.2.2.2.1 v.2.2.2.2.2.2.2.2.2.1 v.2.2.2.2.2.2.2.2.2.2.1 v.2.2.2.2.2.2.2.2.2.2.2.1 v.2.2.2.2.2.2.2.2.2.2.2.2.1 v.2.2.2.2.2.2.2.2.2.2.2.2.2.1 v.2.2.2.2.2.2.2.2.2.2.2.2.2.2.1) (l := fun m v => ref11TFormed.l16 n (ref11TFormed n mref11TFormed) (fun w0 => K (.exit 1) (ref11TFormed.outl16e3.enc (w0, ()))) m v.1 v.2.1 v.2.2.1 v.2.2.2.1 v.2.2.2.2.1 v.2.2.2.2.2.1 v.2.2.2.2.2.2.1 v.2.2.2.2.2.2.2.1 v.2.2.2.2.2.2.2.2.1 v.2.2.2.2.2.2.2.2.2.1 v.2.2.2.2.2.2.2.2.2.2.1 v.2.2.2.2.2.2.2.2.2.2.2.1 v.2.2.2.2.2.2.2.2.2.2.2.2.1 v.2.2.2.2.2.2.2.2.2.2.2.2.2.1 v.2.2.2.2.2.2.2.2.2.2.2.2.2.2.1) (fun _ => rfl) (fun _ _ => rfl) (fun m v => by kernel_rfl) n v).symm
theorem ref11TFormed.atj15 (mref11TFormed : Nat) (n : Nat) (s : St) (K : Ex → St → Option (Kd.struct (ref11TFormed.conM (Nat.succ mref11TFormed)).rs).T) : (ref11TFormed.lp mref11TFormed n) false 15 (evK (ref11TFormed.env mref11TFormed) (ref11TFormed.lp mref11TFormed n) n (sub [1, 1, 1, 1, 1, 1] ref11TFormed.body)) ref11TFormed.nmj15 K s = loops n (Kd.struct (ref11TFormed.conM (Nat.succ mref11TFormed)).rs).T false 15 (evK (ref11TFormed.env mref11TFormed) (ref11TFormed.lp mref11TFormed n) n (sub [1, 1, 1, 1, 1, 1] ref11TFormed.body)) ref11TFormed.nmj15 K s := by
  show (match ref11TFormed.shj15.dec s with | some v => ref11TFormed.j15 n (ref11TFormed n mref11TFormed) (fun w0 => K .ret (ref11TFormed.outj15e1.enc (w0, ()))) v.1 v.2.1 v.2.2.1 v.2.2.2.1 v.2.2.2.2.1 v.2.2.2.2.2.1 v.2.2.2.2.2.2.1 v.2.2.2.2.2.2.2.1 v.2.2.2.2.2.2.2.2.1 v.2.2.2.2.2.2.2.2.2.1 v.2.2.2.2.2.2.2.2.2.2.1 v.2.2.2.2.2.2.2.2.2.2.2.1 v.2.2.2.2.2.2.2.2.2.2.2.2.1 | none => loops n (Kd.struct (ref11TFormed.conM (Nat.succ mref11TFormed)).rs).T false 15 (evK (ref11TFormed.env mref11TFormed) (ref11TFormed.lp mref11TFormed n) n (sub [1, 1, 1, 1, 1, 1] ref11TFormed.body)) ref11TFormed.nmj15 K s) = _
  cases h : ref11TFormed.shj15.dec s with
  | none => rfl
  | some v =>
    rw [Shp.dec_enc h]
    kernel_rfl
theorem ref11TFormed.atj13 (mref11TFormed : Nat) (n : Nat) (s : St) (K : Ex → St → Option (Kd.struct (ref11TFormed.conM (Nat.succ mref11TFormed)).rs).T) : (ref11TFormed.lp mref11TFormed n) false 13 (evK (ref11TFormed.env mref11TFormed) (ref11TFormed.lp mref11TFormed n) n (sub [1, 1, 1, 1, 1] ref11TFormed.body)) ref11TFormed.nmj13 K s = loops n (Kd.struct (ref11TFormed.conM (Nat.succ mref11TFormed)).rs).T false 13 (evK (ref11TFormed.env mref11TFormed) (ref11TFormed.lp mref11TFormed n) n (sub [1, 1, 1, 1, 1] ref11TFormed.body)) ref11TFormed.nmj13 K s := by
  show (match ref11TFormed.shj13.dec s with | some v => ref11TFormed.j13 n (ref11TFormed n mref11TFormed) (fun w0 => K .ret (ref11TFormed.outj13e1.enc (w0, ()))) v.1 v.2.1 v.2.2.1 v.2.2.2.1 v.2.2.2.2.1 v.2.2.2.2.2.1 v.2.2.2.2.2.2.1 v.2.2.2.2.2.2.2.1 v.2.2.2.2.2.2.2.2.1 v.2.2.2.2.2.2.2.2.2.1 v.2.2.2.2.2.2.2.2.2.2.1 v.2.2.2.2.2.2.2.2.2.2.2.1 v.2.2.2.2.2.2.2.2.2.2.2.2.1 v.2.2.2.2.2.2.2.2.2.2.2.2.2.1 | none => loops n (Kd.struct (ref11TFormed.conM (Nat.succ mref11TFormed)).rs).T false 13 (evK (ref11TFormed.env mref11TFormed) (ref11TFormed.lp mref11TFormed n) n (sub [1, 1, 1, 1, 1] ref11TFormed.body)) ref11TFormed.nmj13 K s) = _
  cases h : ref11TFormed.shj13.dec s with
  | none => rfl
  | some v =>
    rw [Shp.dec_enc h]
    kernel_rfl
theorem ref11TFormed.eq (mref11TFormed : Nat) (n : Nat) (x : (Kd.struct (ref11TFormed.conM (Nat.succ mref11TFormed)).ps).T) : evFunc (ref11TFormed.env mref11TFormed) Try.f68 ref11TFormed.body (ref11TFormed.conM (Nat.succ mref11TFormed)).ps (ref11TFormed.conM (Nat.succ mref11TFormed)).rs (ref11TFormed.lp mref11TFormed n) n x = (ref11TFormed.conM (Nat.succ mref11TFormed)).f n x := by kernel_rfl
theorem ref11TFormed.step (mref11TFormed : Nat) (ihref11TFormed : Sound Try.prog globs 68 (ref11TFormed.conM mref11TFormed)) : Sound Try.prog globs 68 (ref11TFormed.conM (Nat.succ mref11TFormed)) :=
  sound_by (E := (ref11TFormed.env mref11TFormed)) (c := ref11TFormed.body) (envOk (G := globs) (lc := [(111, ref11None.con), (68, (ref11TFormed.conM mref11TFormed))]) (lo := []) (envB_spec (by kernel_rfl)) rfl rfl ⟨.inl ⟨ref11None.sound, by kernel_rfl⟩, ⟨.inl ⟨ihref11TFormed, by kernel_rfl⟩, trivial⟩⟩ rfl trivial (by kernel_rfl) (by kernel_rfl)) Try.func68 (by kernel_rfl) (ref11TFormed.lp mref11TFormed) (l := [(true, sub [1, 1, 1, 1, 1, 1, 0, 1, 0, 0] ref11TFormed.body, ref11TFormed.nml16), (false, sub [1, 1, 1, 1, 1, 1] ref11TFormed.body, ref11TFormed.nmj15), (false, sub [1, 1, 1, 1, 1] ref11TFormed.body, ref11TFormed.nmj13)]) (by kernel_rfl) (fun n => ⟨ref11TFormed.atl16 mref11TFormed n, ⟨ref11TFormed.atj15 mref11TFormed n, ⟨ref11TFormed.atj13 mref11TFormed n, trivial⟩⟩⟩) (ref11TFormed.eq mref11TFormed)
theorem ref11TFormed.soundM (m : Nat) : Sound Try.prog globs 68 (ref11TFormed.conM m) := by
  induction m with
  | zero => intro n x r h; cases (show none = some r from h)
  | succ m ih => exact ref11TFormed.step m ih
theorem ref11TFormed.sound : Sound Try.prog globs 68 ref11TFormed.con :=
  sound_fuel (ps := [(.tre kS6)]) (rs := [.bool]) (F := fun n m x => ref11TFormed n m x.1) (ref11TFormed.soundM)
noncomputable def ref04May.j4 (fu : Nat) (k1 : Bool → Option (Bool × Unit)) (whole : Bool) (point : Bool) (text : Bool) (b0 : S1) : Option (Bool × Unit) :=
  let t1 := decide (b0.1 < (4 : Int))
  cond t1 (
    cond whole (
      cond point (
        cond text (
          let t2 := (b0.2.2.2.1.length : Int)
          let t3 := decide (t2 ≤ (255 : Int))
          k1 t3) (
          k1 false)) (
        k1 false)) (
      k1 false)) (
    k1 false)
noncomputable def ref04May.j3 (fu : Nat) (k1 : Bool → Option (Bool × Unit)) (whole : Bool) (point : Bool) (b0 : S1) : Option (Bool × Unit) :=
  let t1 := b0.2.2.2.1 == ([] : List Int)
  cond t1 (
    ref04May.j4 fu (fun vq3 => 
        k1 vq3) whole point true b0) (
    ref04May.j4 fu (fun vq4 => 
        k1 vq4) whole point (b0.1 == (3 : Int)) b0)
noncomputable def ref04May.j2 (fu : Nat) (k1 : Bool → Option (Bool × Unit)) (whole : Bool) (b0 : S1) : Option (Bool × Unit) :=
  (extBits.f fu (b0.2.2.1, ())).bind fun r1 =>
  cond (r1.1 == (0 : Int)) (
    ref04May.j3 fu (fun vq5 => 
        k1 vq5) whole true b0) (
    ref04May.j3 fu (fun vq6 => 
        k1 vq6) whole (b0.1 == (2 : Int)) b0)
noncomputable def ref04May (fu : Nat) (v : S1) : Option (Bool × Unit) :=
  cond (v.2.1 == (0 : Int)) (
    ref04May.j2 fu (fun vq1 => 
        some (vq1, ())) true v) (
    ref04May.j2 fu (fun vq2 => 
        some (vq2, ())) (v.1 == (1 : Int)) v)

noncomputable def ref04May.body : Code := Try.f60.body.getD .skip
abbrev ref04May.shj4 : Shp := ⟨[.u, .p 0 0, .u, .d .bool, .d .bool, .d .bool, .u, .u, .u, .u, .u, .u, .u, .u, .u, .u, .u, .u, .u, .u, .u, .u, .u, .u, .u, .u, .u, .u, .u, .u, .u, .u, .u, .u, .u, .u, .u, .u, .u, .u, .u, .u, .u, .u, .u, .u, .u, .u, .u], [.c [.g kS1]]⟩
abbrev ref04May.outj4e1 : Shp := ⟨[.u, .u, .d .bool, .u, .u, .u, .u, .u, .u, .u, .u, .u, .u, .u, .u, .u, .u, .u, .u, .u, .u, .u, .u, .u, .u, .u, .u, .u, .u, .u, .u, .u, .u, .u, .u, .u, .u, .u, .u, .u, .u, .u, .u, .u, .u, .u, .u, .u, .u], []⟩
noncomputable def ref04May.nmj4 : Norm := ⟨{ keep := [1, 3, 4, 5], shut := [(3, .bool), (4, .bool), (5, .bool)], retag := [], heap := 1, dead := [], cshut := [(0, 0, (.int .u8)), (0, 1, (.int .i64)), (0, 2, .flt), (0, 3, .str)], cretag := [] }, [(1, { keep := [2], shut := [(2, .bool)], retag := [], heap := 0, dead := [], cshut := [], cretag := [] })]⟩
abbrev ref04May.shj3 : Shp := ⟨[.u, .p 0 0, .u, .d .bool, .d .bool, .u, .u, .u, .u, .u, .u, .u, .u, .u, .u, .u, .u, .u, .u, .u, .u, .u, .u, .u, .u, .u, .u, .u, .u, .u, .u, .u, .u, .u, .u, .u, .u, .u, .u, .u, .u, .u, .u, .u, .u, .u, .u, .u, .u], [.c [.g kS1]]⟩
abbrev ref04May.outj3e1 : Shp := ⟨[.u, .u, .d .bool, .u, .u, .u, .u, .u, .u, .u, .u, .u, .u, .u, .u, .u, .u, .u, .u, .u, .u, .u, .u, .u, .u, .u, .u, .u, .u, .u, .u, .u, .u, .u, .u, .u, .u, .u, .u, .u, .u, .u, .u, .u, .u, .u, .u, .u, .u], []⟩
noncomputable def ref04May.nmj3 : Norm := ⟨{ keep := [1, 3, 4], shut := [(3, .bool), (4, .bool)], retag := [], heap := 1, dead := [], cshut := [(0, 0, (.int .u8)), (0, 1, (.int .i64)), (0, 2, .flt), (0, 3, .str)], cretag := [] }, [(1, { keep := [2], shut := [(2, .bool)], retag := [], heap := 0, dead := [], cshut := [], cretag := [] })]⟩
abbrev ref04May.shj2 : Shp := ⟨[.u, .p 0 0, .u, .d .bool, .u, .u, .u, .u, .u, .u, .u, .u, .u, .u, .u, .u, .u, .u, .u, .u, .u, .u, .u, .u, .u, .u, .u, .u, .u, .u, .u, .u, .u, .u, .u, .u, .u, .u, .u, .u, .u, .u, .u, .u, .u, .u, .u, .u, .u], [.c [.g kS1]]⟩
abbrev ref04May.outj2e1 : Shp := ⟨[.u, .u, .d .bool, .u, .u, .u, .u, .u, .u, .u, .u, .u, .u, .u, .u, .u, .u, .u, .u, .u, .u, .u, .u, .u, .u, .u, .u, .u, .u, .u, .u, .u, .u, .u, .u, .u, .u, .u, .u, .u, .u, .u, .u, .u, .u, .u, .u, .u, .u], []⟩
noncomputable def ref04May.nmj2 : Norm := ⟨{ keep := [1, 3], shut := [(3, .bool)], retag := [], heap := 1, dead := [], cshut := [(0, 0, (.int .u8)), (0, 1, (.int .i64)), (0, 2, .flt), (0, 3, .str)], cretag := [] }, [(1, { keep := [2], shut := [(2, .bool)], retag := [], heap := 0, dead := [], cshut := [], cretag := [] })]⟩
noncomputable def ref04May.con : Con := { ps := [kS1], rs := [.bool], f := fun n x => ref04May n x.1 }
noncomputable def ref04May.env : Env := { tys := [(34, ⟨kS1, 40⟩), (4, ⟨.bool, 1⟩), (2, ⟨(.int .i64), 8⟩), (5, ⟨(.int .u8), 1⟩), (32, ⟨.flt, 8⟩), (9, ⟨.str, 16⟩)], elems := [], ptrs := [], cons := [(92, extBits)], objs := [], loops := [], cuts := [(4, ref04May.nmj4), (3, ref04May.nmj3), (2, ref04May.nmj2)], globs := globs, base := 0 }
noncomputable def ref04May.lp (n : Nat) : LP (Kd.struct ref04May.con.rs).T := fun lo κ body nm K s =>
  cond (!lo && Nat.beq κ 4)
    (match ref04May.shj4.dec s with
    | some v => ref04May.j4 n (fun w0 => K .ret (ref04May.outj4e1.enc (w0, ()))) v.1 v.2.1 v.2.2.1 v.2.2.2.1
    | none => loops n (Kd.struct ref04May.con.rs).T lo κ body nm K s)
    (cond (!lo && Nat.beq κ 3)
    (match ref04May.shj3.dec s with
    | some v => ref04May.j3 n (fun w0 => K .ret (ref04May.outj3e1.enc (w0, ()))) v.1 v.2.1 v.2.2.1
    | none => loops n (Kd.struct ref04May.con.rs).T lo κ body nm K s)
    (cond (!lo && Nat.beq κ 2)
    (match ref04May.shj2.dec s with
    | some v => ref04May.j2 n (fun w0 => K .ret (ref04May.outj2e1.enc (w0, ()))) v.1 v.2.1
    | none => loops n (Kd.struct ref04May.con.rs).T lo κ body nm K s)
    (loops n (Kd.struct ref04May.con.rs).T lo κ body nm K s)))
theorem ref04May.atj4 (n : Nat) (s : St) (K : Ex → St → Option (Kd.struct ref04May.con.rs).T) : (ref04May.lp n) false 4 (evK ref04May.env (ref04May.lp n) n (sub [1, 1, 1, 1] ref04May.body)) ref04May.nmj4 K s = loops n (Kd.struct ref04May.con.rs).T false 4 (evK ref04May.env (ref04May.lp n) n (sub [1, 1, 1, 1] ref04May.body)) ref04May.nmj4 K s := by
  show (match ref04May.shj4.dec s with | some v => ref04May.j4 n (fun w0 => K .ret (ref04May.outj4e1.enc (w0, ()))) v.1 v.2.1 v.2.2.1 v.2.2.2.1 | none => loops n (Kd.struct ref04May.con.rs).T false 4 (evK ref04May.env (ref04May.lp n) n (sub [1, 1, 1, 1] ref04May.body)) ref04May.nmj4 K s) = _
  cases h : ref04May.shj4.dec s with
  | none => rfl
  | some v =>
    rw [Shp.dec_enc h]
    kernel_rfl
theorem ref04May.atj3 (n : Nat) (s : St) (K : Ex → St → Option (Kd.struct ref04May.con.rs).T) : (ref04May.lp n) false 3 (evK ref04May.env (ref04May.lp n) n (sub [1, 1, 1] ref04May.body)) ref04May.nmj3 K s = loops n (Kd.struct ref04May.con.rs).T false 3 (evK ref04May.env (ref04May.lp n) n (sub [1, 1, 1] ref04May.body)) ref04May.nmj3 K s := by
  show (match ref04May.shj3.dec s with | some v => ref04May.j3 n (fun w0 => K .ret (ref04May.outj3e1.enc (w0, ()))) v.1 v.2.1 v.2.2.1 | none => loops n (Kd.struct ref04May.con.rs).T false 3 (evK ref04May.env (ref04May.lp n) n (sub [1, 1, 1] ref04May.body)) ref04May.nmj3 K s) = _
  cases h : ref04May.shj3.dec s with
  | none => rfl
  | some v =>
    rw [Shp.dec_enc h]
    kernel_rfl
theorem ref04May.atj2 (n : Nat) (s : St) (K : Ex → St → Option (Kd.struct ref04May.con.rs).T) : (ref04May.lp n) false 2 (evK ref04May.env (ref04May.lp n) n (sub [1, 1] ref04May.body)) ref04May.nmj2 K s = loops n (Kd.struct ref04May.con.rs).T false 2 (evK ref04May.env (ref04May.lp n) n (sub [1, 1] ref04May.body)) ref04May.nmj2 K s := by
  show (match ref04May.shj2.dec s with | some v => ref04May.j2 n (fun w0 => K .ret (ref04May.outj2e1.enc (w0, ()))) v.1 v.2.1 | none => loops n (Kd.struct ref04May.con.rs).T false 2 (evK ref04May.env (ref04May.lp n) n (sub [1, 1] ref04May.body)) ref04May.nmj2 K s) = _
  cases h : ref04May.shj2.dec s with
  | none => rfl
  | some v =>
    rw [Shp.dec_enc h]
    kernel_rfl
theorem ref04May.eq (n : Nat) (x : (Kd.struct ref04May.con.ps).T) : evFunc ref04May.env Try.f60 ref04May.body ref04May.con.ps ref04May.con.rs (ref04May.lp n) n x = ref04May.con.f n x := by kernel_rfl
theorem ref04May.sound : Sound Try.prog globs 60 ref04May.con :=
  sound_by (E := ref04May.env) (c := ref04May.body) (envOk (G := globs) (lc := [(92, extBits)]) (lo := []) (envB_spec (by kernel_rfl)) rfl rfl ⟨.inr (extBits_ok Try.func92 (by kernel_rfl) (by kernel_rfl) (by kernel_rfl) (by kernel_rfl)), trivial⟩ rfl trivial (by kernel_rfl) (by kernel_rfl)) Try.func60 (by kernel_rfl) ref04May.lp (l := [(false, sub [1, 1, 1, 1] ref04May.body, ref04May.nmj4), (false, sub [1, 1, 1] ref04May.body, ref04May.nmj3), (false, sub [1, 1] ref04May.body, ref04May.nmj2)]) (by kernel_rfl) (fun n => ⟨ref04May.atj4 n, ⟨ref04May.atj3 n, ⟨ref04May.atj2 n, trivial⟩⟩⟩) ref04May.eq
noncomputable def ref10Right (fu : Nat) (tv : S2) : Option (Bool × Unit) :=
  let t1 := decide (tv.2.1 < (1 : Int))
  cond t1 (
    some (false, ())) (
    let t2 := decide (tv.2.1 > (8 : Int))
    cond t2 (
      some (false, ())) (
      (ref04May fu tv.2.2.1).bind fun r3 =>
      cond (!r3.1) (
        some (false, ())) (
        cond (tv.2.1 == (7 : Int)) (
          some (tv.2.2.1.1 == (0 : Int), ())) (
          cond (tv.2.1 == (8 : Int)) (
            some (tv.2.2.1.1 == (3 : Int), ())) (
            some (tv.2.2.1.1 != (0 : Int), ()))))))

noncomputable def ref10Right.body : Code := Try.f112.body.getD .skip
noncomputable def ref10Right.con : Con := { ps := [kS2], rs := [.bool], f := fun n x => ref10Right n x.1 }
noncomputable def ref10Right.env : Env := { tys := [(88, ⟨kS2, 48⟩), (4, ⟨.bool, 1⟩), (5, ⟨(.int .u8), 1⟩), (34, ⟨kS1, 40⟩)], elems := [], ptrs := [], cons := [(60, ref04May.con)], objs := [], loops := [], cuts := [], globs := globs, base := 0 }
noncomputable def ref10Right.lp (n : Nat) : LP (Kd.struct ref10Right.con.rs).T := fun lo κ body nm K s =>
  loops n (Kd.struct ref10Right.con.rs).T lo κ body nm K s
theorem ref10Right.eq (n : Nat) (x : (Kd.struct ref10Right.con.ps).T) : evFunc ref10Right.env Try.f112 ref10Right.body ref10Right.con.ps ref10Right.con.rs (ref10Right.lp n) n x = ref10Right.con.f n x := by kernel_rfl
theorem ref10Right.sound : Sound Try.prog globs 112 ref10Right.con :=
  sound_by (E := ref10Right.env) (c := ref10Right.body) (envOk (G := globs) (lc := [(60, ref04May.con)]) (lo := []) (envB_spec (by kernel_rfl)) rfl rfl ⟨.inl ⟨ref04May.sound, by kernel_rfl⟩, trivial⟩ rfl trivial (by kernel_rfl) (by kernel_rfl)) Try.func112 (by kernel_rfl) ref10Right.lp (l := []) (by kernel_rfl) (fun n => trivial) ref10Right.eq
noncomputable def ref10May.b2 (fu : Nat) (next : Int → Int → S3 → Option (Bool × Unit)) (k1 : Bool → Option (Bool × Unit)) (k2 : S3 → Option (Bool × Unit)) (v : Int) (vx2 : Int) (b0 : S3) : Option (Bool × Unit) :=
  cond (decide (vx2 < v)) (
    chk (ixOk b0.2.2.1 vx2) <|
    let e1 := ixL ((0 : Int), (0 : Int), ((0 : Int), (0 : Int), (0 : Nat), [], ()), ()) b0.2.2.1 vx2
    (ref10Right fu e1).bind fun r2 =>
    cond (!r2.1) (
      k1 false) (
      let t3 := IntKind.i64.wrap (vx2 + (1 : Int))
      next v t3 b0)) (
    k2 b0)
noncomputable def ref10May.l2 (fu : Nat) (k1 : Bool → Option (Bool × Unit)) (k2 : S3 → Option (Bool × Unit)) : Nat → Int → Int → S3 → Option (Bool × Unit)
  | 0, _, _, _ => none
  | m + 1, v, vx2, b0 => ref10May.b2 fu (ref10May.l2 fu k1 k2 m) k1 k2 v vx2 b0
noncomputable def ref10May (fu : Nat) (p : S3) : Option (Bool × Unit) :=
  ref10May.l2 fu (fun vq3 => 
      some (vq3, ())) (fun b0q4 => 
      let t1 := (b0q4.2.2.1.length : Int)
      cond (decide (t1 ≤ (4 : Int))) (
        cond b0q4.1 (
          some (!(b0q4.2.1 != (0 : Int)), ())) (
          some (true, ()))) (
        some (false, ()))) fu (p.2.2.1.length : Int) (0 : Int) p

noncomputable def ref10May.body : Code := Try.f69.body.getD .skip
abbrev ref10May.shl2 : Shp := ⟨[.u, .p 0 0, .u, .u, .u, .u, .d (.int .i64), .d (.int .i64), .u, .u, .u, .u, .u, .u, .u, .u, .u, .u, .u, .u, .u, .u, .u, .u, .u, .u, .u, .u, .u, .u, .u, .u], [.c [.g kS3]]⟩
abbrev ref10May.outl2e1 : Shp := ⟨[.u, .u, .d .bool, .u, .u, .u, .u, .u, .u, .u, .u, .u, .u, .u, .u, .u, .u, .u, .u, .u, .u, .u, .u, .u, .u, .u, .u, .u, .u, .u, .u, .u], []⟩
abbrev ref10May.outl2e2 : Shp := ⟨[.u, .p 0 0, .u, .u, .u, .u, .u, .u, .u, .u, .u, .u, .u, .u, .u, .u, .u, .u, .u, .u, .u, .u, .u, .u, .u, .u, .u, .u, .u, .u, .u, .u], [.c [.g kS3]]⟩
noncomputable def ref10May.nml2 : Norm := ⟨{ keep := [1, 6, 7], shut := [(6, (.int .i64)), (7, (.int .i64))], retag := [], heap := 1, dead := [], cshut := [(0, 0, .bool), (0, 1, (.int .u8)), (0, 2, (.slice kS2))], cretag := [] }, [(1, { keep := [2], shut := [(2, .bool)], retag := [], heap := 0, dead := [], cshut := [], cretag := [] }), (2, { keep := [1], shut := [], retag := [], heap := 1, dead := [], cshut := [(0, 0, .bool), (0, 1, (.int .u8)), (0, 2, (.slice kS2))], cretag := [] })]⟩
noncomputable def ref10May.con : Con := { ps := [kS3], rs := [.bool], f := fun n x => ref10May n x.1 }
noncomputable def ref10May.env : Env := { tys := [(75, ⟨kS3, 32⟩), (4, ⟨.bool, 1⟩), (73, ⟨(.slice kS2), 24⟩), (88, ⟨kS2, 48⟩), (3, ⟨(.int .i64), 8⟩), (5, ⟨(.int .u8), 1⟩)], elems := [(73, 88)], ptrs := [], cons := [(112, ref10Right.con)], objs := [], loops := [(2, ref10May.nml2)], cuts := [], globs := globs, base := 0 }
noncomputable def ref10May.lp (n : Nat) : LP (Kd.struct ref10May.con.rs).T := fun lo κ body nm K s =>
  cond (lo && Nat.beq κ 2)
    (match ref10May.shl2.dec s with
    | some v => ref10May.l2 n (fun w0 => K .ret (ref10May.outl2e1.enc (w0, ()))) (fun w0 => K (.exit 0) (ref10May.outl2e2.enc (w0, ()))) n v.1 v.2.1 v.2.2.1
    | none => loops n (Kd.struct ref10May.con.rs).T lo κ body nm K s)
    (loops n (Kd.struct ref10May.con.rs).T lo κ body nm K s)
theorem ref10May.atl2 (n : Nat) (s : St) (K : Ex → St → Option (Kd.struct ref10May.con.rs).T) : (ref10May.lp n) true 2 (evK ref10May.env (ref10May.lp n) n (sub [1, 0, 1, 0, 0] ref10May.body)) ref10May.nml2 K s = loops n (Kd.struct ref10May.con.rs).T true 2 (evK ref10May.env (ref10May.lp n) n (sub [1, 0, 1, 0, 0] ref10May.body)) ref10May.nml2 K s := by
  show (match ref10May.shl2.dec s with | some v => ref10May.l2 n (fun w0 => K .ret (ref10May.outl2e1.enc (w0, ()))) (fun w0 => K (.exit 0) (ref10May.outl2e2.enc (w0, ()))) n v.1 v.2.1 v.2.2.1 | none => loops n (Kd.struct ref10May.con.rs).T true 2 (evK ref10May.env (ref10May.lp n) n (sub [1, 0, 1, 0, 0] ref10May.body)) ref10May.nml2 K s) = _
  cases h : ref10May.shl2.dec s with
  | none => rfl
  | some v =>
    rw [Shp.dec_enc h]
    exact (evLoop_eq (sh := ref10May.shl2) (body := evK ref10May.env (ref10May.lp n) n (sub [1, 0, 1, 0, 0] ref10May.body)) (nm := ref10May.nml2) (K := K) (b := fun nx v => ref10May.b2 n (fun x0 x1 x2 => nx (x0, x1, x2, ())) (fun w0 => K .ret (ref10May.outl2e1.enc (w0, ()))) (fun w0 => K (.exit 0) (ref10May.outl2e2.enc (w0, ()))) v.1 v.2.1 v.2.2.1) (l := fun m v => ref10May.l2 n (fun w0 => K .ret (ref10May.outl2e1.enc (w0, ()))) (fun w0 => K (.exit 0) (ref10May.outl2e2.enc (w0, ()))) m v.1 v.2.1 v.2.2.1) (fun _ => rfl) (fun _ _ => rfl) (fun m v => by kernel_rfl) n v).symm
theorem ref10May.eq (n : Nat) (x : (Kd.struct ref10May.con.ps).T) : evFunc ref10May.env Try.f69 ref10May.body ref10May.con.ps ref10May.con.rs (ref10May.lp n) n x = ref10May.con.f n x := by kernel_rfl
theorem ref10May.sound : Sound Try.prog globs 69 ref10May.con :=
  sound_by (E := ref10May.env) (c := ref10May.body) (envOk (G := globs) (lc := [(112, ref10Right.con)]) (lo := []) (envB_spec (by kernel_rfl)) rfl rfl ⟨.inl ⟨ref10Right.sound, by kernel_rfl⟩, trivial⟩ rfl trivial (by kernel_rfl) (by kernel_rfl)) Try.func69 (by kernel_rfl) ref10May.lp (l := [(true, sub [1, 0, 1, 0, 0] ref10May.body, ref10May.nml2)]) (by kernel_rfl) (fun n => ⟨ref10May.atl2 n, trivial⟩) ref10May.eq
noncomputable def ref11TDepth.b3 (fu : Nat) (Sref11TDepth : (Tr S6) → Option (Int × Unit)) (next : Int → Int → Int → Int → Bool → Int → (List S2) → Bool → Bool → Int → (List S2) → Int → Int → Int → (List (Tr S6)) → Option (Int × Unit)) (k2 : Int → Option (Int × Unit)) (n : Int) (v : Int) (vx2 : Int) (c0 : Int) (c0x2 : Bool) (c0x3 : Int) (c0x4 : List S2) (c0x5 : Bool) (c0x6 : Bool) (c0x7 : Int) (c0x8 : List S2) (c0x9 : Int) (c0x10 : Int) (c0x11 : Int) (c0x12 : List (Tr S6)) : Option (Int × Unit) :=
  cond (decide (vx2 < v)) (
    chk (ixOk c0x12 vx2) <|
    let e1 := ixL (Tr.mk ((0 : Int), (false, (0 : Int), [], ()), false, (false, (0 : Int), [], ()), (0 : Int), (0 : Int), (0 : Int), ()) []) c0x12 vx2
    (Sref11TDepth e1).bind fun r2 =>
    let t3 := IntKind.i64.wrap ((1 : Int) + r2.1)
    let t4 := IntKind.i64.wrap (vx2 + (1 : Int))
    next (max2 n t3) v t4 c0 c0x2 c0x3 c0x4 c0x5 c0x6 c0x7 c0x8 c0x9 c0x10 c0x11 c0x12) (
    k2 n)
noncomputable def ref11TDepth.l3 (fu : Nat) (Sref11TDepth : (Tr S6) → Option (Int × Unit)) (k2 : Int → Option (Int × Unit)) : Nat → Int → Int → Int → Int → Bool → Int → (List S2) → Bool → Bool → Int → (List S2) → Int → Int → Int → (List (Tr S6)) → Option (Int × Unit)
  | 0, _, _, _, _, _, _, _, _, _, _, _, _, _, _, _ => none
  | m + 1, n, v, vx2, c0, c0x2, c0x3, c0x4, c0x5, c0x6, c0x7, c0x8, c0x9, c0x10, c0x11, c0x12 => ref11TDepth.b3 fu Sref11TDepth (ref11TDepth.l3 fu Sref11TDepth k2 m) k2 n v vx2 c0 c0x2 c0x3 c0x4 c0x5 c0x6 c0x7 c0x8 c0x9 c0x10 c0x11 c0x12
noncomputable def ref11TDepth.bd (fu : Nat) (Sref11TDepth : (Tr S6) → Option (Int × Unit)) (tv : Tr S6) : Option (Int × Unit) :=
  ref11TDepth.l3 fu Sref11TDepth (fun nq2 => 
      some (nq2, ())) fu (0 : Int) (tv.sub.length : Int) (0 : Int) tv.val.1 tv.val.2.1.1 tv.val.2.1.2.1 tv.val.2.1.2.2.1 tv.val.2.2.1 tv.val.2.2.2.1.1 tv.val.2.2.2.1.2.1 tv.val.2.2.2.1.2.2.1 tv.val.2.2.2.2.1 tv.val.2.2.2.2.2.1 tv.val.2.2.2.2.2.2.1 tv.sub
noncomputable def ref11TDepth (fu : Nat) (m : Nat) : (Tr S6) → Option (Int × Unit) :=
  Nat.rec (fun _ => none) (fun _ Sref11TDepth => ref11TDepth.bd fu Sref11TDepth) m

noncomputable def ref11TDepth.conM (m : Nat) : Con := { ps := [(.tre kS6)], rs := [(.int .i64)], f := fun n x => ref11TDepth n m x.1 }
noncomputable def ref11TDepth.con : Con := { ps := [(.tre kS6)], rs := [(.int .i64)], f := fun n x => ref11TDepth n n x.1 }
noncomputable def ref11TDepth.body : Code := Try.f38.body.getD .skip
abbrev ref11TDepth.shl3 : Shp := ⟨[.u, .p 0 0, .u, .d (.int .i64), .u, .u, .u, .d (.int .i64), .d (.int .i64), .u, .u, .u, .u, .u, .u, .u, .u, .u, .u, .u, .u, .u], [.c [.d (.int .u8), .d .bool, .d (.int .u8), .d (.slice kS2), .d .bool, .d .bool, .d (.int .u8), .d (.slice kS2), .d (.int .u8), .d (.int .u8), .d (.int .i64), .d (.slice (.tre kS6))]]⟩
abbrev ref11TDepth.outl3e2 : Shp := ⟨[.u, .u, .u, .d (.int .i64), .u, .u, .u, .u, .u, .u, .u, .u, .u, .u, .u, .u, .u, .u, .u, .u, .u, .u], []⟩
noncomputable def ref11TDepth.nml3 : Norm := ⟨{ keep := [1, 3, 7, 8], shut := [(3, (.int .i64)), (7, (.int .i64)), (8, (.int .i64))], retag := [], heap := 1, dead := [], cshut := [(0, 0, (.int .u8)), (0, 1, .bool), (0, 2, (.int .u8)), (0, 3, (.slice kS2)), (0, 4, .bool), (0, 5, .bool), (0, 6, (.int .u8)), (0, 7, (.slice kS2)), (0, 8, (.int .u8)), (0, 9, (.int .u8)), (0, 10, (.int .i64)), (0, 11, (.slice (.tre kS6)))], cretag := [] }, [(2, { keep := [3], shut := [(3, (.int .i64))], retag := [], heap := 0, dead := [], cshut := [], cretag := [] })]⟩
noncomputable def ref11TDepth.env (mref11TDepth : Nat) : Env := { tys := [(80, ⟨(.tre kS6), 120⟩), (3, ⟨(.int .i64), 8⟩), (78, ⟨(.slice (.tre kS6)), 24⟩)], elems := [(78, 80)], ptrs := [], cons := [(38, (ref11TDepth.conM mref11TDepth))], objs := [], loops := [(3, ref11TDepth.nml3)], cuts := [], globs := globs, base := 0 }
noncomputable def ref11TDepth.lp (mref11TDepth : Nat) (n : Nat) : LP (Kd.struct (ref11TDepth.conM (Nat.succ mref11TDepth)).rs).T := fun lo κ body nm K s =>
  cond (lo && Nat.beq κ 3)
    (match ref11TDepth.shl3.dec s with
    | some v => ref11TDepth.l3 n (ref11TDepth n mref11TDepth) (fun w0 => K (.exit 0) (ref11TDepth.outl3e2.enc (w0, ()))) n v.1 v.2.1 v.2.2.1 v.2.2.2.1 v.2.2.2.2.1 v.2.2.2.2.2.1 v.2.2.2.2.2.2.1 v.2.2.2.2.2.2.2.1 v.2.2.2.2.2.2.2.2.1 v.2.2.2.2.2.2.2.2.2.1 v.2.2.2.2.2.2.2.2.2.2.1 v.2.2.2.2.2.2.2.2.2.2.2.1 v.2.2.2.2.2.2.2.2.2.2.2.2.1 v.2.2.2.2.2.2.2.2.2.2.2.2.2.1 v.2.2.2.2.2.2.2.2.2.2.2.2.2.2.1
    | none => loops n (Kd.struct (ref11TDepth.conM (Nat.succ mref11TDepth)).rs).T lo κ body nm K s)
    (loops n (Kd.struct (ref11TDepth.conM (Nat.succ mref11TDepth)).rs).T lo κ body nm K s)
theorem ref11TDepth.atl3 (mref11TDepth : Nat) (n : Nat) (s : St) (K : Ex → St → Option (Kd.struct (ref11TDepth.conM (Nat.succ mref11TDepth)).rs).T) : (ref11TDepth.lp mref11TDepth n) true 3 (evK (ref11TDepth.env mref11TDepth) (ref11TDepth.lp mref11TDepth n) n (sub [1, 1, 0, 1, 0, 0] ref11TDepth.body)) ref11TDepth.nml3 K s = loops n (Kd.struct (ref11TDepth.conM (Nat.succ mref11TDepth)).rs).T true 3 (evK (ref11TDepth.env mref11TDepth) (ref11TDepth.lp mref11TDepth n) n (sub [1, 1, 0, 1, 0, 0] ref11TDepth.body)) ref11TDepth.nml3 K s := by
  show (match ref11TDepth.shl3.dec s with | some v => ref11TDepth.l3 n (ref11TDepth n mref11TDepth) (fun w0 => K (.exit 0) (ref11TDepth.outl3e2.enc (w0, ()))) n v.1 v.2.1 v.2.2.1 v.2.2.2.1 v.2.2.2.2.1 v.2.2.2.2.2.1 v.2.2.2.2.2.2.1 v.2.2.2.2.2.2.2.1 v.2.2.2.2.2.2.2.2.1 v.2.2.2.2.2.2.2.2.2.1 v.2.2.2.2.2.2.2.2.2.2.1 v.2.2.2.2.2.2.2.2.2.2.2.1 v.2.2.2.2.2.2.2.2.2.2.2.2.1 v.2.2.2.2.2.2.2.2.2.2.2.2.2.1 v.2.2.2.2.2.2.2.2.2.2.2.2.2.2.1 | none => loops n (Kd.struct (ref11TDepth.conM (Nat.succ mref11TDepth)).rs).T true 3 (evK (ref11TDepth.env mref11TDepth) (ref11TDepth.lp mref11TDepth n) n (sub [1, 1, 0, 1, 0, 0] ref11TDepth.body)) ref11TDepth.nml3 K s) = _
  cases h : ref11TDepth.shl3.dec s with
  | none => rfl
  | some v =>
    rw [Shp.dec_enc h]
    exact (evLoop_eq (sh := ref11TDepth.shl3) (body := evK (ref11TDepth.env mref11TDepth) (ref11TDepth.lp mref11TDepth n) n (sub [1, 1, 0, 1, 0, 0] ref11TDepth.body)) (nm := ref11TDepth.nml3) (K := K) (b := fun nx v => ref11TDepth.b3 n (ref11TDepth n mref11TDepth) (fun x0 x1 x2 x3 x4 x5 x6 x7 x8 x9 x10 x11 x12 x13 x14 => nx (x0, x1, x2, x3, x4, x5, x6, x7, x8, x9, x10, x11, x12, x13, x14, ())) (fun w0 => K (.exit 0) (ref11TDepth.outl3e2.enc (w0, ()))) v.1 v.2.1 v.2.2.1 v.2.2.2.1 v.2.2.2.2.1 v.2.2.2.2.2.1 v.2.2.2.2.2.2.1 v.2.2.2.2.2.2.2.1 v.2.2.2.2.2.2.2.2.1 v.2.2.2.2.2.2.2.2.2.1 v.2.2.2.2.2.2.2.2.2.2.1 v.2.2.2.2.2.2.2.2.2.2.2.1 v.2.2.2.2.2.2.2.2.2.2.2.2.1 v.2.2.2.2.2.2.2.2.2.2.2.2.2.1 v.2.2.2.2.2.2.2.2.2.2.2.2.2.2.1) (l := fun m v => ref11TDepth.l3 n (ref11TDepth n mref11TDepth) (fun w0 => K (.exit 0) (ref11TDepth.outl3e2.enc (w0, ()))) m v.1 v.2.1 v.2.2.1 v.2.2.2.1 v.2.2.2.2.1 v.2.2.2.2.2.1 v.2.2.2.2.2.2.1 v.2.2.2.2.2.2.2.1 v.2.2.2.2.2.2.2.2.1 v.2.2.2.2.2.2.2.2.2.1 v.2.2.2.2.2.2.2.2.2.2.1 v.2.2.2.2.2.2.2.2.2.2.2.1 v.2.2.2.2.2.2.2.2.2.2.2.2.1 v.2.2.2.2.2.2.2.2.2.2.2.2.2.1 v.2.2.2.2.2.2.2.2.2.2.2.2.2.2.1) (fun _ => rfl) (fun _ _ => rfl) (fun m v => by kernel_rfl) n v).symm
theorem ref11TDepth.eq (mref11TDepth : Nat) (n : Nat) (x : (Kd.struct (ref11TDepth.conM (Nat.succ mref11TDepth)).ps).T) : evFunc (ref11TDepth.env mref11TDepth) Try.f38 ref11TDepth.body (ref11TDepth.conM (Nat.succ mref11TDepth)).ps (ref11TDepth.conM (Nat.succ mref11TDepth)).rs (ref11TDepth.lp mref11TDepth n) n x = (ref11TDepth.conM (Nat.succ mref11TDepth)).f n x := by kernel_rfl
theorem ref11TDepth.step (mref11TDepth : Nat) (ihref11TDepth : Sound Try.prog globs 38 (ref11TDepth.conM mref11TDepth)) : Sound Try.prog globs 38 (ref11TDepth.conM (Nat.succ mref11TDepth)) :=
  sound_by (E := (ref11TDepth.env mref11TDepth)) (c := ref11TDepth.body) (envOk (G := globs) (lc := [(38, (ref11TDepth.conM mref11TDepth))]) (lo := []) (envB_spec (by kernel_rfl)) rfl rfl ⟨.inl ⟨ihref11TDepth, by kernel_rfl⟩, trivial⟩ rfl trivial (by kernel_rfl) (by kernel_rfl)) Try.func38 (by kernel_rfl) (ref11TDepth.lp mref11TDepth) (l := [(true, sub [1, 1, 0, 1, 0, 0] ref11TDepth.body, ref11TDepth.nml3)]) (by kernel_rfl) (fun n => ⟨ref11TDepth.atl3 mref11TDepth n, trivial⟩) (ref11TDepth.eq mref11TDepth)
theorem ref11TDepth.soundM (m : Nat) : Sound Try.prog globs 38 (ref11TDepth.conM m) := by
  induction m with
  | zero => intro n x r h; cases (show none = some r from h)
  | succ m ih => exact ref11TDepth.step m ih
theorem ref11TDepth.sound : Sound Try.prog globs 38 ref11TDepth.con :=
  sound_fuel (ps := [(.tre kS6)]) (rs := [(.int .i64)]) (F := fun n m x => ref11TDepth n m x.1) (ref11TDepth.soundM)
noncomputable def ref11TPlaces.b5 (fu : Nat) (Sref11TPlaces : (Tr S6) → Option (Int × Unit)) (next : Int → Int → Int → Int → Bool → Int → (List S2) → Bool → Bool → Int → (List S2) → Int → Int → Int → (List (Tr S6)) → Option (Int × Unit)) (k2 : Int → Int → Bool → Int → (List S2) → Bool → Bool → Int → (List S2) → Int → Int → Int → (List (Tr S6)) → Option (Int × Unit)) (n : Int) (v : Int) (vx2 : Int) (c0 : Int) (c0x2 : Bool) (c0x3 : Int) (c0x4 : List S2) (c0x5 : Bool) (c0x6 : Bool) (c0x7 : Int) (c0x8 : List S2) (c0x9 : Int) (c0x10 : Int) (c0x11 : Int) (c0x12 : List (Tr S6)) : Option (Int × Unit) :=
  cond (decide (vx2 < v)) (
    chk (ixOk c0x12 vx2) <|
    let e1 := ixL (Tr.mk ((0 : Int), (false, (0 : Int), [], ()), false, (false, (0 : Int), [], ()), (0 : Int), (0 : Int), (0 : Int), ()) []) c0x12 vx2
    (Sref11TPlaces e1).bind fun r2 =>
    let t3 := IntKind.i64.wrap (n + r2.1)
    let t4 := IntKind.i64.wrap (vx2 + (1 : Int))
    next t3 v t4 c0 c0x2 c0x3 c0x4 c0x5 c0x6 c0x7 c0x8 c0x9 c0x10 c0x11 c0x12) (
    k2 n c0 c0x2 c0x3 c0x4 c0x5 c0x6 c0x7 c0x8 c0x9 c0x10 c0x11 c0x12)
noncomputable def ref11TPlaces.l5 (fu : Nat) (Sref11TPlaces : (Tr S6) → Option (Int × Unit)) (k2 : Int → Int → Bool → Int → (List S2) → Bool → Bool → Int → (List S2) → Int → Int → Int → (List (Tr S6)) → Option (Int × Unit)) : Nat → Int → Int → Int → Int → Bool → Int → (List S2) → Bool → Bool → Int → (List S2) → Int → Int → Int → (List (Tr S6)) → Option (Int × Unit)
  | 0, _, _, _, _, _, _, _, _, _, _, _, _, _, _, _ => none
  | m + 1, n, v, vx2, c0, c0x2, c0x3, c0x4, c0x5, c0x6, c0x7, c0x8, c0x9, c0x10, c0x11, c0x12 => ref11TPlaces.b5 fu Sref11TPlaces (ref11TPlaces.l5 fu Sref11TPlaces k2 m) k2 n v vx2 c0 c0x2 c0x3 c0x4 c0x5 c0x6 c0x7 c0x8 c0x9 c0x10 c0x11 c0x12
noncomputable def ref11TPlaces.bd (fu : Nat) (Sref11TPlaces : (Tr S6) → Option (Int × Unit)) (tv : Tr S6) : Option (Int × Unit) :=
  let t1 := (tv.sub.length : Int) == (0 : Int)
  cond t1 (
    some ((1 : Int), ())) (
    ref11TPlaces.l5 fu Sref11TPlaces (fun nq2 c0q2 c0q2x2 c0q2x3 c0q2x4 c0q2x5 c0q2x6 c0q2x7 c0q2x8 c0q2x9 c0q2x10 c0q2x11 c0q2x12 => 
        cond (c0q2 == (4 : Int)) (
          let t2 := IntKind.i64.wrap (nq2 * IntKind.i64.wrap c0q2x10)
          some (t2, ())) (
          some (nq2, ()))) fu (0 : Int) (tv.sub.length : Int) (0 : Int) tv.val.1 tv.val.2.1.1 tv.val.2.1.2.1 tv.val.2.1.2.2.1 tv.val.2.2.1 tv.val.2.2.2.1.1 tv.val.2.2.2.1.2.1 tv.val.2.2.2.1.2.2.1 tv.val.2.2.2.2.1 tv.val.2.2.2.2.2.1 tv.val.2.2.2.2.2.2.1 tv.sub)
noncomputable def ref11TPlaces (fu : Nat) (m : Nat) : (Tr S6) → Option (Int × Unit) :=
  Nat.rec (fun _ => none) (fun _ Sref11TPlaces => ref11TPlaces.bd fu Sref11TPlaces) m

noncomputable def ref11TPlaces.conM (m : Nat) : Con := { ps := [(.tre kS6)], rs := [(.int .i64)], f := fun n x => ref11TPlaces n m x.1 }
noncomputable def ref11TPlaces.con : Con := { ps := [(.tre kS6)], rs := [(.int .i64)], f := fun n x => ref11TPlaces n n x.1 }
noncomputable def ref11TPlaces.body : Code := Try.f37.body.getD .skip
abbrev ref11TPlaces.shl5 : Shp := ⟨[.u, .p 0 0, .u, .d (.int .i64), .u, .u, .u, .u, .u, .u, .u, .d (.int .i64), .d (.int .i64), .u, .u, .u, .u, .u, .u, .u, .u, .u, .u, .u, .u, .u, .u, .u, .u, .u, .u, .u, .u, .u, .u], [.c [.d (.int .u8), .d .bool, .d (.int .u8), .d (.slice kS2), .d .bool, .d .bool, .d (.int .u8), .d (.slice kS2), .d (.int .u8), .d (.int .u8), .d (.int .i64), .d (.slice (.tre kS6))]]⟩
abbrev ref11TPlaces.outl5e2 : Shp := ⟨[.u, .p 0 0, .u, .d (.int .i64), .u, .u, .u, .u, .u, .u, .u, .u, .u, .u, .u, .u, .u, .u, .u, .u, .u, .u, .u, .u, .u, .u, .u, .u, .u, .u, .u, .u, .u, .u, .u], [.c [.d (.int .u8), .d .bool, .d (.int .u8), .d (.slice kS2), .d .bool, .d .bool, .d (.int .u8), .d (.slice kS2), .d (.int .u8), .d (.int .u8), .d (.int .i64), .d (.slice (.tre kS6))]]⟩
noncomputable def ref11TPlaces.nml5 : Norm := ⟨{ keep := [1, 3, 11, 12], shut := [(3, (.int .i64)), (11, (.int .i64)), (12, (.int .i64))], retag := [], heap := 1, dead := [], cshut := [(0, 0, (.int .u8)), (0, 1, .bool), (0, 2, (.int .u8)), (0, 3, (.slice kS2)), (0, 4, .bool), (0, 5, .bool), (0, 6, (.int .u8)), (0, 7, (.slice kS2)), (0, 8, (.int .u8)), (0, 9, (.int .u8)), (0, 10, (.int .i64)), (0, 11, (.slice (.tre kS6)))], cretag := [] }, [(2, { keep := [1, 3], shut := [(3, (.int .i64))], retag := [], heap := 1, dead := [], cshut := [(0, 0, (.int .u8)), (0, 1, .bool), (0, 2, (.int .u8)), (0, 3, (.slice kS2)), (0, 4, .bool), (0, 5, .bool), (0, 6, (.int .u8)), (0, 7, (.slice kS2)), (0, 8, (.int .u8)), (0, 9, (.int .u8)), (0, 10, (.int .i64)), (0, 11, (.slice (.tre kS6)))], cretag := [] })]⟩
noncomputable def ref11TPlaces.env (mref11TPlaces : Nat) : Env := { tys := [(80, ⟨(.tre kS6), 120⟩), (3, ⟨(.int .i64), 8⟩), (78, ⟨(.slice (.tre kS6)), 24⟩), (77, ⟨kS6, 96⟩), (5, ⟨(.int .u8), 1⟩)], elems := [(78, 80)], ptrs := [], cons := [(37, (ref11TPlaces.conM mref11TPlaces))], objs := [], loops := [(5, ref11TPlaces.nml5)], cuts := [], globs := globs, base := 0 }
noncomputable def ref11TPlaces.lp (mref11TPlaces : Nat) (n : Nat) : LP (Kd.struct (ref11TPlaces.conM (Nat.succ mref11TPlaces)).rs).T := fun lo κ body nm K s =>
  cond (lo && Nat.beq κ 5)
    (match ref11TPlaces.shl5.dec s with
    | some v => ref11TPlaces.l5 n (ref11TPlaces n mref11TPlaces) (fun w0 w1 w2 w3 w4 w5 w6 w7 w8 w9 w10 w11 w12 => K (.exit 0) (ref11TPlaces.outl5e2.enc (w0, w1, w2, w3, w4, w5, w6, w7, w8, w9, w10, w11, w12, ()))) n v.1 v.2.1 v.2.2.1 v.2.2.2.1 v.2.2.2.2.1 v.2.2.2.2.2.1 v.2.2.2.2.2.2.1 v.2.2.2.2.2.2.2.1 v.2.2.2.2.2.2.2.2.1 v.2.2.2.2.2.2.2.2.2.1 v.2.2.2.2.2.2.2.2.2.2.1 v.2.2.2.2.2.2.2.2.2.2.2.1 v.2.2.2.2.2.2.2.2.2.2.2.2.1 v.2.2.2.2.2.2.2.2.2.2.2.2.2.1 v.2.2.2.2.2.2.2.2.2.2.2.2.2.2.1
    | none => loops n (Kd.struct (ref11TPlaces.conM (Nat.succ mref11TPlaces)).rs).T lo κ body nm K s)
    (loops n (Kd.struct (ref11TPlaces.conM (Nat.succ mref11TPlaces)).rs).T lo κ body nm K s)
theorem ref11TPlaces.atl5 (mref11TPlaces : Nat) (n : Nat) (s : St) (K : Ex → St → Option (Kd.struct (ref11TPlaces.conM (Nat.succ mref11TPlaces)).rs).T) : (ref11TPlaces.lp mref11TPlaces n) true 5 (evK (ref11TPlaces.env mref11TPlaces) (ref11TPlaces.lp mref11TPlaces n) n (sub [1, 1, 1, 0, 1, 0, 0] ref11TPlaces.body)) ref11TPlaces.nml5 K s = loops n (Kd.struct (ref11TPlaces.conM (Nat.succ mref11TPlaces)).rs).T true 5 (evK (ref11TPlaces.env mref11TPlaces) (ref11TPlaces.lp mref11TPlaces n) n (sub [1, 1, 1, 0, 1, 0, 0] ref11TPlaces.body)) ref11TPlaces.nml5 K s := by
  show (match ref11TPlaces.shl5.dec s with | some v => ref11TPlaces.l5 n (ref11TPlaces n mref11TPlaces) (fun w0 w1 w2 w3 w4 w5 w6 w7 w8 w9 w10 w11 w12 => K (.exit 0) (ref11TPlaces.outl5e2.enc (w0, w1, w2, w3, w4, w5, w6, w7, w8, w9, w10, w11, w12, ()))) n v.1 v.2.1 v.2.2.1 v.2.2.2.1 v.2.2.2.2.1 v.2.2.2.2.2.1 v.2.2.2.2.2.2.1 v.2.2.2.2.2.2.2.1 v.2.2.2.2.2.2.2.2.1 v.2.2.2.2.2.2.2.2.2.1 v.2.2.2.2.2.2.2.2.2.2.1 v.2.2.2.2.2.2.2.2.2.2.2.1 v.2.2.2.2.2.2.2.2.2.2.2.2.1 v.2.2.2.2.2.2.2.2.2.2.2.2.2.1 v.2.2.2.2.2.2.2.2.2.2.2.2.2.2.1 | none => loops n (Kd.struct (ref11TPlaces.conM (Nat.succ mref11TPlaces)).rs).T true 5 (evK (ref11TPlaces.env mref11TPlaces) (ref11TPlaces.lp mref11TPlaces n) n (sub [1, 1, 1, 0, 1, 0, 0] ref11TPlaces.body)) ref11TPlaces.nml5 K s) = _
  cases h : ref11TPlaces.shl5.dec s with
  | none => rfl
  | some v =>
    rw [Shp.dec_enc h]
    exact (evLoop_eq (sh := ref11TPlaces.shl5) (body := evK (ref11TPlaces.env mref11TPlaces) (ref11TPlaces.lp mref11TPlaces n) n (sub [1, 1, 1, 0, 1, 0, 0] ref11TPlaces.body)) (nm := ref11TPlaces.nml5) (K := K) (b := fun nx v => ref11TPlaces.b5 n (ref11TPlaces n mref11TPlaces) (fun x0 x1 x2 x3 x4 x5 x6 x7 x8 x9 x10 x11 x12 x13 x14 => nx (x0, x1, x2, x3, x4, x5, x6, x7, x8, x9, x10, x11, x12, x13, x14, ())) (fun w0 w1 w2 w3 w4 w5 w6 w7 w8 w9 w10 w11 w12 => K (.exit 0) (ref11TPlaces.outl5e2.enc (w0, w1, w2, w3, w4, w5, w6, w7, w8, w9, w10, w11, w12, ()))) v.1 v.2.1 v.2.2.1 v.2.2.2.1 v.2.2.2.2.1 v.2.2.2.2.2.1 v.2.2.2.2.2.2.1 v.2.2.2.2.2.2.2.1 v.2.2.2.2.2.2.2.2.1 v.2.2.2.2.2.2.2.2.2.1 v.2.2.2.2.2.2.2.2.2.2.1 v.2.2.2.2.2.2.2.2.2.2.2.1 v.2.2.2.2.2.2.2.2.2.2.2.2.1 v.2.2.2.2.2.2.2.2.2.2.2.2.2.1 v.2.2.2.2.2.2.2.2.2.2.2.2.2.2.1) (l := fun m v => ref11TPlaces.l5 n (ref11TPlaces n mref11TPlaces) (fun w0 w1 w2 w3 w4 w5 w6 w7 w8 w9 w10 w11 w12 => K (.exit 0) (ref11TPlaces.outl5e2.enc (w0, w1, w2, w3, w4, w5, w6, w7, w8, w9, w10, w11, w12, ()))) m v.1 v.2.1 v.2.2.1 v.2.2.2.1 v.2.2.2.2.1 v.2.2.2.2.2.1 v.2.2.2.2.2.2.1 v.2.2.2.2.2.2.2.1 v.2.2.2.2.2.2.2.2.1 v.2.2.2.2.2.2.2.2.2.1 v.2.2.2.2.2.2.2.2.2.2.1 v.2.2.2.2.2.2.2.2.2.2.2.1 v.2.2.2.2.2.2.2.2.2.2.2.2.1 v.2.2.2.2.2.2.2.2.2.2.2.2.2.1 v.2.2.2.2.2.2.2.2.2.2.2.2.2.2.1) (fun _ => rfl) (fun _ _ => rfl) (fun m v => by kernel_rfl) n v).symm
theorem ref11TPlaces.eq (mref11TPlaces : Nat) (n : Nat) (x : (Kd.struct (ref11TPlaces.conM (Nat.succ mref11TPlaces)).ps).T) : evFunc (ref11TPlaces.env mref11TPlaces) Try.f37 ref11TPlaces.body (ref11TPlaces.conM (Nat.succ mref11TPlaces)).ps (ref11TPlaces.conM (Nat.succ mref11TPlaces)).rs (ref11TPlaces.lp mref11TPlaces n) n x = (ref11TPlaces.conM (Nat.succ mref11TPlaces)).f n x := by kernel_rfl
theorem ref11TPlaces.step (mref11TPlaces : Nat) (ihref11TPlaces : Sound Try.prog globs 37 (ref11TPlaces.conM mref11TPlaces)) : Sound Try.prog globs 37 (ref11TPlaces.conM (Nat.succ mref11TPlaces)) :=
  sound_by (E := (ref11TPlaces.env mref11TPlaces)) (c := ref11TPlaces.body) (envOk (G := globs) (lc := [(37, (ref11TPlaces.conM mref11TPlaces))]) (lo := []) (envB_spec (by kernel_rfl)) rfl rfl ⟨.inl ⟨ihref11TPlaces, by kernel_rfl⟩, trivial⟩ rfl trivial (by kernel_rfl) (by kernel_rfl)) Try.func37 (by kernel_rfl) (ref11TPlaces.lp mref11TPlaces) (l := [(true, sub [1, 1, 1, 0, 1, 0, 0] ref11TPlaces.body, ref11TPlaces.nml5)]) (by kernel_rfl) (fun n => ⟨ref11TPlaces.atl5 mref11TPlaces n, trivial⟩) (ref11TPlaces.eq mref11TPlaces)
theorem ref11TPlaces.soundM (m : Nat) : Sound Try.prog globs 37 (ref11TPlaces.conM m) := by
  induction m with
  | zero => intro n x r h; cases (show none = some r from h)
  | succ m ih => exact ref11TPlaces.step m ih
theorem ref11TPlaces.sound : Sound Try.prog globs 37 ref11TPlaces.con :=
  sound_fuel (ps := [(.tre kS6)]) (rs := [(.int .i64)]) (F := fun n m x => ref11TPlaces n m x.1) (ref11TPlaces.soundM)
noncomputable def ref11May.b7 (fu : Nat) (next : Int → Int → S7 → Int → Bool → Int → (List S2) → Bool → Bool → Int → (List S2) → Int → Int → Int → (List (Tr S6)) → Option (Int × Unit)) (k1 : Int → Option (Int × Unit)) (k2 : S7 → Int → Bool → Int → (List S2) → Bool → Bool → Int → (List S2) → Int → Int → Int → (List (Tr S6)) → Option (Int × Unit)) (v : Int) (vx2 : Int) (b0 : S7) (c1 : Int) (c1x2 : Bool) (c1x3 : Int) (c1x4 : List S2) (c1x5 : Bool) (c1x6 : Bool) (c1x7 : Int) (c1x8 : List S2) (c1x9 : Int) (c1x10 : Int) (c1x11 : Int) (c1x12 : List (Tr S6)) : Option (Int × Unit) :=
  cond (decide (vx2 < v)) (
    chk (ixOk b0.1 vx2) <|
    let e1 := ixL ((0 : Int), (false, (0 : Int), [], ()), false, (false, (0 : Int), [], ()), (0 : Int), (0 : Int), (0 : Int), ()) b0.1 vx2
    (ref10May fu e1.2.1).bind fun r2 =>
    cond (!r2.1) (
      k1 (1 : Int)) (
      chk (ixOk b0.1 vx2) <|
      let e3 := ixL ((0 : Int), (false, (0 : Int), [], ()), false, (false, (0 : Int), [], ()), (0 : Int), (0 : Int), (0 : Int), ()) b0.1 vx2
      (ref10May fu e3.2.2.2.1).bind fun r4 =>
      cond (!r4.1) (
        k1 (1 : Int)) (
        let t5 := IntKind.i64.wrap (vx2 + (1 : Int))
        next v t5 b0 c1 c1x2 c1x3 c1x4 c1x5 c1x6 c1x7 c1x8 c1x9 c1x10 c1x11 c1x12))) (
    k2 b0 c1 c1x2 c1x3 c1x4 c1x5 c1x6 c1x7 c1x8 c1x9 c1x10 c1x11 c1x12)
noncomputable def ref11May.l7 (fu : Nat) (k1 : Int → Option (Int × Unit)) (k2 : S7 → Int → Bool → Int → (List S2) → Bool → Bool → Int → (List S2) → Int → Int → Int → (List (Tr S6)) → Option (Int × Unit)) : Nat → Int → Int → S7 → Int → Bool → Int → (List S2) → Bool → Bool → Int → (List S2) → Int → Int → Int → (List (Tr S6)) → Option (Int × Unit)
  | 0, _, _, _, _, _, _, _, _, _, _, _, _, _, _, _ => none
  | m + 1, v, vx2, b0, c1, c1x2, c1x3, c1x4, c1x5, c1x6, c1x7, c1x8, c1x9, c1x10, c1x11, c1x12 => ref11May.b7 fu (ref11May.l7 fu k1 k2 m) k1 k2 v vx2 b0 c1 c1x2 c1x3 c1x4 c1x5 c1x6 c1x7 c1x8 c1x9 c1x10 c1x11 c1x12
noncomputable def ref11May (fu : Nat) (p : S7) : Option (Int × Unit) :=
  let t1 := decide ((p.1.length : Int) > (32 : Int))
  cond t1 (
    some ((12 : Int), ())) (
    (ref11Tree fu p.1).bind fun r2 =>
    cond (!r2.2.1) (
      some ((2 : Int), ())) (
      (ref11TFormed fu fu (Tr.mk r2.1.val r2.1.sub)).bind fun r3 =>
      cond (!r3.1) (
        some ((2 : Int), ())) (
        ref11May.l7 fu (fun vq3 => 
            some (vq3, ())) (fun b0q4 c1q4 c1q4x2 c1q4x3 c1q4x4 c1q4x5 c1q4x6 c1q4x7 c1q4x8 c1q4x9 c1q4x10 c1q4x11 c1q4x12 => 
            (ref11TDepth fu fu (Tr.mk (c1q4, (c1q4x2, c1q4x3, c1q4x4, ()), c1q4x5, (c1q4x6, c1q4x7, c1q4x8, ()), c1q4x9, c1q4x10, c1q4x11, ()) c1q4x12)).bind fun r4 =>
            let t5 := decide (r4.1 > (8 : Int))
            cond t5 (
              some ((16 : Int), ())) (
              cond (b0q4.2.1 == (0 : Int)) (
                some ((5 : Int), ())) (
                let t6 := decide (b0q4.2.1 > (1048576 : Int))
                cond t6 (
                  some ((5 : Int), ())) (
                  (ref11TPlaces fu fu (Tr.mk (c1q4, (c1q4x2, c1q4x3, c1q4x4, ()), c1q4x5, (c1q4x6, c1q4x7, c1q4x8, ()), c1q4x9, c1q4x10, c1q4x11, ()) c1q4x12)).bind fun r7 =>
                  let t8 := decide (r7.1 > (32 : Int))
                  cond t8 (
                    some ((4 : Int), ())) (
                    some ((0 : Int), ())))))) fu (p.1.length : Int) (0 : Int) p r2.1.val.1 r2.1.val.2.1.1 r2.1.val.2.1.2.1 r2.1.val.2.1.2.2.1 r2.1.val.2.2.1 r2.1.val.2.2.2.1.1 r2.1.val.2.2.2.1.2.1 r2.1.val.2.2.2.1.2.2.1 r2.1.val.2.2.2.2.1 r2.1.val.2.2.2.2.2.1 r2.1.val.2.2.2.2.2.2.1 r2.1.sub)))

noncomputable def ref11May.body : Code := Try.f32.body.getD .skip
abbrev ref11May.shl7 : Shp := ⟨[.u, .p 0 0, .u, .p 1 0, .u, .u, .u, .u, .u, .u, .u, .u, .u, .u, .u, .u, .u, .u, .u, .u, .u, .u, .u, .u, .u, .d (.int .i64), .d (.int .i64), .u, .u, .u, .u, .u, .u, .u, .u, .u, .u, .u, .u, .u, .u, .u, .u, .u, .u, .u, .u, .u, .u, .u, .u, .u, .u, .u, .u, .u, .u, .u, .u, .u, .u, .u], [.c [.g kS7], .c [.d (.int .u8), .d .bool, .d (.int .u8), .d (.slice kS2), .d .bool, .d .bool, .d (.int .u8), .d (.slice kS2), .d (.int .u8), .d (.int .u8), .d (.int .i64), .d (.slice (.tre kS6))]]⟩
abbrev ref11May.outl7e1 : Shp := ⟨[.u, .u, .d (.int .i64), .u, .u, .u, .u, .u, .u, .u, .u, .u, .u, .u, .u, .u, .u, .u, .u, .u, .u, .u, .u, .u, .u, .u, .u, .u, .u, .u, .u, .u, .u, .u, .u, .u, .u, .u, .u, .u, .u, .u, .u, .u, .u, .u, .u, .u, .u, .u, .u, .u, .u, .u, .u, .u, .u, .u, .u, .u, .u, .u], []⟩
abbrev ref11May.outl7e2 : Shp := ⟨[.u, .p 0 0, .u, .p 1 0, .u, .u, .u, .u, .u, .u, .u, .u, .u, .u, .u, .u, .u, .u, .u, .u, .u, .u, .u, .u, .u, .u, .u, .u, .u, .u, .u, .u, .u, .u, .u, .u, .u, .u, .u, .u, .u, .u, .u, .u, .u, .u, .u, .u, .u, .u, .u, .u, .u, .u, .u, .u, .u, .u, .u, .u, .u, .u], [.c [.g kS7], .c [.d (.int .u8), .d .bool, .d (.int .u8), .d (.slice kS2), .d .bool, .d .bool, .d (.int .u8), .d (.slice kS2), .d (.int .u8), .d (.int .u8), .d (.int .i64), .d (.slice (.tre kS6))]]⟩
noncomputable def ref11May.nml7 : Norm := ⟨{ keep := [1, 3, 25, 26], shut := [(25, (.int .i64)), (26, (.int .i64))], retag := [], heap := 2, dead := [], cshut := [(0, 0, (.slice kS6)), (0, 1, (.int .u64)), (1, 0, (.int .u8)), (1, 1, .bool), (1, 2, (.int .u8)), (1, 3, (.slice kS2)), (1, 4, .bool), (1, 5, .bool), (1, 6, (.int .u8)), (1, 7, (.slice kS2)), (1, 8, (.int .u8)), (1, 9, (.int .u8)), (1, 10, (.int .i64)), (1, 11, (.slice (.tre kS6)))], cretag := [] }, [(1, { keep := [2], shut := [(2, (.int .i64))], retag := [], heap := 0, dead := [], cshut := [], cretag := [] }), (2, { keep := [1, 3], shut := [], retag := [], heap := 2, dead := [], cshut := [(0, 0, (.slice kS6)), (0, 1, (.int .u64)), (1, 0, (.int .u8)), (1, 1, .bool), (1, 2, (.int .u8)), (1, 3, (.slice kS2)), (1, 4, .bool), (1, 5, .bool), (1, 6, (.int .u8)), (1, 7, (.slice kS2)), (1, 8, (.int .u8)), (1, 9, (.int .u8)), (1, 10, (.int .i64)), (1, 11, (.slice (.tre kS6)))], cretag := [] })]⟩
noncomputable def ref11May.con : Con := { ps := [kS7], rs := [(.int .i64)], f := fun n x => ref11May n x.1 }
noncomputable def ref11May.env : Env := { tys := [(68, ⟨kS7, 32⟩), (3, ⟨(.int .i64), 8⟩), (66, ⟨(.slice kS6), 24⟩), (77, ⟨kS6, 96⟩), (80, ⟨(.tre kS6), 120⟩), (4, ⟨.bool, 1⟩), (75, ⟨kS3, 32⟩), (51, ⟨(.int .u64), 8⟩)], elems := [(66, 77)], ptrs := [], cons := [(36, ref11Tree.con), (68, ref11TFormed.con), (69, ref10May.con), (38, ref11TDepth.con), (37, ref11TPlaces.con)], objs := [], loops := [(7, ref11May.nml7)], cuts := [], globs := globs, base := 0 }
noncomputable def ref11May.lp (n : Nat) : LP (Kd.struct ref11May.con.rs).T := fun lo κ body nm K s =>
  cond (lo && Nat.beq κ 7)
    (match ref11May.shl7.dec s with
    | some v => ref11May.l7 n (fun w0 => K .ret (ref11May.outl7e1.enc (w0, ()))) (fun w0 w1 w2 w3 w4 w5 w6 w7 w8 w9 w10 w11 w12 => K (.exit 0) (ref11May.outl7e2.enc (w0, w1, w2, w3, w4, w5, w6, w7, w8, w9, w10, w11, w12, ()))) n v.1 v.2.1 v.2.2.1 v.2.2.2.1 v.2.2.2.2.1 v.2.2.2.2.2.1 v.2.2.2.2.2.2.1 v.2.2.2.2.2.2.2.1 v.2.2.2.2.2.2.2.2.1 v.2.2.2.2.2.2.2.2.2.1 v.2.2.2.2.2.2.2.2.2.2.1 v.2.2.2.2.2.2.2.2.2.2.2.1 v.2.2.2.2.2.2.2.2.2.2.2.2.1 v.2.2.2.2.2.2.2.2.2.2.2.2.2.1 v.2.2.2.2.2.2.2.2.2.2.2.2.2.2.1
    | none => loops n (Kd.struct ref11May.con.rs).T lo κ body nm K s)
    (loops n (Kd.struct ref11May.con.rs).T lo κ body nm K s)
theorem ref11May.atl7 (n : Nat) (s : St) (K : Ex → St → Option (Kd.struct ref11May.con.rs).T) : (ref11May.lp n) true 7 (evK ref11May.env (ref11May.lp n) n (sub [1, 1, 1, 1, 0, 1, 0, 0] ref11May.body)) ref11May.nml7 K s = loops n (Kd.struct ref11May.con.rs).T true 7 (evK ref11May.env (ref11May.lp n) n (sub [1, 1, 1, 1, 0, 1, 0, 0] ref11May.body)) ref11May.nml7 K s := by
  show (match ref11May.shl7.dec s with | some v => ref11May.l7 n (fun w0 => K .ret (ref11May.outl7e1.enc (w0, ()))) (fun w0 w1 w2 w3 w4 w5 w6 w7 w8 w9 w10 w11 w12 => K (.exit 0) (ref11May.outl7e2.enc (w0, w1, w2, w3, w4, w5, w6, w7, w8, w9, w10, w11, w12, ()))) n v.1 v.2.1 v.2.2.1 v.2.2.2.1 v.2.2.2.2.1 v.2.2.2.2.2.1 v.2.2.2.2.2.2.1 v.2.2.2.2.2.2.2.1 v.2.2.2.2.2.2.2.2.1 v.2.2.2.2.2.2.2.2.2.1 v.2.2.2.2.2.2.2.2.2.2.1 v.2.2.2.2.2.2.2.2.2.2.2.1 v.2.2.2.2.2.2.2.2.2.2.2.2.1 v.2.2.2.2.2.2.2.2.2.2.2.2.2.1 v.2.2.2.2.2.2.2.2.2.2.2.2.2.2.1 | none => loops n (Kd.struct ref11May.con.rs).T true 7 (evK ref11May.env (ref11May.lp n) n (sub [1, 1, 1, 1, 0, 1, 0, 0] ref11May.body)) ref11May.nml7 K s) = _
  cases h : ref11May.shl7.dec s with
  | none => rfl
  | some v =>
    rw [Shp.dec_enc h]
    exact (evLoop_eq (sh := ref11May.shl7) (body := evK ref11May.env (ref11May.lp n) n (sub [1, 1, 1, 1, 0, 1, 0, 0] ref11May.body)) (nm := ref11May.nml7) (K := K) (b := fun nx v => ref11May.b7 n (fun x0 x1 x2 x3 x4 x5 x6 x7 x8 x9 x10 x11 x12 x13 x14 => nx (x0, x1, x2, x3, x4, x5, x6, x7, x8, x9, x10, x11, x12, x13, x14, ())) (fun w0 => K .ret (ref11May.outl7e1.enc (w0, ()))) (fun w0 w1 w2 w3 w4 w5 w6 w7 w8 w9 w10 w11 w12 => K (.exit 0) (ref11May.outl7e2.enc (w0, w1, w2, w3, w4, w5, w6, w7, w8, w9, w10, w11, w12, ()))) v.1 v.2.1 v.2.2.1 v.2.2.2.1 v.2.2.2.2.1 v.2.2.2.2.2.1 v.2.2.2.2.2.2.1 v.2.2.2.2.2.2.2.1 v.2.2.2.2.2.2.2.2.1 v.2.2.2.2.2.2.2.2.2.1 v.2.2.2.2.2.2.2.2.2.2.1 v.2.2.2.2.2.2.2.2.2.2.2.1 v.2.2.2.2.2.2.2.2.2.2.2.2.1 v.2.2.2.2.2.2.2.2.2.2.2.2.2.1 v.2.2.2.2.2.2.2.2.2.2.2.2.2.2.1) (l := fun m v => ref11May.l7 n (fun w0 => K .ret (ref11May.outl7e1.enc (w0, ()))) (fun w0 w1 w2 w3 w4 w5 w6 w7 w8 w9 w10 w11 w12 => K (.exit 0) (ref11May.outl7e2.enc (w0, w1, w2, w3, w4, w5, w6, w7, w8, w9, w10, w11, w12, ()))) m v.1 v.2.1 v.2.2.1 v.2.2.2.1 v.2.2.2.2.1 v.2.2.2.2.2.1 v.2.2.2.2.2.2.1 v.2.2.2.2.2.2.2.1 v.2.2.2.2.2.2.2.2.1 v.2.2.2.2.2.2.2.2.2.1 v.2.2.2.2.2.2.2.2.2.2.1 v.2.2.2.2.2.2.2.2.2.2.2.1 v.2.2.2.2.2.2.2.2.2.2.2.2.1 v.2.2.2.2.2.2.2.2.2.2.2.2.2.1 v.2.2.2.2.2.2.2.2.2.2.2.2.2.2.1) (fun _ => rfl) (fun _ _ => rfl) (fun m v => by kernel_rfl) n v).symm
theorem ref11May.eq (n : Nat) (x : (Kd.struct ref11May.con.ps).T) : evFunc ref11May.env Try.f32 ref11May.body ref11May.con.ps ref11May.con.rs (ref11May.lp n) n x = ref11May.con.f n x := by kernel_rfl
theorem ref11May.sound : Sound Try.prog globs 32 ref11May.con :=
  sound_by (E := ref11May.env) (c := ref11May.body) (envOk (G := globs) (lc := [(36, ref11Tree.con), (68, ref11TFormed.con), (69, ref10May.con), (38, ref11TDepth.con), (37, ref11TPlaces.con)]) (lo := []) (envB_spec (by kernel_rfl)) rfl rfl ⟨.inl ⟨ref11Tree.sound, by kernel_rfl⟩, ⟨.inl ⟨ref11TFormed.sound, by kernel_rfl⟩, ⟨.inl ⟨ref10May.sound, by kernel_rfl⟩, ⟨.inl ⟨ref11TDepth.sound, by kernel_rfl⟩, ⟨.inl ⟨ref11TPlaces.sound, by kernel_rfl⟩, trivial⟩⟩⟩⟩⟩ rfl trivial (by kernel_rfl) (by kernel_rfl)) Try.func32 (by kernel_rfl) ref11May.lp (l := [(true, sub [1, 1, 1, 1, 0, 1, 0, 0] ref11May.body, ref11May.nml7)]) (by kernel_rfl) (fun n => ⟨ref11May.atl7 n, trivial⟩) ref11May.eq
noncomputable def law11TreeMay (fu : Nat) (xv : S9) : Option (Bool × Unit) :=
  (law11RawPattern fu xv).bind fun r1 =>
  (ref11Great fu r1.1).bind fun r2 =>
  cond r2.1 (
    (law11Fixed fu).bind fun r3 =>
    some (r3.1, ())) (
    (ref11May fu r1.1).bind fun r4 =>
    (treeMay fu r1.1).bind fun r5 =>
    cond (r5.1 != r4.1) (
      some (false, ())) (
      cond (r4.1 != (0 : Int)) (
        (law11Fixed fu).bind fun r6 =>
        cond r6.1 (
          (treePlacesF34 fu r1.1).bind fun r7 =>
          cond (r7.1 == (0 : Int)) (
            (treeDepth fu r1.1).bind fun r8 =>
            some (r8.1 == (0 : Int), ())) (
            some (false, ()))) (
          some (false, ()))) (
        (ref11Tree fu r1.1.1).bind fun r9 =>
        (law11Fixed fu).bind fun r10 =>
        cond r10.1 (
          cond r9.2.1 (
            (treePlacesF34 fu r1.1).bind fun r11 =>
            (ref11TPlaces fu fu (Tr.mk r9.1.val r9.1.sub)).bind fun r12 =>
            cond (r11.1 == r12.1) (
              (treeDepth fu r1.1).bind fun r13 =>
              (ref11TDepth fu fu (Tr.mk r9.1.val r9.1.sub)).bind fun r14 =>
              some (r13.1 == r14.1, ())) (
              some (false, ()))) (
            some (false, ()))) (
          some (false, ())))))

noncomputable def law11TreeMay.body : Code := Try.f8.body.getD .skip
noncomputable def law11TreeMay.con : Con := { ps := [kS9], rs := [.bool], f := fun n x => law11TreeMay n x.1 }
noncomputable def law11TreeMay.env : Env := { tys := [(65, ⟨kS9, 32⟩), (4, ⟨.bool, 1⟩), (68, ⟨kS7, 32⟩), (66, ⟨(.slice kS6), 24⟩), (80, ⟨(.tre kS6), 120⟩)], elems := [], ptrs := [], cons := [(29, law11RawPattern.con), (30, ref11Great.con), (31, law11Fixed.con), (32, ref11May.con), (33, treeMay.con), (34, treePlacesF34.con), (35, treeDepth.con), (36, ref11Tree.con), (37, ref11TPlaces.con), (38, ref11TDepth.con)], objs := [], loops := [], cuts := [], globs := globs, base := 0 }
noncomputable def law11TreeMay.lp (n : Nat) : LP (Kd.struct law11TreeMay.con.rs).T := fun lo κ body nm K s =>
  loops n (Kd.struct law11TreeMay.con.rs).T lo κ body nm K s
theorem law11TreeMay.eq (n : Nat) (x : (Kd.struct law11TreeMay.con.ps).T) : evFunc law11TreeMay.env Try.f8 law11TreeMay.body law11TreeMay.con.ps law11TreeMay.con.rs (law11TreeMay.lp n) n x = law11TreeMay.con.f n x := by kernel_rfl
theorem law11TreeMay.sound : Sound Try.prog globs 8 law11TreeMay.con :=
  sound_by (E := law11TreeMay.env) (c := law11TreeMay.body) (envOk (G := globs) (lc := [(29, law11RawPattern.con), (30, ref11Great.con), (31, law11Fixed.con), (32, ref11May.con), (33, treeMay.con), (34, treePlacesF34.con), (35, treeDepth.con), (36, ref11Tree.con), (37, ref11TPlaces.con), (38, ref11TDepth.con)]) (lo := []) (envB_spec (by kernel_rfl)) rfl rfl ⟨.inl ⟨law11RawPattern.sound, by kernel_rfl⟩, ⟨.inl ⟨ref11Great.sound, by kernel_rfl⟩, ⟨.inl ⟨law11Fixed.sound, by kernel_rfl⟩, ⟨.inl ⟨ref11May.sound, by kernel_rfl⟩, ⟨.inl ⟨treeMay.sound, by kernel_rfl⟩, ⟨.inl ⟨treePlacesF34.sound, by kernel_rfl⟩, ⟨.inl ⟨treeDepth.sound, by kernel_rfl⟩, ⟨.inl ⟨ref11Tree.sound, by kernel_rfl⟩, ⟨.inl ⟨ref11TPlaces.sound, by kernel_rfl⟩, ⟨.inl ⟨ref11TDepth.sound, by kernel_rfl⟩, trivial⟩⟩⟩⟩⟩⟩⟩⟩⟩⟩ rfl trivial (by kernel_rfl) (by kernel_rfl)) Try.func8 (by kernel_rfl) law11TreeMay.lp (l := []) (by kernel_rfl) (fun n => trivial) law11TreeMay.eq
end
end Go.Shal.Pr
