/- Prints of functions, and proofs that they are what the code computes. By an AI agent. -/
import Derived.Test.YtbhigcnmdobmoaaShD
import Derived.Test.YtbhigcnmdobmoaaProg
set_option linter.unusedVariables false
set_option maxRecDepth 100000
namespace Go.Shal.Pr
open Go Go.Shal Go.Proofs
noncomputable section
def globs : ZhW := []
abbrev kS0 : Kd := .struct [(.int .u8), (.int .i64), (.int .u64), .str]
abbrev S0 : Type := Int × Int × Int × (List Int) × Unit
abbrev kS1 : Kd := .struct [(.int .u8), (.int .i64), .flt, .str]
abbrev S1 : Type := Int × Int × Nat × (List Int) × Unit
abbrev kS2 : Kd := .struct [(.int .u8), (.int .u8), kS1]
abbrev S2 : Type := Int × Int × S1 × Unit
abbrev kS3 : Kd := .struct [.bool, (.int .u8), (.slice kS2)]
abbrev S3 : Type := Bool × Int × (List S2) × Unit
abbrev kS4 : Kd := .struct [(.int .u8), (.int .u8), kS0]
abbrev S4 : Type := Int × Int × S0 × Unit
abbrev kS5 : Kd := .struct [.bool, (.int .u8), (.slice kS4)]
abbrev S5 : Type := Bool × Int × (List S4) × Unit
abbrev kS6 : Kd := .struct [(.int .u8), kS3, .bool, kS3, (.int .u8), (.int .u8), (.int .i64)]
abbrev S6 : Type := Int × S3 × Bool × S3 × Int × Int × Int × Unit
abbrev kS7 : Kd := .struct [(.slice kS6), (.int .u64)]
abbrev S7 : Type := (List S6) × Int × Unit
abbrev kS8 : Kd := .struct [(.int .u8), kS5, .bool, kS5, (.int .u8), (.int .u8), (.int .i64)]
abbrev S8 : Type := Int × S5 × Bool × S5 × Int × Int × Int × Unit
abbrev kS9 : Kd := .struct [(.slice kS8), (.int .u64)]
abbrev S9 : Type := (List S8) × Int × Unit
abbrev kS10 : Kd := .struct [.bool, (.int .i64), (.int .u64)]
abbrev S10 : Type := Bool × Int × Int × Unit
abbrev kO11 : Ob := (.dat (.slice (.int .u8)) (.dat (.int .i64) (.mo kS6 (.dat (.int .i64) .nil))))
abbrev O11 : Type := (List Int) × Int × (List S6) × Int × Unit
abbrev kS12 : Kd := .struct [.bool, (.int .u8), .nsl]
abbrev S12 : Type := Bool × Int × Unit × Unit
abbrev kO13 : Ob := (.dat (.int .u8) (.dat kS3 (.dat .bool (.dat kS3 (.dat (.int .u8) (.dat (.int .u8) (.dat (.int .i64) .nil)))))))
abbrev O13 : Type := Int × S3 × Bool × S3 × Int × Int × Int × Unit
abbrev kS14 : Kd := .struct [(.slice (.int .u8)), (.int .i64), (.slice kS6), (.int .i64)]
abbrev S14 : Type := (List Int) × Int × (List S6) × Int × Unit
noncomputable def ZaZ (fu : Nat) (rv : S0) : Option (S1 × Unit) :=
 (Zfc.f fu (rv.2.2.1, ())).bind fun r1 =>
 some ((rv.1, rv.2.1, r1.1, rv.2.2.2.1, ()), ())
noncomputable def ZaZ.body : Code := Try.f46.body.getD .skip
noncomputable def ZaZ.con : Con := { ps := [kS0], rs := [kS1], f := fun n x => ZaZ n x.1 }
abbrev ZaZ.R : Type := (Kd.struct ZaZ.con.rs).T
noncomputable def ZaZ.env : Env := { tys := [(95, ⟨kS0, 40⟩), (34, ⟨kS1, 40⟩), (5, ⟨(.int .u8), 1⟩), (2, ⟨(.int .i64), 8⟩), (51, ⟨(.int .u64), 8⟩), (9, ⟨.str, 16⟩)], elems := [], ptrs := [], cons := [(90, Zfc)], objs := [], loops := [], cuts := [], globs := globs, base := 0 }
noncomputable def ZaZ.lp (n : Nat) : LP ZaZ.R := fun lo κ body nm K s =>
 loops n ZaZ.R lo κ body nm K s
theorem ZaZ.sound : Zbi Try.prog globs 46 ZaZ.con :=
 ZaS (E := ZaZ.env) (c := ZaZ.body) (Zbk (G := globs) (lc := [(90, Zfc)]) (lo := []) (ZaA (by kernel_rfl)) rfl rfl ⟨.inr (ZjH Try.func90 (by kernel_rfl) (by kernel_rfl) (by kernel_rfl) (by kernel_rfl)), trivial⟩ rfl trivial (by kernel_rfl) (by kernel_rfl)) Try.func46 (by kernel_rfl) ZaZ.lp (l := []) (by kernel_rfl) (fun n => trivial) (fun n x => by kernel_rfl)
noncomputable def Zao.b3 (fu : Nat) (next : (List S4) → Int → Int → Bool → Int → (List S2) → Bool → Int → (List S2) → Option (S3 × Unit)) (k2 : Bool → Int → (List S2) → Bool → Int → (List S2) → Option (S3 × Unit)) (v : List S4) (vx2 : Int) (vx3 : Int) (c1 : Bool) (c1x2 : Int) (c1x3 : List S2) (c2 : Bool) (c2x2 : Int) (c2x3 : List S2) : Option (S3 × Unit) :=
 cond (decide (vx3 < vx2)) (
  chk (ixOk v vx3) <|
  let e1 := ixL ((0 : Int), (0 : Int), ((0 : Int), (0 : Int), (0 : Int), [], ()), ()) v vx3
  let t2 := decide (vx3 < (10 : Int))
  cond t2 (
   (ZaZ fu e1.2.2.1).bind fun r3 =>
   let t4 := [(e1.1, e1.2.1, r3.1, ())]
   chk (apOk c2x3 t4 48) <|
   let t5 := IntKind.i64.wrap (vx3 + (1 : Int))
   next v vx2 t5 c1 c1x2 c1x3 c2 c2x2 (c2x3 ++ t4)) (
   let t6 := IntKind.i64.wrap (vx3 + (1 : Int))
   next v vx2 t6 c1 c1x2 c1x3 c2 c2x2 c2x3)) (
  k2 c1 c1x2 c1x3 c2 c2x2 c2x3)
noncomputable def Zao.l3 (fu : Nat) (k2 : Bool → Int → (List S2) → Bool → Int → (List S2) → Option (S3 × Unit)) : Nat → (List S4) → Int → Int → Bool → Int → (List S2) → Bool → Int → (List S2) → Option (S3 × Unit)
 | 0, _, _, _, _, _, _, _, _, _ => none
 | m + 1, v, vx2, vx3, c1, c1x2, c1x3, c2, c2x2, c2x3 => Zao.b3 fu (Zao.l3 fu k2 m) k2 v vx2 vx3 c1 c1x2 c1x3 c2 c2x2 c2x3
noncomputable def Zao (fu : Nat) (rv : S5) : Option (S3 × Unit) :=
 Zao.l3 fu (fun c1q2 c1q2x2 c1q2x3 c2q2 c2q2x2 c2q2x3 =>
   some ((c2q2, c2q2x2, c2q2x3, ()), ())) fu rv.2.2.1 (rv.2.2.1.length : Int) (0 : Int) false (0 : Int) [] rv.1 rv.2.1 []
noncomputable def Zao.body : Code := Try.f65.body.getD .skip
abbrev Zao.shl3 : Shp := ⟨.u :: .u :: .p 1 0 :: .p 2 0 :: us 8 (.d (.slice kS4) :: .d (.int .i64) :: .d (.int .i64) :: us 21 []), [.c [.u, .u, .u], .c [.d .bool, .d (.int .u8), .o 1052 kS2], .c [.d .bool, .d (.int .u8), .o 1102 kS2]]⟩
abbrev Zao.outl3e2 : Shp := ⟨.u :: .u :: .p 1 0 :: .p 2 0 :: us 32 [], [.c [.u, .u, .u], .c [.d .bool, .d (.int .u8), .o 1052 kS2], .c [.d .bool, .d (.int .u8), .o 1102 kS2]]⟩
noncomputable def Zao.nml3 : Norm := ⟨Zao.shl3.cut [], [(2, Zao.outl3e2.cut [])]⟩
noncomputable def Zao.con : Con := { ps := [kS5], rs := [kS3], f := fun n x => Zao n x.1 }
abbrev Zao.R : Type := (Kd.struct Zao.con.rs).T
noncomputable def Zao.env : Env := { tys := [(120, ⟨kS5, 32⟩), (75, ⟨kS3, 32⟩), (4, ⟨.bool, 1⟩), (5, ⟨(.int .u8), 1⟩), (118, ⟨(.slice kS4), 24⟩), (176, ⟨kS4, 48⟩), (3, ⟨(.int .i64), 8⟩), (73, ⟨(.slice kS2), 24⟩), (95, ⟨kS0, 40⟩), (88, ⟨kS2, 48⟩)], elems := [(118, 176), (73, 88)], ptrs := [], cons := [(46, ZaZ.con)], objs := [], loops := [(3, Zao.nml3)], cuts := [], globs := globs, base := 0 }
noncomputable def Zao.cl3 (n : Nat) (K : Ex → St → Option Zao.R) (m : Nat) (v : Zao.shl3.T) : Option Zao.R := Zao.l3 n (fun w0 w1 w2 w3 w4 w5 => K (.exit 0) (Zao.outl3e2.enc (w0, w1, w2, w3, w4, w5, ()))) m v.1 v.2.1 v.2.2.1 v.2.2.2.1 v.2.2.2.2.1 v.2.2.2.2.2.1 v.2.2.2.2.2.2.1 v.2.2.2.2.2.2.2.1 v.2.2.2.2.2.2.2.2.1
noncomputable def Zao.lp (n : Nat) : LP Zao.R := fun lo κ body nm K s =>
 cond (lo && Nat.beq κ 3) (pc Zao.shl3 (Zao.cl3 n K n) (loops n Zao.R lo κ body nm K) s) <|
  loops n Zao.R lo κ body nm K s
noncomputable def Zao.tl3 (n : Nat) := evK (β := Zao.R) Zao.env (Zao.lp n) n (sub [1, 1, 0, 1, 0, 0] Zao.body)
theorem Zao.atl3 (n : Nat) : At n (Zao.lp n) true 3 (Zao.tl3 n) Zao.nml3 := fun s K =>
 ZbR (sh := Zao.shl3) (F := (Zao.cl3 n K n)) (B := loops n _ true 3 (Zao.tl3 n) Zao.nml3 K) (fun v => (Zbc (sh := Zao.shl3) (body := (Zao.tl3 n)) (nm := Zao.nml3) (b := fun nx v => Zao.b3 n (fun x0 x1 x2 x3 x4 x5 x6 x7 x8 => nx (x0, x1, x2, x3, x4, x5, x6, x7, x8, ())) (fun w0 w1 w2 w3 w4 w5 => K (.exit 0) (Zao.outl3e2.enc (w0, w1, w2, w3, w4, w5, ()))) v.1 v.2.1 v.2.2.1 v.2.2.2.1 v.2.2.2.2.1 v.2.2.2.2.2.1 v.2.2.2.2.2.2.1 v.2.2.2.2.2.2.2.1 v.2.2.2.2.2.2.2.2.1) (l := (Zao.cl3 n K)) (fun _ => rfl) (fun _ _ => rfl) (fun m v => by kernel_rfl) n v).symm) s
theorem Zao.sound : Zbi Try.prog globs 65 Zao.con :=
 ZaS (E := Zao.env) (c := Zao.body) (Zbk (G := globs) (lc := [(46, ZaZ.con)]) (lo := []) (ZaA (by kernel_rfl)) rfl rfl ⟨.inl ⟨ZaZ.sound, by kernel_rfl⟩, trivial⟩ rfl trivial (by kernel_rfl) (by kernel_rfl)) Try.func65 (by kernel_rfl) Zao.lp (l := [(true, sub [1, 1, 0, 1, 0, 0] Zao.body, Zao.nml3)]) (by kernel_rfl) (fun n => ⟨Zao.atl3 n, trivial⟩) (fun n x => by kernel_rfl)
noncomputable def Zag.b3 (fu : Nat) (next : (List S8) → Int → Int → (List S6) → Int → (List S6) → Int → Option (S7 × Unit)) (k2 : (List S6) → Int → (List S6) → Int → Option (S7 × Unit)) (v : List S8) (vx2 : Int) (vx3 : Int) (c1 : List S6) (c1x2 : Int) (c2 : List S6) (c2x2 : Int) : Option (S7 × Unit) :=
 cond (decide (vx3 < vx2)) (
  chk (ixOk v vx3) <|
  let e1 := ixL ((0 : Int), (false, (0 : Int), [], ()), false, (false, (0 : Int), [], ()), (0 : Int), (0 : Int), (0 : Int), ()) v vx3
  let t2 := decide (vx3 < (40 : Int))
  cond t2 (
   (Zao fu e1.2.1).bind fun r3 =>
   (Zao fu e1.2.2.2.1).bind fun r4 =>
   let t5 := [(e1.1, r3.1, e1.2.2.1, r4.1, e1.2.2.2.2.1, e1.2.2.2.2.2.1, e1.2.2.2.2.2.2.1, ())]
   chk (apOk c2 t5 96) <|
   let t6 := IntKind.i64.wrap (vx3 + (1 : Int))
   next v vx2 t6 c1 c1x2 (c2 ++ t5) c2x2) (
   let t7 := IntKind.i64.wrap (vx3 + (1 : Int))
   next v vx2 t7 c1 c1x2 c2 c2x2)) (
  k2 c1 c1x2 c2 c2x2)
noncomputable def Zag.l3 (fu : Nat) (k2 : (List S6) → Int → (List S6) → Int → Option (S7 × Unit)) : Nat → (List S8) → Int → Int → (List S6) → Int → (List S6) → Int → Option (S7 × Unit)
 | 0, _, _, _, _, _, _, _ => none
 | m + 1, v, vx2, vx3, c1, c1x2, c2, c2x2 => Zag.b3 fu (Zag.l3 fu k2 m) k2 v vx2 vx3 c1 c1x2 c2 c2x2
noncomputable def Zag (fu : Nat) (rv : S9) : Option (S7 × Unit) :=
 Zag.l3 fu (fun c1q2 c1q2x2 c2q2 c2q2x2 =>
   some ((c2q2, c2q2x2, ()), ())) fu rv.1 (rv.1.length : Int) (0 : Int) [] (0 : Int) [] rv.2.1
noncomputable def Zag.body : Code := Try.f29.body.getD .skip
abbrev Zag.shl3 : Shp := ⟨.u :: .u :: .p 1 0 :: .p 2 0 :: us 6 (.d (.slice kS8) :: .d (.int .i64) :: .d (.int .i64) :: us 30 []), [.c [.u, .u], .c [.o 1050 kS6, .d (.int .u64)], .c [.o 1100 kS6, .d (.int .u64)]]⟩
abbrev Zag.outl3e2 : Shp := ⟨.u :: .u :: .p 1 0 :: .p 2 0 :: us 39 [], [.c [.u, .u], .c [.o 1050 kS6, .d (.int .u64)], .c [.o 1100 kS6, .d (.int .u64)]]⟩
noncomputable def Zag.nml3 : Norm := ⟨Zag.shl3.cut [], [(2, Zag.outl3e2.cut [])]⟩
noncomputable def Zag.con : Con := { ps := [kS9], rs := [kS7], f := fun n x => Zag n x.1 }
abbrev Zag.R : Type := (Kd.struct Zag.con.rs).T
noncomputable def Zag.env : Env := { tys := [(65, ⟨kS9, 32⟩), (68, ⟨kS7, 32⟩), (51, ⟨(.int .u64), 8⟩), (63, ⟨(.slice kS8), 24⟩), (122, ⟨kS8, 96⟩), (3, ⟨(.int .i64), 8⟩), (66, ⟨(.slice kS6), 24⟩), (5, ⟨(.int .u8), 1⟩), (120, ⟨kS5, 32⟩), (4, ⟨.bool, 1⟩), (77, ⟨kS6, 96⟩)], elems := [(63, 122), (66, 77)], ptrs := [], cons := [(65, Zao.con)], objs := [], loops := [(3, Zag.nml3)], cuts := [], globs := globs, base := 0 }
noncomputable def Zag.cl3 (n : Nat) (K : Ex → St → Option Zag.R) (m : Nat) (v : Zag.shl3.T) : Option Zag.R := Zag.l3 n (fun w0 w1 w2 w3 => K (.exit 0) (Zag.outl3e2.enc (w0, w1, w2, w3, ()))) m v.1 v.2.1 v.2.2.1 v.2.2.2.1 v.2.2.2.2.1 v.2.2.2.2.2.1 v.2.2.2.2.2.2.1
noncomputable def Zag.lp (n : Nat) : LP Zag.R := fun lo κ body nm K s =>
 cond (lo && Nat.beq κ 3) (pc Zag.shl3 (Zag.cl3 n K n) (loops n Zag.R lo κ body nm K) s) <|
  loops n Zag.R lo κ body nm K s
noncomputable def Zag.tl3 (n : Nat) := evK (β := Zag.R) Zag.env (Zag.lp n) n (sub [1, 1, 0, 1, 0, 0] Zag.body)
theorem Zag.atl3 (n : Nat) : At n (Zag.lp n) true 3 (Zag.tl3 n) Zag.nml3 := fun s K =>
 ZbR (sh := Zag.shl3) (F := (Zag.cl3 n K n)) (B := loops n _ true 3 (Zag.tl3 n) Zag.nml3 K) (fun v => (Zbc (sh := Zag.shl3) (body := (Zag.tl3 n)) (nm := Zag.nml3) (b := fun nx v => Zag.b3 n (fun x0 x1 x2 x3 x4 x5 x6 => nx (x0, x1, x2, x3, x4, x5, x6, ())) (fun w0 w1 w2 w3 => K (.exit 0) (Zag.outl3e2.enc (w0, w1, w2, w3, ()))) v.1 v.2.1 v.2.2.1 v.2.2.2.1 v.2.2.2.2.1 v.2.2.2.2.2.1 v.2.2.2.2.2.2.1) (l := (Zag.cl3 n K)) (fun _ => rfl) (fun _ _ => rfl) (fun m v => by kernel_rfl) n v).symm) s
theorem Zag.sound : Zbi Try.prog globs 29 Zag.con :=
 ZaS (E := Zag.env) (c := Zag.body) (Zbk (G := globs) (lc := [(65, Zao.con)]) (lo := []) (ZaA (by kernel_rfl)) rfl rfl ⟨.inl ⟨Zao.sound, by kernel_rfl⟩, trivial⟩ rfl trivial (by kernel_rfl) (by kernel_rfl)) Try.func29 (by kernel_rfl) Zag.lp (l := [(true, sub [1, 1, 0, 1, 0, 0] Zag.body, Zag.nml3)]) (by kernel_rfl) (fun n => ⟨Zag.atl3 n, trivial⟩) (fun n x => by kernel_rfl)
noncomputable def ZaB.b5 (fu : Nat) (next : Int → Int → Int → S3 → Option (Bool × Unit)) (k2 : Int → Option (Bool × Unit)) (n : Int) (v : Int) (vx2 : Int) (b0 : S3) : Option (Bool × Unit) :=
 cond (decide (vx2 < v)) (
  chk (ixOk b0.2.2.1 vx2) <|
  let e1 := ixL ((0 : Int), (0 : Int), ((0 : Int), (0 : Int), (0 : Nat), [], ()), ()) b0.2.2.1 vx2
  let t2 := (e1.2.2.1.2.2.2.1.length : Int)
  let t3 := IntKind.i64.wrap (n + min2 t2 (3000 : Int))
  let t4 := IntKind.i64.wrap (vx2 + (1 : Int))
  next t3 v t4 b0) (
  k2 n)
noncomputable def ZaB.l5 (fu : Nat) (k2 : Int → Option (Bool × Unit)) : Nat → Int → Int → Int → S3 → Option (Bool × Unit)
 | 0, _, _, _, _ => none
 | m + 1, n, v, vx2, b0 => ZaB.b5 fu (ZaB.l5 fu k2 m) k2 n v vx2 b0
noncomputable def ZaB (fu : Nat) (p : S3) : Option (Bool × Unit) :=
 let t1 := decide ((p.2.2.1.length : Int) > (20 : Int))
 cond t1 (
  some (true, ())) (
  ZaB.l5 fu (fun nq2 =>
    let t2 := decide (nq2 > (3000 : Int))
    some (t2, ())) fu (p.2.2.1.length : Int) (p.2.2.1.length : Int) (0 : Int) p)
noncomputable def ZaB.body : Code := Try.f66.body.getD .skip
abbrev ZaB.shl5 : Shp := ⟨.u :: .p 0 0 :: .u :: .d (.int .i64) :: us 8 (.d (.int .i64) :: .d (.int .i64) :: us 16 []), [.c [.g kS3]]⟩
abbrev ZaB.outl5e2 : Shp := ⟨us 3 (.d (.int .i64) :: us 26 []), []⟩
noncomputable def ZaB.nml5 : Norm := ⟨ZaB.shl5.cut [], [(2, ZaB.outl5e2.cut [])]⟩
noncomputable def ZaB.con : Con := { ps := [kS3], rs := [.bool], f := fun n x => ZaB n x.1 }
abbrev ZaB.R : Type := (Kd.struct ZaB.con.rs).T
noncomputable def ZaB.env : Env := { tys := [(75, ⟨kS3, 32⟩), (4, ⟨.bool, 1⟩), (73, ⟨(.slice kS2), 24⟩), (88, ⟨kS2, 48⟩), (3, ⟨(.int .i64), 8⟩), (34, ⟨kS1, 40⟩), (9, ⟨.str, 16⟩)], elems := [(73, 88)], ptrs := [], cons := [], objs := [], loops := [(5, ZaB.nml5)], cuts := [], globs := globs, base := 0 }
noncomputable def ZaB.cl5 (n : Nat) (K : Ex → St → Option ZaB.R) (m : Nat) (v : ZaB.shl5.T) : Option ZaB.R := ZaB.l5 n (fun w0 => K (.exit 0) (ZaB.outl5e2.enc (w0, ()))) m v.1 v.2.1 v.2.2.1 v.2.2.2.1
noncomputable def ZaB.lp (n : Nat) : LP ZaB.R := fun lo κ body nm K s =>
 cond (lo && Nat.beq κ 5) (pc ZaB.shl5 (ZaB.cl5 n K n) (loops n ZaB.R lo κ body nm K) s) <|
  loops n ZaB.R lo κ body nm K s
noncomputable def ZaB.tl5 (n : Nat) := evK (β := ZaB.R) ZaB.env (ZaB.lp n) n (sub [1, 1, 1, 0, 1, 0, 0] ZaB.body)
theorem ZaB.atl5 (n : Nat) : At n (ZaB.lp n) true 5 (ZaB.tl5 n) ZaB.nml5 := fun s K =>
 ZbR (sh := ZaB.shl5) (F := (ZaB.cl5 n K n)) (B := loops n _ true 5 (ZaB.tl5 n) ZaB.nml5 K) (fun v => (Zbc (sh := ZaB.shl5) (body := (ZaB.tl5 n)) (nm := ZaB.nml5) (b := fun nx v => ZaB.b5 n (fun x0 x1 x2 x3 => nx (x0, x1, x2, x3, ())) (fun w0 => K (.exit 0) (ZaB.outl5e2.enc (w0, ()))) v.1 v.2.1 v.2.2.1 v.2.2.2.1) (l := (ZaB.cl5 n K)) (fun _ => rfl) (fun _ _ => rfl) (fun m v => by kernel_rfl) n v).symm) s
theorem ZaB.sound : Zbi Try.prog globs 66 ZaB.con :=
 ZaS (E := ZaB.env) (c := ZaB.body) (Zbk (G := globs) (lc := []) (lo := []) (ZaA (by kernel_rfl)) rfl rfl trivial rfl trivial (by kernel_rfl) (by kernel_rfl)) Try.func66 (by kernel_rfl) ZaB.lp (l := [(true, sub [1, 1, 1, 0, 1, 0, 0] ZaB.body, ZaB.nml5)]) (by kernel_rfl) (fun n => ⟨ZaB.atl5 n, trivial⟩) (fun n x => by kernel_rfl)
noncomputable def Zay.b4 (fu : Nat) (next : Int → Int → S7 → Option (Bool × Unit)) (k1 : Bool → Option (Bool × Unit)) (k2 : Unit → Option (Bool × Unit)) (v : Int) (vx2 : Int) (b0 : S7) : Option (Bool × Unit) :=
 cond (decide (vx2 < v)) (
  chk (ixOk b0.1 vx2) <|
  let e1 := ixL ((0 : Int), (false, (0 : Int), [], ()), false, (false, (0 : Int), [], ()), (0 : Int), (0 : Int), (0 : Int), ()) b0.1 vx2
  (ZaB fu e1.2.1).bind fun r2 =>
  cond r2.1 (
   k1 true) (
   chk (ixOk b0.1 vx2) <|
   let e3 := ixL ((0 : Int), (false, (0 : Int), [], ()), false, (false, (0 : Int), [], ()), (0 : Int), (0 : Int), (0 : Int), ()) b0.1 vx2
   (ZaB fu e3.2.2.2.1).bind fun r4 =>
   cond r4.1 (
    k1 true) (
    let t5 := IntKind.i64.wrap (vx2 + (1 : Int))
    next v t5 b0))) (
  k2 ())
noncomputable def Zay.l4 (fu : Nat) (k1 : Bool → Option (Bool × Unit)) (k2 : Unit → Option (Bool × Unit)) : Nat → Int → Int → S7 → Option (Bool × Unit)
 | 0, _, _, _ => none
 | m + 1, v, vx2, b0 => Zay.b4 fu (Zay.l4 fu k1 k2 m) k1 k2 v vx2 b0
noncomputable def Zay (fu : Nat) (p : S7) : Option (Bool × Unit) :=
 let t1 := decide ((p.1.length : Int) > (50 : Int))
 cond t1 (
  some (true, ())) (
  Zay.l4 fu (fun vq3 =>
    some (vq3, ())) (fun (_ : Unit) =>
    some (false, ())) fu (p.1.length : Int) (0 : Int) p)
noncomputable def Zay.body : Code := Try.f30.body.getD .skip
abbrev Zay.shl4 : Shp := ⟨.u :: .p 0 0 :: us 8 (.d (.int .i64) :: .d (.int .i64) :: us 19 []), [.c [.g kS7]]⟩
abbrev Zay.outl4e1 : Shp := ⟨.u :: .u :: .d .bool :: us 28 [], []⟩
abbrev Zay.outl4e2 : Shp := ⟨us 31 [], []⟩
noncomputable def Zay.nml4 : Norm := ⟨Zay.shl4.cut [], [(1, Zay.outl4e1.cut []), (2, Zay.outl4e2.cut [])]⟩
noncomputable def Zay.con : Con := { ps := [kS7], rs := [.bool], f := fun n x => Zay n x.1 }
abbrev Zay.R : Type := (Kd.struct Zay.con.rs).T
noncomputable def Zay.env : Env := { tys := [(68, ⟨kS7, 32⟩), (4, ⟨.bool, 1⟩), (66, ⟨(.slice kS6), 24⟩), (77, ⟨kS6, 96⟩), (3, ⟨(.int .i64), 8⟩), (75, ⟨kS3, 32⟩)], elems := [(66, 77)], ptrs := [], cons := [(66, ZaB.con)], objs := [], loops := [(4, Zay.nml4)], cuts := [], globs := globs, base := 0 }
noncomputable def Zay.cl4 (n : Nat) (K : Ex → St → Option Zay.R) (m : Nat) (v : Zay.shl4.T) : Option Zay.R := Zay.l4 n (fun w0 => K .ret (Zay.outl4e1.enc (w0, ()))) (fun _ => K (.exit 0) (Zay.outl4e2.enc (()))) m v.1 v.2.1 v.2.2.1
noncomputable def Zay.lp (n : Nat) : LP Zay.R := fun lo κ body nm K s =>
 cond (lo && Nat.beq κ 4) (pc Zay.shl4 (Zay.cl4 n K n) (loops n Zay.R lo κ body nm K) s) <|
  loops n Zay.R lo κ body nm K s
noncomputable def Zay.tl4 (n : Nat) := evK (β := Zay.R) Zay.env (Zay.lp n) n (sub [1, 1, 0, 1, 0, 0] Zay.body)
theorem Zay.atl4 (n : Nat) : At n (Zay.lp n) true 4 (Zay.tl4 n) Zay.nml4 := fun s K =>
 ZbR (sh := Zay.shl4) (F := (Zay.cl4 n K n)) (B := loops n _ true 4 (Zay.tl4 n) Zay.nml4 K) (fun v => (Zbc (sh := Zay.shl4) (body := (Zay.tl4 n)) (nm := Zay.nml4) (b := fun nx v => Zay.b4 n (fun x0 x1 x2 => nx (x0, x1, x2, ())) (fun w0 => K .ret (Zay.outl4e1.enc (w0, ()))) (fun _ => K (.exit 0) (Zay.outl4e2.enc (()))) v.1 v.2.1 v.2.2.1) (l := (Zay.cl4 n K)) (fun _ => rfl) (fun _ _ => rfl) (fun m v => by kernel_rfl) n v).symm) s
theorem Zay.sound : Zbi Try.prog globs 30 Zay.con :=
 ZaS (E := Zay.env) (c := Zay.body) (Zbk (G := globs) (lc := [(66, ZaB.con)]) (lo := []) (ZaA (by kernel_rfl)) rfl rfl ⟨.inl ⟨ZaB.sound, by kernel_rfl⟩, trivial⟩ rfl trivial (by kernel_rfl) (by kernel_rfl)) Try.func30 (by kernel_rfl) Zay.lp (l := [(true, sub [1, 1, 0, 1, 0, 0] Zay.body, Zay.nml4)]) (by kernel_rfl) (fun n => ⟨Zay.atl4 n, trivial⟩) (fun n x => by kernel_rfl)
noncomputable def Zax.b5 (fu : Nat) (next : (List (List S6)) → (List S6) → Option ((List (List S6)) × Unit)) (k1 : (List (List S6)) → Option ((List (List S6)) × Unit)) (k2 : (List (List S6)) → Option ((List (List S6)) × Unit)) (out : List (List S6)) (rest : List S6) : Option ((List (List S6)) × Unit) :=
 let t1 := decide ((rest.length : Int) > (0 : Int))
 cond t1 (
  chk (ixOk rest (0 : Int)) <|
  let e2 := ixL ((0 : Int), (false, (0 : Int), [], ()), false, (false, (0 : Int), [], ()), (0 : Int), (0 : Int), (0 : Int), ()) rest (0 : Int)
  let t3 := decide (e2.2.2.2.2.2.2.1 < (0 : Int))
  cond t3 (
   k1 []) (
   let t4 := decide (e2.2.2.2.2.2.2.1 ≥ (rest.length : Int))
   cond t4 (
    k1 []) (
    let t5 := IntKind.i64.wrap (e2.2.2.2.2.2.2.1 + (1 : Int))
    let t6 := IntKind.i64.wrap (e2.2.2.2.2.2.2.1 + (1 : Int))
    chk (cut3 rest (0 : Int) t5 t6) <|
    chk (apOk out ([cutL rest (0 : Int) t5]) 24) <|
    let t7 := out ++ ([cutL rest (0 : Int) t5])
    let t8 := IntKind.i64.wrap (e2.2.2.2.2.2.2.1 + (1 : Int))
    chk (ZfE rest t8 (rest.length : Int)) <|
    let t9 := cutL rest t8 (rest.length : Int)
    next t7 t9))) (
  k2 out)
noncomputable def Zax.l5 (fu : Nat) (k1 : (List (List S6)) → Option ((List (List S6)) × Unit)) (k2 : (List (List S6)) → Option ((List (List S6)) × Unit)) : Nat → (List (List S6)) → (List S6) → Option ((List (List S6)) × Unit)
 | 0, _, _ => none
 | m + 1, out, rest => Zax.b5 fu (Zax.l5 fu k1 k2 m) k1 k2 out rest
noncomputable def Zax (fu : Nat) (l : List S6) : Option ((List (List S6)) × Unit) :=
 let t1 := (l.length : Int) == (0 : Int)
 cond t1 (
  some ([], ())) (
  chk (ixOk l (0 : Int)) <|
  let e2 := ixL ((0 : Int), (false, (0 : Int), [], ()), false, (false, (0 : Int), [], ()), (0 : Int), (0 : Int), (0 : Int), ()) l (0 : Int)
  let t3 := IntKind.i64.wrap ((l.length : Int) - (1 : Int))
  cond (e2.2.2.2.2.2.2.1 != t3) (
   some ([], ())) (
   chk (ZfE l (1 : Int) (l.length : Int)) <|
   let t4 := cutL l (1 : Int) (l.length : Int)
   Zax.l5 fu (fun vq3 =>
     some (vq3, ())) (fun outq4 =>
     some (outq4, ())) fu [] t4))
noncomputable def Zax.body : Code := Try.f84.body.getD .skip
abbrev Zax.shl5 : Shp := ⟨us 3 (.o 3 (.slice kS6) :: .d (.slice kS6) :: us 45 []), []⟩
abbrev Zax.outl5e1 : Shp := ⟨.u :: .u :: .o 2 (.slice kS6) :: us 47 [], []⟩
abbrev Zax.outl5e2 : Shp := ⟨us 3 (.o 3 (.slice kS6) :: us 46 []), []⟩
noncomputable def Zax.nml5 : Norm := ⟨Zax.shl5.cut [], [(1, Zax.outl5e1.cut []), (2, Zax.outl5e2.cut [])]⟩
noncomputable def Zax.con : Con := { ps := [(.slice kS6)], rs := [(.slice (.slice kS6))], f := fun n x => Zax n x.1 }
abbrev Zax.R : Type := (Kd.struct Zax.con.rs).T
noncomputable def Zax.env : Env := { tys := [(140, ⟨(.slice (.slice kS6)), 24⟩), (77, ⟨kS6, 96⟩), (4, ⟨.bool, 1⟩), (3, ⟨(.int .i64), 8⟩), (66, ⟨(.slice kS6), 24⟩)], elems := [(66, 77), (140, 66)], ptrs := [], cons := [], objs := [], loops := [(5, Zax.nml5)], cuts := [], globs := globs, base := 0 }
noncomputable def Zax.cl5 (n : Nat) (K : Ex → St → Option Zax.R) (m : Nat) (v : Zax.shl5.T) : Option Zax.R := Zax.l5 n (fun w0 => K .ret (Zax.outl5e1.enc (w0, ()))) (fun w0 => K (.exit 0) (Zax.outl5e2.enc (w0, ()))) m v.1 v.2.1
noncomputable def Zax.lp (n : Nat) : LP Zax.R := fun lo κ body nm K s =>
 cond (lo && Nat.beq κ 5) (pc Zax.shl5 (Zax.cl5 n K n) (loops n Zax.R lo κ body nm K) s) <|
  loops n Zax.R lo κ body nm K s
noncomputable def Zax.tl5 (n : Nat) := evK (β := Zax.R) Zax.env (Zax.lp n) n (sub [1, 1, 1, 0, 1, 0, 0] Zax.body)
theorem Zax.atl5 (n : Nat) : At n (Zax.lp n) true 5 (Zax.tl5 n) Zax.nml5 := fun s K =>
 ZbR (sh := Zax.shl5) (F := (Zax.cl5 n K n)) (B := loops n _ true 5 (Zax.tl5 n) Zax.nml5 K) (fun v => (Zbc (sh := Zax.shl5) (body := (Zax.tl5 n)) (nm := Zax.nml5) (b := fun nx v => Zax.b5 n (fun x0 x1 => nx (x0, x1, ())) (fun w0 => K .ret (Zax.outl5e1.enc (w0, ()))) (fun w0 => K (.exit 0) (Zax.outl5e2.enc (w0, ()))) v.1 v.2.1) (l := (Zax.cl5 n K)) (fun _ => rfl) (fun _ _ => rfl) (fun m v => by kernel_rfl) n v).symm) s
theorem Zax.sound : Zbi Try.prog globs 84 Zax.con :=
 ZaS (E := Zax.env) (c := Zax.body) (Zbk (G := globs) (lc := []) (lo := []) (ZaA (by kernel_rfl)) rfl rfl trivial rfl trivial (by kernel_rfl) (by kernel_rfl)) Try.func84 (by kernel_rfl) Zax.lp (l := [(true, sub [1, 1, 1, 0, 1, 0, 0] Zax.body, Zax.nml5)]) (by kernel_rfl) (fun n => ⟨Zax.atl5 n, trivial⟩) (fun n x => by kernel_rfl)
noncomputable def ZbS (fu : Nat) (p : S3) : Option (Bool × Unit) :=
 cond (!p.1) (
  cond (p.2.1 == (0 : Int)) (
   let t1 := (p.2.2.1.length : Int) == (0 : Int)
   some (t1, ())) (
   some (false, ()))) (
  some (false, ()))
noncomputable def ZbS.body : Code := Try.f131.body.getD .skip
noncomputable def ZbS.con : Con := { ps := [kS3], rs := [.bool], f := fun n x => ZbS n x.1 }
abbrev ZbS.R : Type := (Kd.struct ZbS.con.rs).T
noncomputable def ZbS.env : Env := { tys := [(75, ⟨kS3, 32⟩), (4, ⟨.bool, 1⟩), (5, ⟨(.int .u8), 1⟩), (73, ⟨(.slice kS2), 24⟩), (88, ⟨kS2, 48⟩)], elems := [(73, 88)], ptrs := [], cons := [], objs := [], loops := [], cuts := [], globs := globs, base := 0 }
noncomputable def ZbS.lp (n : Nat) : LP ZbS.R := fun lo κ body nm K s =>
 loops n ZbS.R lo κ body nm K s
theorem ZbS.sound : Zbi Try.prog globs 131 ZbS.con :=
 ZaS (E := ZbS.env) (c := ZbS.body) (Zbk (G := globs) (lc := []) (lo := []) (ZaA (by kernel_rfl)) rfl rfl trivial rfl trivial (by kernel_rfl) (by kernel_rfl)) Try.func131 (by kernel_rfl) ZbS.lp (l := []) (by kernel_rfl) (fun n => trivial) (fun n x => by kernel_rfl)
noncomputable def Zau.j4 (fu : Nat) (k1 : Bool → Option (Bool × Unit)) (parts : Int) (bare : Bool) (b0 : S6) : Option (Bool × Unit) :=
 cond (b0.1 == (1 : Int)) (
  cond bare (
   cond (!b0.2.2.1) (
    let t1 := b0.2.2.2.2.2.2.1 == (0 : Int)
    k1 t1) (
    k1 false)) (
   k1 false)) (
  cond (b0.1 == (2 : Int)) (
   cond bare (
    let t2 := decide (parts ≥ (2 : Int))
    k1 t2) (
    k1 false)) (
   cond (b0.1 == (3 : Int)) (
    cond bare (
     let t3 := decide (parts ≥ (2 : Int))
     cond t3 (
      k1 (!b0.2.2.1)) (
      k1 false)) (
     k1 false)) (
    cond (b0.1 == (4 : Int)) (
     cond (parts == (1 : Int)) (
      let t4 := decide (b0.2.2.2.2.1 ≥ (1 : Int))
      cond t4 (
       let t5 := decide (b0.2.2.2.2.1 ≤ b0.2.2.2.2.2.1)
       cond t5 (
        let t6 := decide (b0.2.2.2.2.2.1 ≤ (8 : Int))
        k1 t6) (
        k1 false)) (
       k1 false)) (
      k1 false)) (
     k1 false))))
noncomputable def Zau.j2 (fu : Nat) (k1 : Bool → Option (Bool × Unit)) (parts : Int) (bare : Bool) (b0 : S6) : Option (Bool × Unit) :=
 cond (b0.1 != (1 : Int)) (
  (ZbS fu b0.2.1).bind fun r1 =>
  cond (!r1.1) (
   k1 false) (
   cond (!b0.2.2.1) (
    (ZbS fu b0.2.2.2.1).bind fun r2 =>
    cond (!r2.1) (
     k1 false) (
     Zau.j4 fu (fun vq3 =>
       k1 vq3) parts bare b0)) (
    Zau.j4 fu (fun vq4 =>
      k1 vq4) parts bare b0))) (
  cond (!b0.2.2.1) (
   (ZbS fu b0.2.2.2.1).bind fun r3 =>
   cond (!r3.1) (
    k1 false) (
    Zau.j4 fu (fun vq5 =>
      k1 vq5) parts bare b0)) (
   Zau.j4 fu (fun vq6 =>
     k1 vq6) parts bare b0))
noncomputable def Zau (fu : Nat) (xv : S6) (parts : Int) : Option (Bool × Unit) :=
 let t1 := xv.2.2.2.2.1 == (0 : Int)
 cond t1 (
  let t2 := xv.2.2.2.2.2.1 == (0 : Int)
  Zau.j2 fu (fun vq1 =>
    some (vq1, ())) parts t2 xv) (
  Zau.j2 fu (fun vq2 =>
    some (vq2, ())) parts false xv)
noncomputable def Zau.body : Code := Try.f116.body.getD .skip
abbrev Zau.shj4 : Shp := ⟨.u :: .d (.int .i64) :: .p 0 0 :: .u :: .u :: .d .bool :: us 83 [], [.c [.g kS6]]⟩
abbrev Zau.outj4e1 : Shp := ⟨us 4 (.d .bool :: us 84 []), []⟩
noncomputable def Zau.nmj4 : Norm := ⟨Zau.shj4.cut [], [(1, Zau.outj4e1.cut [])]⟩
abbrev Zau.shj2 : Shp := ⟨.u :: .d (.int .i64) :: .p 0 0 :: .u :: .u :: .d .bool :: us 83 [], [.c [.g kS6]]⟩
abbrev Zau.outj2e1 : Shp := ⟨us 4 (.d .bool :: us 84 []), []⟩
noncomputable def Zau.nmj2 : Norm := ⟨Zau.shj2.cut [], [(1, Zau.outj2e1.cut [])]⟩
noncomputable def Zau.con : Con := { ps := [kS6, (.int .i64)], rs := [.bool], f := fun n x => Zau n x.1 x.2.1 }
abbrev Zau.R : Type := (Kd.struct Zau.con.rs).T
noncomputable def Zau.env : Env := { tys := [(77, ⟨kS6, 96⟩), (4, ⟨.bool, 1⟩), (5, ⟨(.int .u8), 1⟩), (75, ⟨kS3, 32⟩), (3, ⟨(.int .i64), 8⟩)], elems := [], ptrs := [], cons := [(131, ZbS.con)], objs := [], loops := [], cuts := [(4, Zau.nmj4), (2, Zau.nmj2)], globs := globs, base := 0 }
noncomputable def Zau.cj4 (n : Nat) (K : Ex → St → Option Zau.R) (v : Zau.shj4.T) : Option Zau.R := Zau.j4 n (fun w0 => K .ret (Zau.outj4e1.enc (w0, ()))) v.1 v.2.1 v.2.2.1
noncomputable def Zau.cj2 (n : Nat) (K : Ex → St → Option Zau.R) (v : Zau.shj2.T) : Option Zau.R := Zau.j2 n (fun w0 => K .ret (Zau.outj2e1.enc (w0, ()))) v.1 v.2.1 v.2.2.1
noncomputable def Zau.lp (n : Nat) : LP Zau.R := fun lo κ body nm K s =>
 cond (!lo && Nat.beq κ 4) (pc Zau.shj4 (Zau.cj4 n K) (loops n Zau.R lo κ body nm K) s) <|
  cond (!lo && Nat.beq κ 2) (pc Zau.shj2 (Zau.cj2 n K) (loops n Zau.R lo κ body nm K) s) <|
  loops n Zau.R lo κ body nm K s
noncomputable def Zau.tj4 (n : Nat) := evK (β := Zau.R) Zau.env (Zau.lp n) n (sub [1, 1, 1] Zau.body)
theorem Zau.atj4 (n : Nat) : At n (Zau.lp n) false 4 (Zau.tj4 n) Zau.nmj4 := fun s K =>
 ZbR (sh := Zau.shj4) (F := (Zau.cj4 n K)) (B := loops n _ false 4 (Zau.tj4 n) Zau.nmj4 K) (fun v => by kernel_rfl) s
noncomputable def Zau.tj2 (n : Nat) := evK (β := Zau.R) Zau.env (Zau.lp n) n (sub [1, 1] Zau.body)
theorem Zau.atj2 (n : Nat) : At n (Zau.lp n) false 2 (Zau.tj2 n) Zau.nmj2 := fun s K =>
 ZbR (sh := Zau.shj2) (F := (Zau.cj2 n K)) (B := loops n _ false 2 (Zau.tj2 n) Zau.nmj2 K) (fun v => by kernel_rfl) s
theorem Zau.sound : Zbi Try.prog globs 116 Zau.con :=
 ZaS (E := Zau.env) (c := Zau.body) (Zbk (G := globs) (lc := [(131, ZbS.con)]) (lo := []) (ZaA (by kernel_rfl)) rfl rfl ⟨.inl ⟨ZbS.sound, by kernel_rfl⟩, trivial⟩ rfl trivial (by kernel_rfl) (by kernel_rfl)) Try.func116 (by kernel_rfl) Zau.lp (l := [(false, sub [1, 1, 1] Zau.body, Zau.nmj4), (false, sub [1, 1] Zau.body, Zau.nmj2)]) (by kernel_rfl) (fun n => ⟨Zau.atj4 n, ⟨Zau.atj2 n, trivial⟩⟩) (fun n x => by kernel_rfl)
noncomputable def Zbo (fu : Nat) (StreeFormed : (List S6) → Option (Bool × Unit)) (p : List S6) : Option (Bool × Unit) :=
 (StreeFormed p).bind fun r1 =>
 some (!r1.1, ())
noncomputable def Zaf.b2 (fu : Nat) (StreeFormed : (List S6) → Option (Bool × Unit)) (next : (List (List S6)) → Int → Int → Option ((Int × Unit) × (Unit))) (k1 : Int → Option ((Int × Unit) × (Unit))) (k2 : Unit → Option ((Int × Unit) × (Unit))) (sv : List (List S6)) (v : Int) (vx2 : Int) : Option ((Int × Unit) × (Unit)) :=
 cond (decide (vx2 < v)) (
  chk (ixOk sv vx2) <|
  let e1 := ixL [] sv vx2
  (Zbo fu StreeFormed e1).bind fun r2 =>
  cond r2.1 (
   k1 vx2) (
   let t3 := IntKind.i64.wrap (vx2 + (1 : Int))
   next sv v t3)) (
  k2 ())
noncomputable def Zaf.l2 (fu : Nat) (StreeFormed : (List S6) → Option (Bool × Unit)) (k1 : Int → Option ((Int × Unit) × (Unit))) (k2 : Unit → Option ((Int × Unit) × (Unit))) : Nat → (List (List S6)) → Int → Int → Option ((Int × Unit) × (Unit))
 | 0, _, _, _ => none
 | m + 1, sv, v, vx2 => Zaf.b2 fu StreeFormed (Zaf.l2 fu StreeFormed k1 k2 m) k1 k2 sv v vx2
noncomputable def Zaf (fu : Nat) (StreeFormed : (List S6) → Option (Bool × Unit)) (sv : List (List S6)) : Option ((Int × Unit) × (Unit)) :=
 Zaf.l2 fu StreeFormed (fun vq3 =>
   some ((vq3, ()), (()))) (fun (_ : Unit) =>
   some (((-1 : Int), ()), (()))) fu sv (sv.length : Int) (0 : Int)
noncomputable def ZaM (fu : Nat) (StreeFormed : (List S6) → Option (Bool × Unit)) (sv : List (List S6)) : Option ((Bool × Unit) × (Unit)) :=
 (Zaf fu StreeFormed sv).bind fun r1 =>
 let t2 := decide (r1.1.1 ≥ (0 : Int))
 some ((t2, ()), (()))
noncomputable def ZaL.bd (fu : Nat) (StreeFormed : (List S6) → Option (Bool × Unit)) (l : List S6) : Option (Bool × Unit) :=
 (Zax fu l).bind fun r1 =>
 let t2 := (l.length : Int) == (0 : Int)
 cond t2 (
  some (false, ())) (
  chk (ixOk l (0 : Int)) <|
  let e3 := ixL ((0 : Int), (false, (0 : Int), [], ()), false, (false, (0 : Int), [], ()), (0 : Int), (0 : Int), (0 : Int), ()) l (0 : Int)
  (Zau fu e3 (r1.1.length : Int)).bind fun r4 =>
  cond (!r4.1) (
   some (false, ())) (
   chk (ixOk l (0 : Int)) <|
   let e5 := ixL ((0 : Int), (false, (0 : Int), [], ()), false, (false, (0 : Int), [], ()), (0 : Int), (0 : Int), (0 : Int), ()) l (0 : Int)
   let t6 := IntKind.i64.wrap ((l.length : Int) - (1 : Int))
   cond (e5.2.2.2.2.2.2.1 != t6) (
    some (false, ())) (
    (ZaM fu StreeFormed r1.1).bind fun r7 =>
    some (!r7.1.1, ()))))
noncomputable def ZaL (fu : Nat) (m : Nat) : (List S6) → Option (Bool × Unit) :=
 Nat.rec (fun _ => none) (fun _ StreeFormed => ZaL.bd fu StreeFormed) m
noncomputable def ZaL.conM (m : Nat) : Con := { ps := [(.slice kS6)], rs := [.bool], f := fun n x => ZaL n m x.1 }
noncomputable def ZaL.con : Con := { ps := [(.slice kS6)], rs := [.bool], f := fun n x => ZaL n n x.1 }
noncomputable def Zbo.body : Code := Try.f118.body.getD .skip
noncomputable def Zbo.con (mtreeFormed : Nat) : Con := { ps := [(.slice kS6)], rs := [.bool], f := fun n x => Zbo n (ZaL n mtreeFormed) x.1 }
abbrev Zbo.R (mtreeFormed : Nat) : Type := (Kd.struct (Zbo.con mtreeFormed).rs).T
noncomputable def Zbo.env (mtreeFormed : Nat) : Env := { tys := [(4, ⟨.bool, 1⟩)], elems := [], ptrs := [], cons := [(72, (ZaL.conM mtreeFormed))], objs := [], loops := [], cuts := [], globs := globs, base := 0 }
noncomputable def Zbo.lp (mtreeFormed : Nat) (n : Nat) : LP (Zbo.R mtreeFormed) := fun lo κ body nm K s =>
 loops n (Zbo.R mtreeFormed) lo κ body nm K s
theorem Zbo.sound (mtreeFormed : Nat) (ihtreeFormed : Zbi Try.prog globs 72 (ZaL.conM mtreeFormed)) : Zbi Try.prog globs 118 (Zbo.con mtreeFormed) :=
 ZaS (E := (Zbo.env mtreeFormed)) (c := Zbo.body) (Zbk (G := globs) (lc := [(72, (ZaL.conM mtreeFormed))]) (lo := []) (ZaA (by kernel_rfl)) rfl rfl ⟨.inl ⟨ihtreeFormed, by kernel_rfl⟩, trivial⟩ rfl trivial (by kernel_rfl) (by kernel_rfl)) Try.func118 (by kernel_rfl) (Zbo.lp mtreeFormed) (l := []) (by kernel_rfl) (fun n => trivial) (fun n x => by kernel_rfl)
noncomputable def Zaf.body : Code := Try.f132.body.getD .skip
abbrev Zaf.shl2 : Shp := ⟨.d (.slice (.slice kS6)) :: .f 118 :: us 5 (.d (.int .i64) :: .d (.int .i64) :: us 10 []), []⟩
abbrev Zaf.outl2e1 : Shp := ⟨us 4 (.d (.int .i64) :: us 14 []), []⟩
abbrev Zaf.outl2e2 : Shp := ⟨us 19 [], []⟩
noncomputable def Zaf.nml2 : Norm := ⟨Zaf.shl2.cut [], [(1, Zaf.outl2e1.cut []), (2, Zaf.outl2e2.cut [])]⟩
noncomputable def Zaf.con (mtreeFormed : Nat) : OCon := { ps := [.dat (.slice (.slice kS6)), .fn 118], rs := [.dat (.int .i64)], f := fun n x => Zaf n (ZaL n mtreeFormed) x.1 }
abbrev Zaf.R (mtreeFormed : Nat) : Type := (RT (Zaf.con mtreeFormed).rs × BT (Zaf.con mtreeFormed).ps)
noncomputable def Zaf.env (mtreeFormed : Nat) : Env := { tys := [(3, ⟨(.int .i64), 8⟩), (66, ⟨(.slice kS6), 24⟩)], elems := [(140, 66)], ptrs := [], cons := [(118, (Zbo.con mtreeFormed))], objs := [], loops := [(2, Zaf.nml2)], cuts := [], globs := globs, base := 0 }
noncomputable def Zaf.cl2 (mtreeFormed : Nat) (n : Nat) (K : Ex → St → Option (Zaf.R mtreeFormed)) (m : Nat) (v : Zaf.shl2.T) : Option (Zaf.R mtreeFormed) := Zaf.l2 n (ZaL n mtreeFormed) (fun w0 => K .ret (Zaf.outl2e1.enc (w0, ()))) (fun _ => K (.exit 0) (Zaf.outl2e2.enc (()))) m v.1 v.2.1 v.2.2.1
noncomputable def Zaf.lp (mtreeFormed : Nat) (n : Nat) : LP (Zaf.R mtreeFormed) := fun lo κ body nm K s =>
 cond (lo && Nat.beq κ 2) (pc Zaf.shl2 (Zaf.cl2 mtreeFormed n K n) (loops n (Zaf.R mtreeFormed) lo κ body nm K) s) <|
  loops n (Zaf.R mtreeFormed) lo κ body nm K s
noncomputable def Zaf.tl2 (mtreeFormed : Nat) (n : Nat) := evK (β := (Zaf.R mtreeFormed)) (Zaf.env mtreeFormed) (Zaf.lp mtreeFormed n) n (sub [1, 0, 1, 0, 0] Zaf.body)
theorem Zaf.atl2 (mtreeFormed : Nat) (n : Nat) : At n (Zaf.lp mtreeFormed n) true 2 (Zaf.tl2 mtreeFormed n) Zaf.nml2 := fun s K =>
 ZbR (sh := Zaf.shl2) (F := (Zaf.cl2 mtreeFormed n K n)) (B := loops n _ true 2 (Zaf.tl2 mtreeFormed n) Zaf.nml2 K) (fun v => (Zbc (sh := Zaf.shl2) (body := (Zaf.tl2 mtreeFormed n)) (nm := Zaf.nml2) (b := fun nx v => Zaf.b2 n (ZaL n mtreeFormed) (fun x0 x1 x2 => nx (x0, x1, x2, ())) (fun w0 => K .ret (Zaf.outl2e1.enc (w0, ()))) (fun _ => K (.exit 0) (Zaf.outl2e2.enc (()))) v.1 v.2.1 v.2.2.1) (l := (Zaf.cl2 mtreeFormed n K)) (fun _ => rfl) (fun _ _ => rfl) (fun m v => by kernel_rfl) n v).symm) s
theorem Zaf.sound (mtreeFormed : Nat) (ihtreeFormed : Zbi Try.prog globs 72 (ZaL.conM mtreeFormed)) : ZbP Try.prog globs 132 (Zaf.con mtreeFormed) :=
 Zbl (E := (Zaf.env mtreeFormed)) (c := Zaf.body) (Zbk (G := globs) (lc := [(118, (Zbo.con mtreeFormed))]) (lo := []) (ZaA (by kernel_rfl)) rfl rfl ⟨.inl ⟨(Zbo.sound mtreeFormed ihtreeFormed), by kernel_rfl⟩, trivial⟩ rfl trivial (by kernel_rfl) (by kernel_rfl)) Try.func132 (by kernel_rfl) (by kernel_rfl) (by kernel_rfl) (Zaf.lp mtreeFormed) (l := [(true, sub [1, 0, 1, 0, 0] Zaf.body, Zaf.nml2)]) (by kernel_rfl) (fun n => ⟨Zaf.atl2 mtreeFormed n, trivial⟩) (fun n x => by kernel_rfl)
noncomputable def ZaM.body : Code := Try.f117.body.getD .skip
noncomputable def ZaM.con (mtreeFormed : Nat) : OCon := { ps := [.dat (.slice (.slice kS6)), .fn 118], rs := [.dat .bool], f := fun n x => ZaM n (ZaL n mtreeFormed) x.1 }
abbrev ZaM.R (mtreeFormed : Nat) : Type := (RT (ZaM.con mtreeFormed).rs × BT (ZaM.con mtreeFormed).ps)
noncomputable def ZaM.env (mtreeFormed : Nat) : Env := { tys := [(4, ⟨.bool, 1⟩)], elems := [], ptrs := [], cons := [], objs := [(132, [(Zaf.con mtreeFormed)])], loops := [], cuts := [], globs := globs, base := 0 }
noncomputable def ZaM.lp (mtreeFormed : Nat) (n : Nat) : LP (ZaM.R mtreeFormed) := fun lo κ body nm K s =>
 loops n (ZaM.R mtreeFormed) lo κ body nm K s
theorem ZaM.sound (mtreeFormed : Nat) (ihtreeFormed : Zbi Try.prog globs 72 (ZaL.conM mtreeFormed)) : ZbP Try.prog globs 117 (ZaM.con mtreeFormed) :=
 Zbl (E := (ZaM.env mtreeFormed)) (c := ZaM.body) (Zbk (G := globs) (lc := []) (lo := [(132, [(Zaf.con mtreeFormed)])]) (ZaA (by kernel_rfl)) rfl rfl trivial rfl ⟨⟨⟨(Zaf.sound mtreeFormed ihtreeFormed), trivial⟩, by kernel_rfl⟩, trivial⟩ (by kernel_rfl) (by kernel_rfl)) Try.func117 (by kernel_rfl) (by kernel_rfl) (by kernel_rfl) (ZaM.lp mtreeFormed) (l := []) (by kernel_rfl) (fun n => trivial) (fun n x => by kernel_rfl)
noncomputable def ZaL.body : Code := Try.f72.body.getD .skip
abbrev ZaL.R (mtreeFormed : Nat) : Type := (Kd.struct (ZaL.conM (Nat.succ mtreeFormed)).rs).T
noncomputable def ZaL.env (mtreeFormed : Nat) : Env := { tys := [(4, ⟨.bool, 1⟩), (77, ⟨kS6, 96⟩), (66, ⟨(.slice kS6), 24⟩), (3, ⟨(.int .i64), 8⟩)], elems := [(66, 77), (140, 66)], ptrs := [], cons := [(84, Zax.con), (116, Zau.con)], objs := [(117, [(ZaM.con mtreeFormed)])], loops := [], cuts := [], globs := globs, base := 0 }
noncomputable def ZaL.lp (mtreeFormed : Nat) (n : Nat) : LP (ZaL.R mtreeFormed) := fun lo κ body nm K s =>
 loops n (ZaL.R mtreeFormed) lo κ body nm K s
theorem ZaL.step (mtreeFormed : Nat) (ihtreeFormed : Zbi Try.prog globs 72 (ZaL.conM mtreeFormed)) : Zbi Try.prog globs 72 (ZaL.conM (Nat.succ mtreeFormed)) :=
 ZaS (E := (ZaL.env mtreeFormed)) (c := ZaL.body) (Zbk (G := globs) (lc := [(84, Zax.con), (116, Zau.con)]) (lo := [(117, [(ZaM.con mtreeFormed)])]) (ZaA (by kernel_rfl)) rfl rfl ⟨.inl ⟨Zax.sound, by kernel_rfl⟩, ⟨.inl ⟨Zau.sound, by kernel_rfl⟩, trivial⟩⟩ rfl ⟨⟨⟨(ZaM.sound mtreeFormed ihtreeFormed), trivial⟩, by kernel_rfl⟩, trivial⟩ (by kernel_rfl) (by kernel_rfl)) Try.func72 (by kernel_rfl) (ZaL.lp mtreeFormed) (l := []) (by kernel_rfl) (fun n => trivial) (fun n x => by kernel_rfl)
theorem ZaL.soundM (m : Nat) : Zbi Try.prog globs 72 (ZaL.conM m) := by
 induction m with
 | zero => intro n x r h; cases (show none = some r from h)
 | succ m ih => exact ZaL.step m ih
theorem ZaL.sound : Zbi Try.prog globs 72 ZaL.con :=
 Zdx (ps := [(.slice kS6)]) (rs := [.bool]) (F := fun n m x => ZaL n m x.1) (ZaL.soundM)
noncomputable def ZbO (fu : Nat) (v : S1) : Option (S1 × Unit) :=
 cond (v.1 == (1 : Int)) (
  some ((v.1, v.2.1, (0 : Nat), [], ()), ())) (
  cond (v.1 == (2 : Int)) (
   some ((v.1, (0 : Int), v.2.2.1, [], ()), ())) (
   cond (v.1 == (3 : Int)) (
    some ((v.1, (0 : Int), (0 : Nat), v.2.2.2.1, ()), ())) (
    some ((v.1, (0 : Int), (0 : Nat), [], ()), ()))))
noncomputable def ZbO.body : Code := Try.f94.body.getD .skip
noncomputable def ZbO.con : Con := { ps := [kS1], rs := [kS1], f := fun n x => ZbO n x.1 }
abbrev ZbO.R : Type := (Kd.struct ZbO.con.rs).T
noncomputable def ZbO.env : Env := { tys := [(34, ⟨kS1, 40⟩), (5, ⟨(.int .u8), 1⟩), (2, ⟨(.int .i64), 8⟩), (32, ⟨.flt, 8⟩), (9, ⟨.str, 16⟩)], elems := [], ptrs := [], cons := [], objs := [], loops := [], cuts := [], globs := globs, base := 0 }
noncomputable def ZbO.lp (n : Nat) : LP ZbO.R := fun lo κ body nm K s =>
 loops n ZbO.R lo κ body nm K s
theorem ZbO.sound : Zbi Try.prog globs 94 ZbO.con :=
 ZaS (E := ZbO.env) (c := ZbO.body) (Zbk (G := globs) (lc := []) (lo := []) (ZaA (by kernel_rfl)) rfl rfl trivial rfl trivial (by kernel_rfl) (by kernel_rfl)) Try.func94 (by kernel_rfl) ZbO.lp (l := []) (by kernel_rfl) (fun n => trivial) (fun n x => by kernel_rfl)
noncomputable def ZbH (fu : Nat) (v : S1) : Option (Bool × Unit) :=
 (ZbO fu v).bind fun r1 =>
 cond (decide (v.1 ≤ (3 : Int))) (
  let t2 := decide ((v.2.2.2.1.length : Int) ≤ (255 : Int))
  cond t2 (
   cond (r1.1.2.1 == v.2.1) (
    let t3 := r1.1.2.2.2.1 == v.2.2.2.1
    cond t3 (
     (ZcF.f fu (r1.1.2.2.1, ())).bind fun r4 =>
     (ZcF.f fu (v.2.2.1, ())).bind fun r5 =>
     some (r4.1 == r5.1, ())) (
     some (false, ()))) (
    some (false, ()))) (
   some (false, ()))) (
  some (false, ()))
noncomputable def ZbH.body : Code := Try.f59.body.getD .skip
noncomputable def ZbH.con : Con := { ps := [kS1], rs := [.bool], f := fun n x => ZbH n x.1 }
abbrev ZbH.R : Type := (Kd.struct ZbH.con.rs).T
noncomputable def ZbH.env : Env := { tys := [(34, ⟨kS1, 40⟩), (4, ⟨.bool, 1⟩), (5, ⟨(.int .u8), 1⟩), (9, ⟨.str, 16⟩), (2, ⟨(.int .i64), 8⟩), (32, ⟨.flt, 8⟩)], elems := [], ptrs := [], cons := [(94, ZbO.con), (92, ZcF)], objs := [], loops := [], cuts := [], globs := globs, base := 0 }
noncomputable def ZbH.lp (n : Nat) : LP ZbH.R := fun lo κ body nm K s =>
 loops n ZbH.R lo κ body nm K s
theorem ZbH.sound : Zbi Try.prog globs 59 ZbH.con :=
 ZaS (E := ZbH.env) (c := ZbH.body) (Zbk (G := globs) (lc := [(94, ZbO.con), (92, ZcF)]) (lo := []) (ZaA (by kernel_rfl)) rfl rfl ⟨.inl ⟨ZbO.sound, by kernel_rfl⟩, ⟨.inr (Zfv Try.func92 (by kernel_rfl) (by kernel_rfl) (by kernel_rfl) (by kernel_rfl)), trivial⟩⟩ rfl trivial (by kernel_rfl) (by kernel_rfl)) Try.func59 (by kernel_rfl) ZbH.lp (l := []) (by kernel_rfl) (fun n => trivial) (fun n x => by kernel_rfl)
noncomputable def Zbt (fu : Nat) (tv : S2) : Option (Bool × Unit) :=
 (ZbH fu tv.2.2.1).bind fun r1 =>
 cond (!r1.1) (
  some (false, ())) (
  cond (tv.2.1 == (7 : Int)) (
   some (tv.2.2.1.1 == (0 : Int), ())) (
   cond (tv.2.1 == (8 : Int)) (
    some (tv.2.2.1.1 == (3 : Int), ())) (
    let t2 := decide (tv.2.1 ≥ (1 : Int))
    cond t2 (
     let t3 := decide (tv.2.1 ≤ (6 : Int))
     cond t3 (
      some (tv.2.2.1.1 != (0 : Int), ())) (
      some (false, ()))) (
     some (false, ())))))
noncomputable def Zbt.body : Code := Try.f115.body.getD .skip
noncomputable def Zbt.con : Con := { ps := [kS2], rs := [.bool], f := fun n x => Zbt n x.1 }
abbrev Zbt.R : Type := (Kd.struct Zbt.con.rs).T
noncomputable def Zbt.env : Env := { tys := [(88, ⟨kS2, 48⟩), (4, ⟨.bool, 1⟩), (34, ⟨kS1, 40⟩), (5, ⟨(.int .u8), 1⟩)], elems := [], ptrs := [], cons := [(59, ZbH.con)], objs := [], loops := [], cuts := [], globs := globs, base := 0 }
noncomputable def Zbt.lp (n : Nat) : LP Zbt.R := fun lo κ body nm K s =>
 loops n Zbt.R lo κ body nm K s
theorem Zbt.sound : Zbi Try.prog globs 115 Zbt.con :=
 ZaS (E := Zbt.env) (c := Zbt.body) (Zbk (G := globs) (lc := [(59, ZbH.con)]) (lo := []) (ZaA (by kernel_rfl)) rfl rfl ⟨.inl ⟨ZbH.sound, by kernel_rfl⟩, trivial⟩ rfl trivial (by kernel_rfl) (by kernel_rfl)) Try.func115 (by kernel_rfl) Zbt.lp (l := []) (by kernel_rfl) (fun n => trivial) (fun n x => by kernel_rfl)
noncomputable def Zci (fu : Nat) (tv : S2) : Option (Bool × Unit) :=
 (Zbt fu tv).bind fun r1 =>
 some (!r1.1, ())
noncomputable def Zci.body : Code := Try.f114.body.getD .skip
noncomputable def Zci.con : Con := { ps := [kS2], rs := [.bool], f := fun n x => Zci n x.1 }
abbrev Zci.R : Type := (Kd.struct Zci.con.rs).T
noncomputable def Zci.env : Env := { tys := [(88, ⟨kS2, 48⟩), (4, ⟨.bool, 1⟩)], elems := [], ptrs := [], cons := [(115, Zbt.con)], objs := [], loops := [], cuts := [], globs := globs, base := 0 }
noncomputable def Zci.lp (n : Nat) : LP Zci.R := fun lo κ body nm K s =>
 loops n Zci.R lo κ body nm K s
theorem Zci.sound : Zbi Try.prog globs 114 Zci.con :=
 ZaS (E := Zci.env) (c := Zci.body) (Zbk (G := globs) (lc := [(115, Zbt.con)]) (lo := []) (ZaA (by kernel_rfl)) rfl rfl ⟨.inl ⟨Zbt.sound, by kernel_rfl⟩, trivial⟩ rfl trivial (by kernel_rfl) (by kernel_rfl)) Try.func114 (by kernel_rfl) Zci.lp (l := []) (by kernel_rfl) (fun n => trivial) (fun n x => by kernel_rfl)
noncomputable def Zae.b2 (fu : Nat) (next : (List S2) → Int → Int → Option ((Int × Unit) × (Unit))) (k1 : Int → Option ((Int × Unit) × (Unit))) (k2 : Unit → Option ((Int × Unit) × (Unit))) (sv : List S2) (v : Int) (vx2 : Int) : Option ((Int × Unit) × (Unit)) :=
 cond (decide (vx2 < v)) (
  chk (ixOk sv vx2) <|
  let e1 := ixL ((0 : Int), (0 : Int), ((0 : Int), (0 : Int), (0 : Nat), [], ()), ()) sv vx2
  (Zci fu e1).bind fun r2 =>
  cond r2.1 (
   k1 vx2) (
   let t3 := IntKind.i64.wrap (vx2 + (1 : Int))
   next sv v t3)) (
  k2 ())
noncomputable def Zae.l2 (fu : Nat) (k1 : Int → Option ((Int × Unit) × (Unit))) (k2 : Unit → Option ((Int × Unit) × (Unit))) : Nat → (List S2) → Int → Int → Option ((Int × Unit) × (Unit))
 | 0, _, _, _ => none
 | m + 1, sv, v, vx2 => Zae.b2 fu (Zae.l2 fu k1 k2 m) k1 k2 sv v vx2
noncomputable def Zae (fu : Nat) (sv : List S2) : Option ((Int × Unit) × (Unit)) :=
 Zae.l2 fu (fun vq3 =>
   some ((vq3, ()), (()))) (fun (_ : Unit) =>
   some (((-1 : Int), ()), (()))) fu sv (sv.length : Int) (0 : Int)
noncomputable def Zae.body : Code := Try.f130.body.getD .skip
abbrev Zae.shl2 : Shp := ⟨.d (.slice kS2) :: .f 114 :: us 5 (.d (.int .i64) :: .d (.int .i64) :: us 10 []), []⟩
abbrev Zae.outl2e1 : Shp := ⟨us 4 (.d (.int .i64) :: us 14 []), []⟩
abbrev Zae.outl2e2 : Shp := ⟨us 19 [], []⟩
noncomputable def Zae.nml2 : Norm := ⟨Zae.shl2.cut [], [(1, Zae.outl2e1.cut []), (2, Zae.outl2e2.cut [])]⟩
noncomputable def Zae.con : OCon := { ps := [.dat (.slice kS2), .fn 114], rs := [.dat (.int .i64)], f := fun n x => Zae n x.1 }
abbrev Zae.R : Type := (RT Zae.con.rs × BT Zae.con.ps)
noncomputable def Zae.env : Env := { tys := [(3, ⟨(.int .i64), 8⟩), (88, ⟨kS2, 48⟩)], elems := [(73, 88)], ptrs := [], cons := [(114, Zci.con)], objs := [], loops := [(2, Zae.nml2)], cuts := [], globs := globs, base := 0 }
noncomputable def Zae.cl2 (n : Nat) (K : Ex → St → Option Zae.R) (m : Nat) (v : Zae.shl2.T) : Option Zae.R := Zae.l2 n (fun w0 => K .ret (Zae.outl2e1.enc (w0, ()))) (fun _ => K (.exit 0) (Zae.outl2e2.enc (()))) m v.1 v.2.1 v.2.2.1
noncomputable def Zae.lp (n : Nat) : LP Zae.R := fun lo κ body nm K s =>
 cond (lo && Nat.beq κ 2) (pc Zae.shl2 (Zae.cl2 n K n) (loops n Zae.R lo κ body nm K) s) <|
  loops n Zae.R lo κ body nm K s
noncomputable def Zae.tl2 (n : Nat) := evK (β := Zae.R) Zae.env (Zae.lp n) n (sub [1, 0, 1, 0, 0] Zae.body)
theorem Zae.atl2 (n : Nat) : At n (Zae.lp n) true 2 (Zae.tl2 n) Zae.nml2 := fun s K =>
 ZbR (sh := Zae.shl2) (F := (Zae.cl2 n K n)) (B := loops n _ true 2 (Zae.tl2 n) Zae.nml2 K) (fun v => (Zbc (sh := Zae.shl2) (body := (Zae.tl2 n)) (nm := Zae.nml2) (b := fun nx v => Zae.b2 n (fun x0 x1 x2 => nx (x0, x1, x2, ())) (fun w0 => K .ret (Zae.outl2e1.enc (w0, ()))) (fun _ => K (.exit 0) (Zae.outl2e2.enc (()))) v.1 v.2.1 v.2.2.1) (l := (Zae.cl2 n K)) (fun _ => rfl) (fun _ _ => rfl) (fun m v => by kernel_rfl) n v).symm) s
theorem Zae.sound : ZbP Try.prog globs 130 Zae.con :=
 Zbl (E := Zae.env) (c := Zae.body) (Zbk (G := globs) (lc := [(114, Zci.con)]) (lo := []) (ZaA (by kernel_rfl)) rfl rfl ⟨.inl ⟨Zci.sound, by kernel_rfl⟩, trivial⟩ rfl trivial (by kernel_rfl) (by kernel_rfl)) Try.func130 (by kernel_rfl) (by kernel_rfl) (by kernel_rfl) Zae.lp (l := [(true, sub [1, 0, 1, 0, 0] Zae.body, Zae.nml2)]) (by kernel_rfl) (fun n => ⟨Zae.atl2 n, trivial⟩) (fun n x => by kernel_rfl)
noncomputable def ZaC (fu : Nat) (sv : List S2) : Option ((Bool × Unit) × (Unit)) :=
 (Zae fu sv).bind fun r1 =>
 let t2 := decide (r1.1.1 ≥ (0 : Int))
 some ((t2, ()), (()))
noncomputable def ZaC.body : Code := Try.f113.body.getD .skip
noncomputable def ZaC.con : OCon := { ps := [.dat (.slice kS2), .fn 114], rs := [.dat .bool], f := fun n x => ZaC n x.1 }
abbrev ZaC.R : Type := (RT ZaC.con.rs × BT ZaC.con.ps)
noncomputable def ZaC.env : Env := { tys := [(4, ⟨.bool, 1⟩)], elems := [], ptrs := [], cons := [], objs := [(130, [Zae.con])], loops := [], cuts := [], globs := globs, base := 0 }
noncomputable def ZaC.lp (n : Nat) : LP ZaC.R := fun lo κ body nm K s =>
 loops n ZaC.R lo κ body nm K s
theorem ZaC.sound : ZbP Try.prog globs 113 ZaC.con :=
 Zbl (E := ZaC.env) (c := ZaC.body) (Zbk (G := globs) (lc := []) (lo := [(130, [Zae.con])]) (ZaA (by kernel_rfl)) rfl rfl trivial rfl ⟨⟨⟨Zae.sound, trivial⟩, by kernel_rfl⟩, trivial⟩ (by kernel_rfl) (by kernel_rfl)) Try.func113 (by kernel_rfl) (by kernel_rfl) (by kernel_rfl) ZaC.lp (l := []) (by kernel_rfl) (fun n => trivial) (fun n x => by kernel_rfl)
noncomputable def Zce (fu : Nat) (p : S3) : Option (Bool × Unit) :=
 cond p.1 (
  cond (p.2.1 != (0 : Int)) (
   some (false, ())) (
   let t1 := decide ((p.2.2.1.length : Int) > (4 : Int))
   cond t1 (
    some (false, ())) (
    (ZaC fu p.2.2.1).bind fun r2 =>
    some (!r2.1.1, ())))) (
  let t3 := decide ((p.2.2.1.length : Int) > (4 : Int))
  cond t3 (
   some (false, ())) (
   (ZaC fu p.2.2.1).bind fun r4 =>
   some (!r4.1.1, ())))
noncomputable def Zce.body : Code := Try.f71.body.getD .skip
noncomputable def Zce.con : Con := { ps := [kS3], rs := [.bool], f := fun n x => Zce n x.1 }
abbrev Zce.R : Type := (Kd.struct Zce.con.rs).T
noncomputable def Zce.env : Env := { tys := [(75, ⟨kS3, 32⟩), (4, ⟨.bool, 1⟩), (5, ⟨(.int .u8), 1⟩), (73, ⟨(.slice kS2), 24⟩), (88, ⟨kS2, 48⟩)], elems := [(73, 88)], ptrs := [], cons := [], objs := [(113, [ZaC.con])], loops := [], cuts := [], globs := globs, base := 0 }
noncomputable def Zce.lp (n : Nat) : LP Zce.R := fun lo κ body nm K s =>
 loops n Zce.R lo κ body nm K s
theorem Zce.sound : Zbi Try.prog globs 71 Zce.con :=
 ZaS (E := Zce.env) (c := Zce.body) (Zbk (G := globs) (lc := []) (lo := [(113, [ZaC.con])]) (ZaA (by kernel_rfl)) rfl rfl trivial rfl ⟨⟨⟨ZaC.sound, trivial⟩, by kernel_rfl⟩, trivial⟩ (by kernel_rfl) (by kernel_rfl)) Try.func71 (by kernel_rfl) Zce.lp (l := []) (by kernel_rfl) (fun n => trivial) (fun n x => by kernel_rfl)
noncomputable def Zcb (fu : Nat) (xv : S6) : Option (Bool × Unit) :=
 (Zce fu xv.2.1).bind fun r1 =>
 cond (!r1.1) (
  some (true, ())) (
  (Zce fu xv.2.2.2.1).bind fun r2 =>
  some (!r2.1, ()))
noncomputable def Zcb.body : Code := Try.f70.body.getD .skip
noncomputable def Zcb.con : Con := { ps := [kS6], rs := [.bool], f := fun n x => Zcb n x.1 }
abbrev Zcb.R : Type := (Kd.struct Zcb.con.rs).T
noncomputable def Zcb.env : Env := { tys := [(77, ⟨kS6, 96⟩), (4, ⟨.bool, 1⟩), (75, ⟨kS3, 32⟩)], elems := [], ptrs := [], cons := [(71, Zce.con)], objs := [], loops := [], cuts := [], globs := globs, base := 0 }
noncomputable def Zcb.lp (n : Nat) : LP Zcb.R := fun lo κ body nm K s =>
 loops n Zcb.R lo κ body nm K s
theorem Zcb.sound : Zbi Try.prog globs 70 Zcb.con :=
 ZaS (E := Zcb.env) (c := Zcb.body) (Zbk (G := globs) (lc := [(71, Zce.con)]) (lo := []) (ZaA (by kernel_rfl)) rfl rfl ⟨.inl ⟨Zce.sound, by kernel_rfl⟩, trivial⟩ rfl trivial (by kernel_rfl) (by kernel_rfl)) Try.func70 (by kernel_rfl) Zcb.lp (l := []) (by kernel_rfl) (fun n => trivial) (fun n x => by kernel_rfl)
noncomputable def Zad.b2 (fu : Nat) (next : (List S6) → Int → Int → Option ((Int × Unit) × (Unit))) (k1 : Int → Option ((Int × Unit) × (Unit))) (k2 : Unit → Option ((Int × Unit) × (Unit))) (sv : List S6) (v : Int) (vx2 : Int) : Option ((Int × Unit) × (Unit)) :=
 cond (decide (vx2 < v)) (
  chk (ixOk sv vx2) <|
  let e1 := ixL ((0 : Int), (false, (0 : Int), [], ()), false, (false, (0 : Int), [], ()), (0 : Int), (0 : Int), (0 : Int), ()) sv vx2
  (Zcb fu e1).bind fun r2 =>
  cond r2.1 (
   k1 vx2) (
   let t3 := IntKind.i64.wrap (vx2 + (1 : Int))
   next sv v t3)) (
  k2 ())
noncomputable def Zad.l2 (fu : Nat) (k1 : Int → Option ((Int × Unit) × (Unit))) (k2 : Unit → Option ((Int × Unit) × (Unit))) : Nat → (List S6) → Int → Int → Option ((Int × Unit) × (Unit))
 | 0, _, _, _ => none
 | m + 1, sv, v, vx2 => Zad.b2 fu (Zad.l2 fu k1 k2 m) k1 k2 sv v vx2
noncomputable def Zad (fu : Nat) (sv : List S6) : Option ((Int × Unit) × (Unit)) :=
 Zad.l2 fu (fun vq3 =>
   some ((vq3, ()), (()))) (fun (_ : Unit) =>
   some (((-1 : Int), ()), (()))) fu sv (sv.length : Int) (0 : Int)
noncomputable def Zad.body : Code := Try.f119.body.getD .skip
abbrev Zad.shl2 : Shp := ⟨.d (.slice kS6) :: .f 70 :: us 5 (.d (.int .i64) :: .d (.int .i64) :: us 10 []), []⟩
abbrev Zad.outl2e1 : Shp := ⟨us 4 (.d (.int .i64) :: us 14 []), []⟩
abbrev Zad.outl2e2 : Shp := ⟨us 19 [], []⟩
noncomputable def Zad.nml2 : Norm := ⟨Zad.shl2.cut [], [(1, Zad.outl2e1.cut []), (2, Zad.outl2e2.cut [])]⟩
noncomputable def Zad.con : OCon := { ps := [.dat (.slice kS6), .fn 70], rs := [.dat (.int .i64)], f := fun n x => Zad n x.1 }
abbrev Zad.R : Type := (RT Zad.con.rs × BT Zad.con.ps)
noncomputable def Zad.env : Env := { tys := [(3, ⟨(.int .i64), 8⟩), (77, ⟨kS6, 96⟩)], elems := [(66, 77)], ptrs := [], cons := [(70, Zcb.con)], objs := [], loops := [(2, Zad.nml2)], cuts := [], globs := globs, base := 0 }
noncomputable def Zad.cl2 (n : Nat) (K : Ex → St → Option Zad.R) (m : Nat) (v : Zad.shl2.T) : Option Zad.R := Zad.l2 n (fun w0 => K .ret (Zad.outl2e1.enc (w0, ()))) (fun _ => K (.exit 0) (Zad.outl2e2.enc (()))) m v.1 v.2.1 v.2.2.1
noncomputable def Zad.lp (n : Nat) : LP Zad.R := fun lo κ body nm K s =>
 cond (lo && Nat.beq κ 2) (pc Zad.shl2 (Zad.cl2 n K n) (loops n Zad.R lo κ body nm K) s) <|
  loops n Zad.R lo κ body nm K s
noncomputable def Zad.tl2 (n : Nat) := evK (β := Zad.R) Zad.env (Zad.lp n) n (sub [1, 0, 1, 0, 0] Zad.body)
theorem Zad.atl2 (n : Nat) : At n (Zad.lp n) true 2 (Zad.tl2 n) Zad.nml2 := fun s K =>
 ZbR (sh := Zad.shl2) (F := (Zad.cl2 n K n)) (B := loops n _ true 2 (Zad.tl2 n) Zad.nml2 K) (fun v => (Zbc (sh := Zad.shl2) (body := (Zad.tl2 n)) (nm := Zad.nml2) (b := fun nx v => Zad.b2 n (fun x0 x1 x2 => nx (x0, x1, x2, ())) (fun w0 => K .ret (Zad.outl2e1.enc (w0, ()))) (fun _ => K (.exit 0) (Zad.outl2e2.enc (()))) v.1 v.2.1 v.2.2.1) (l := (Zad.cl2 n K)) (fun _ => rfl) (fun _ _ => rfl) (fun m v => by kernel_rfl) n v).symm) s
theorem Zad.sound : ZbP Try.prog globs 119 Zad.con :=
 Zbl (E := Zad.env) (c := Zad.body) (Zbk (G := globs) (lc := [(70, Zcb.con)]) (lo := []) (ZaA (by kernel_rfl)) rfl rfl ⟨.inl ⟨Zcb.sound, by kernel_rfl⟩, trivial⟩ rfl trivial (by kernel_rfl) (by kernel_rfl)) Try.func119 (by kernel_rfl) (by kernel_rfl) (by kernel_rfl) Zad.lp (l := [(true, sub [1, 0, 1, 0, 0] Zad.body, Zad.nml2)]) (by kernel_rfl) (fun n => ⟨Zad.atl2 n, trivial⟩) (fun n x => by kernel_rfl)
noncomputable def ZaG (fu : Nat) (sv : List S6) : Option ((Bool × Unit) × (Unit)) :=
 (Zad fu sv).bind fun r1 =>
 let t2 := decide (r1.1.1 ≥ (0 : Int))
 some ((t2, ()), (()))
noncomputable def ZaG.body : Code := Try.f73.body.getD .skip
noncomputable def ZaG.con : OCon := { ps := [.dat (.slice kS6), .fn 70], rs := [.dat .bool], f := fun n x => ZaG n x.1 }
abbrev ZaG.R : Type := (RT ZaG.con.rs × BT ZaG.con.ps)
noncomputable def ZaG.env : Env := { tys := [(4, ⟨.bool, 1⟩)], elems := [], ptrs := [], cons := [], objs := [(119, [Zad.con])], loops := [], cuts := [], globs := globs, base := 0 }
noncomputable def ZaG.lp (n : Nat) : LP ZaG.R := fun lo κ body nm K s =>
 loops n ZaG.R lo κ body nm K s
theorem ZaG.sound : ZbP Try.prog globs 73 ZaG.con :=
 Zbl (E := ZaG.env) (c := ZaG.body) (Zbk (G := globs) (lc := []) (lo := [(119, [Zad.con])]) (ZaA (by kernel_rfl)) rfl rfl trivial rfl ⟨⟨⟨Zad.sound, trivial⟩, by kernel_rfl⟩, trivial⟩ (by kernel_rfl) (by kernel_rfl)) Try.func73 (by kernel_rfl) (by kernel_rfl) (by kernel_rfl) ZaG.lp (l := []) (by kernel_rfl) (fun n => trivial) (fun n x => by kernel_rfl)
noncomputable def ZaE.b3 (fu : Nat) (StreeDeep : (List S6) → Option (Int × Unit)) (next : Int → (List (List S6)) → Int → Int → Option (Int × Unit)) (k2 : Int → Option (Int × Unit)) (most : Int) (v : List (List S6)) (vx2 : Int) (vx3 : Int) : Option (Int × Unit) :=
 cond (decide (vx3 < vx2)) (
  chk (ixOk v vx3) <|
  let e1 := ixL [] v vx3
  (StreeDeep e1).bind fun r2 =>
  let t3 := IntKind.i64.wrap (r2.1 + (1 : Int))
  let t4 := IntKind.i64.wrap (vx3 + (1 : Int))
  next (max2 most t3) v vx2 t4) (
  k2 most)
noncomputable def ZaE.l3 (fu : Nat) (StreeDeep : (List S6) → Option (Int × Unit)) (k2 : Int → Option (Int × Unit)) : Nat → Int → (List (List S6)) → Int → Int → Option (Int × Unit)
 | 0, _, _, _, _ => none
 | m + 1, most, v, vx2, vx3 => ZaE.b3 fu StreeDeep (ZaE.l3 fu StreeDeep k2 m) k2 most v vx2 vx3
noncomputable def ZaE.bd (fu : Nat) (StreeDeep : (List S6) → Option (Int × Unit)) (l : List S6) : Option (Int × Unit) :=
 (Zax fu l).bind fun r1 =>
 ZaE.l3 fu StreeDeep (fun mostq2 =>
   some (mostq2, ())) fu (0 : Int) r1.1 (r1.1.length : Int) (0 : Int)
noncomputable def ZaE (fu : Nat) (m : Nat) : (List S6) → Option (Int × Unit) :=
 Nat.rec (fun _ => none) (fun _ StreeDeep => ZaE.bd fu StreeDeep) m
noncomputable def ZaE.conM (m : Nat) : Con := { ps := [(.slice kS6)], rs := [(.int .i64)], f := fun n x => ZaE n m x.1 }
noncomputable def ZaE.con : Con := { ps := [(.slice kS6)], rs := [(.int .i64)], f := fun n x => ZaE n n x.1 }
noncomputable def ZaE.body : Code := Try.f74.body.getD .skip
abbrev ZaE.shl3 : Shp := ⟨us 3 (.d (.int .i64) :: us 3 (.d (.slice (.slice kS6)) :: .d (.int .i64) :: .d (.int .i64) :: us 10 [])), []⟩
abbrev ZaE.outl3e2 : Shp := ⟨us 3 (.d (.int .i64) :: us 16 []), []⟩
noncomputable def ZaE.nml3 : Norm := ⟨ZaE.shl3.cut [], [(2, ZaE.outl3e2.cut [])]⟩
abbrev ZaE.R (mtreeDeep : Nat) : Type := (Kd.struct (ZaE.conM (Nat.succ mtreeDeep)).rs).T
noncomputable def ZaE.env (mtreeDeep : Nat) : Env := { tys := [(3, ⟨(.int .i64), 8⟩), (66, ⟨(.slice kS6), 24⟩)], elems := [(140, 66)], ptrs := [], cons := [(84, Zax.con), (74, (ZaE.conM mtreeDeep))], objs := [], loops := [(3, ZaE.nml3)], cuts := [], globs := globs, base := 0 }
noncomputable def ZaE.cl3 (mtreeDeep : Nat) (n : Nat) (K : Ex → St → Option (ZaE.R mtreeDeep)) (m : Nat) (v : ZaE.shl3.T) : Option (ZaE.R mtreeDeep) := ZaE.l3 n (ZaE n mtreeDeep) (fun w0 => K (.exit 0) (ZaE.outl3e2.enc (w0, ()))) m v.1 v.2.1 v.2.2.1 v.2.2.2.1
noncomputable def ZaE.lp (mtreeDeep : Nat) (n : Nat) : LP (ZaE.R mtreeDeep) := fun lo κ body nm K s =>
 cond (lo && Nat.beq κ 3) (pc ZaE.shl3 (ZaE.cl3 mtreeDeep n K n) (loops n (ZaE.R mtreeDeep) lo κ body nm K) s) <|
  loops n (ZaE.R mtreeDeep) lo κ body nm K s
noncomputable def ZaE.tl3 (mtreeDeep : Nat) (n : Nat) := evK (β := (ZaE.R mtreeDeep)) (ZaE.env mtreeDeep) (ZaE.lp mtreeDeep n) n (sub [1, 1, 0, 1, 0, 0] ZaE.body)
theorem ZaE.atl3 (mtreeDeep : Nat) (n : Nat) : At n (ZaE.lp mtreeDeep n) true 3 (ZaE.tl3 mtreeDeep n) ZaE.nml3 := fun s K =>
 ZbR (sh := ZaE.shl3) (F := (ZaE.cl3 mtreeDeep n K n)) (B := loops n _ true 3 (ZaE.tl3 mtreeDeep n) ZaE.nml3 K) (fun v => (Zbc (sh := ZaE.shl3) (body := (ZaE.tl3 mtreeDeep n)) (nm := ZaE.nml3) (b := fun nx v => ZaE.b3 n (ZaE n mtreeDeep) (fun x0 x1 x2 x3 => nx (x0, x1, x2, x3, ())) (fun w0 => K (.exit 0) (ZaE.outl3e2.enc (w0, ()))) v.1 v.2.1 v.2.2.1 v.2.2.2.1) (l := (ZaE.cl3 mtreeDeep n K)) (fun _ => rfl) (fun _ _ => rfl) (fun m v => by kernel_rfl) n v).symm) s
theorem ZaE.step (mtreeDeep : Nat) (ihtreeDeep : Zbi Try.prog globs 74 (ZaE.conM mtreeDeep)) : Zbi Try.prog globs 74 (ZaE.conM (Nat.succ mtreeDeep)) :=
 ZaS (E := (ZaE.env mtreeDeep)) (c := ZaE.body) (Zbk (G := globs) (lc := [(84, Zax.con), (74, (ZaE.conM mtreeDeep))]) (lo := []) (ZaA (by kernel_rfl)) rfl rfl ⟨.inl ⟨Zax.sound, by kernel_rfl⟩, ⟨.inl ⟨ihtreeDeep, by kernel_rfl⟩, trivial⟩⟩ rfl trivial (by kernel_rfl) (by kernel_rfl)) Try.func74 (by kernel_rfl) (ZaE.lp mtreeDeep) (l := [(true, sub [1, 1, 0, 1, 0, 0] ZaE.body, ZaE.nml3)]) (by kernel_rfl) (fun n => ⟨ZaE.atl3 mtreeDeep n, trivial⟩) (fun n x => by kernel_rfl)
theorem ZaE.soundM (m : Nat) : Zbi Try.prog globs 74 (ZaE.conM m) := by
 induction m with
 | zero => intro n x r h; cases (show none = some r from h)
 | succ m ih => exact ZaE.step m ih
theorem ZaE.sound : Zbi Try.prog globs 74 ZaE.con :=
 Zdx (ps := [(.slice kS6)]) (rs := [(.int .i64)]) (F := fun n m x => ZaE n m x.1) (ZaE.soundM)
noncomputable def Zap.b5 (fu : Nat) (StreePlaces : (List S6) → Option (Int × Unit)) (next : (List S6) → Int → (List (List S6)) → Int → Int → Option (Int × Unit)) (k2 : (List S6) → Int → Option (Int × Unit)) (l : List S6) (n : Int) (v : List (List S6)) (vx2 : Int) (vx3 : Int) : Option (Int × Unit) :=
 cond (decide (vx3 < vx2)) (
  chk (ixOk v vx3) <|
  let e1 := ixL [] v vx3
  (StreePlaces e1).bind fun r2 =>
  let t3 := IntKind.i64.wrap (n + r2.1)
  let t4 := IntKind.i64.wrap (vx3 + (1 : Int))
  next l t3 v vx2 t4) (
  k2 l n)
noncomputable def Zap.l5 (fu : Nat) (StreePlaces : (List S6) → Option (Int × Unit)) (k2 : (List S6) → Int → Option (Int × Unit)) : Nat → (List S6) → Int → (List (List S6)) → Int → Int → Option (Int × Unit)
 | 0, _, _, _, _, _ => none
 | m + 1, l, n, v, vx2, vx3 => Zap.b5 fu StreePlaces (Zap.l5 fu StreePlaces k2 m) k2 l n v vx2 vx3
noncomputable def Zap.bd (fu : Nat) (StreePlaces : (List S6) → Option (Int × Unit)) (l : List S6) : Option (Int × Unit) :=
 chk (ixOk l (0 : Int)) <|
 let e1 := ixL ((0 : Int), (false, (0 : Int), [], ()), false, (false, (0 : Int), [], ()), (0 : Int), (0 : Int), (0 : Int), ()) l (0 : Int)
 cond (e1.1 == (1 : Int)) (
  some ((1 : Int), ())) (
  (Zax fu l).bind fun r2 =>
  Zap.l5 fu StreePlaces (fun lq2 nq2 =>
    chk (ixOk lq2 (0 : Int)) <|
    let e3 := ixL ((0 : Int), (false, (0 : Int), [], ()), false, (false, (0 : Int), [], ()), (0 : Int), (0 : Int), (0 : Int), ()) lq2 (0 : Int)
    cond (e3.1 == (4 : Int)) (
     chk (ixOk lq2 (0 : Int)) <|
     let e4 := ixL ((0 : Int), (false, (0 : Int), [], ()), false, (false, (0 : Int), [], ()), (0 : Int), (0 : Int), (0 : Int), ()) lq2 (0 : Int)
     let t5 := IntKind.i64.wrap e4.2.2.2.2.2.1
     let t6 := IntKind.i64.wrap (nq2 * t5)
     some (t6, ())) (
     some (nq2, ()))) fu l (0 : Int) r2.1 (r2.1.length : Int) (0 : Int))
noncomputable def Zap (fu : Nat) (m : Nat) : (List S6) → Option (Int × Unit) :=
 Nat.rec (fun _ => none) (fun _ StreePlaces => Zap.bd fu StreePlaces) m
noncomputable def Zap.conM (m : Nat) : Con := { ps := [(.slice kS6)], rs := [(.int .i64)], f := fun n x => Zap n m x.1 }
noncomputable def Zap.con : Con := { ps := [(.slice kS6)], rs := [(.int .i64)], f := fun n x => Zap n n x.1 }
noncomputable def Zap.body : Code := Try.f75.body.getD .skip
abbrev Zap.shl5 : Shp := ⟨.d (.slice kS6) :: .u :: .u :: .d (.int .i64) :: us 8 (.d (.slice (.slice kS6)) :: .d (.int .i64) :: .d (.int .i64) :: us 21 []), []⟩
abbrev Zap.outl5e2 : Shp := ⟨.d (.slice kS6) :: .u :: .u :: .d (.int .i64) :: us 32 [], []⟩
noncomputable def Zap.nml5 : Norm := ⟨Zap.shl5.cut [], [(2, Zap.outl5e2.cut [])]⟩
abbrev Zap.R (mtreePlaces : Nat) : Type := (Kd.struct (Zap.conM (Nat.succ mtreePlaces)).rs).T
noncomputable def Zap.env (mtreePlaces : Nat) : Env := { tys := [(3, ⟨(.int .i64), 8⟩), (77, ⟨kS6, 96⟩), (5, ⟨(.int .u8), 1⟩), (66, ⟨(.slice kS6), 24⟩)], elems := [(66, 77), (140, 66)], ptrs := [], cons := [(84, Zax.con), (75, (Zap.conM mtreePlaces))], objs := [], loops := [(5, Zap.nml5)], cuts := [], globs := globs, base := 0 }
noncomputable def Zap.cl5 (mtreePlaces : Nat) (n : Nat) (K : Ex → St → Option (Zap.R mtreePlaces)) (m : Nat) (v : Zap.shl5.T) : Option (Zap.R mtreePlaces) := Zap.l5 n (Zap n mtreePlaces) (fun w0 w1 => K (.exit 0) (Zap.outl5e2.enc (w0, w1, ()))) m v.1 v.2.1 v.2.2.1 v.2.2.2.1 v.2.2.2.2.1
noncomputable def Zap.lp (mtreePlaces : Nat) (n : Nat) : LP (Zap.R mtreePlaces) := fun lo κ body nm K s =>
 cond (lo && Nat.beq κ 5) (pc Zap.shl5 (Zap.cl5 mtreePlaces n K n) (loops n (Zap.R mtreePlaces) lo κ body nm K) s) <|
  loops n (Zap.R mtreePlaces) lo κ body nm K s
noncomputable def Zap.tl5 (mtreePlaces : Nat) (n : Nat) := evK (β := (Zap.R mtreePlaces)) (Zap.env mtreePlaces) (Zap.lp mtreePlaces n) n (sub [1, 1, 1, 0, 1, 0, 0] Zap.body)
theorem Zap.atl5 (mtreePlaces : Nat) (n : Nat) : At n (Zap.lp mtreePlaces n) true 5 (Zap.tl5 mtreePlaces n) Zap.nml5 := fun s K =>
 ZbR (sh := Zap.shl5) (F := (Zap.cl5 mtreePlaces n K n)) (B := loops n _ true 5 (Zap.tl5 mtreePlaces n) Zap.nml5 K) (fun v => (Zbc (sh := Zap.shl5) (body := (Zap.tl5 mtreePlaces n)) (nm := Zap.nml5) (b := fun nx v => Zap.b5 n (Zap n mtreePlaces) (fun x0 x1 x2 x3 x4 => nx (x0, x1, x2, x3, x4, ())) (fun w0 w1 => K (.exit 0) (Zap.outl5e2.enc (w0, w1, ()))) v.1 v.2.1 v.2.2.1 v.2.2.2.1 v.2.2.2.2.1) (l := (Zap.cl5 mtreePlaces n K)) (fun _ => rfl) (fun _ _ => rfl) (fun m v => by kernel_rfl) n v).symm) s
theorem Zap.step (mtreePlaces : Nat) (ihtreePlaces : Zbi Try.prog globs 75 (Zap.conM mtreePlaces)) : Zbi Try.prog globs 75 (Zap.conM (Nat.succ mtreePlaces)) :=
 ZaS (E := (Zap.env mtreePlaces)) (c := Zap.body) (Zbk (G := globs) (lc := [(84, Zax.con), (75, (Zap.conM mtreePlaces))]) (lo := []) (ZaA (by kernel_rfl)) rfl rfl ⟨.inl ⟨Zax.sound, by kernel_rfl⟩, ⟨.inl ⟨ihtreePlaces, by kernel_rfl⟩, trivial⟩⟩ rfl trivial (by kernel_rfl) (by kernel_rfl)) Try.func75 (by kernel_rfl) (Zap.lp mtreePlaces) (l := [(true, sub [1, 1, 1, 0, 1, 0, 0] Zap.body, Zap.nml5)]) (by kernel_rfl) (fun n => ⟨Zap.atl5 mtreePlaces n, trivial⟩) (fun n x => by kernel_rfl)
theorem Zap.soundM (m : Nat) : Zbi Try.prog globs 75 (Zap.conM m) := by
 induction m with
 | zero => intro n x r h; cases (show none = some r from h)
 | succ m ih => exact Zap.step m ih
theorem Zap.sound : Zbi Try.prog globs 75 Zap.con :=
 Zdx (ps := [(.slice kS6)]) (rs := [(.int .i64)]) (F := fun n m x => Zap n m x.1) (Zap.soundM)
noncomputable def ZaT.j25011 (fu : Nat) (k0 : Unit → Option (Int × Unit)) (k1 : Int → Option (Int × Unit)) (v : Bool) (b0 : S7) : Option (Int × Unit) :=
 cond v (
  k1 (5 : Int)) (
  (Zap fu fu b0.1).bind fun r1 =>
  let t2 := decide (r1.1 > (32 : Int))
  cond t2 (
   k1 (4 : Int)) (
   k0 ()))
noncomputable def ZaT (fu : Nat) (p : S7) : Option (Int × Unit) :=
 let t1 := decide ((p.1.length : Int) > (32 : Int))
 cond t1 (
  some ((12 : Int), ())) (
  (ZaL fu fu p.1).bind fun r2 =>
  cond (!r2.1) (
   some ((2 : Int), ())) (
   (ZaG fu p.1).bind fun r3 =>
   cond r3.1.1 (
    some ((1 : Int), ())) (
    (ZaE fu fu p.1).bind fun r4 =>
    let t5 := decide (r4.1 > (8 : Int))
    cond t5 (
     some ((16 : Int), ())) (
     let t6 := decide (p.2.1 < (1 : Int))
     cond t6 (
      ZaT.j25011 fu (fun (_ : Unit) =>
        some ((0 : Int), ())) (fun vq6 =>
        some (vq6, ())) true p) (
      let t7 := decide (p.2.1 > (1048576 : Int))
      ZaT.j25011 fu (fun (_ : Unit) =>
        some ((0 : Int), ())) (fun vq8 =>
        some (vq8, ())) t7 p)))))
noncomputable def ZaT.body : Code := Try.f33.body.getD .skip
abbrev ZaT.shj25011 : Shp := ⟨.u :: .p 0 0 :: us 22 (.d .bool :: us 13 []), [.c [.g kS7]]⟩
abbrev ZaT.outj25011e0 : Shp := ⟨us 38 [], []⟩
abbrev ZaT.outj25011e1 : Shp := ⟨.u :: .u :: .d (.int .i64) :: us 35 [], []⟩
noncomputable def ZaT.nmj25011 : Norm := ⟨ZaT.shj25011.cut [], [(0, ZaT.outj25011e0.cut []), (1, ZaT.outj25011e1.cut [])]⟩
noncomputable def ZaT.con : Con := { ps := [kS7], rs := [(.int .i64)], f := fun n x => ZaT n x.1 }
abbrev ZaT.R : Type := (Kd.struct ZaT.con.rs).T
noncomputable def ZaT.env : Env := { tys := [(68, ⟨kS7, 32⟩), (39, ⟨(.int .i64), 8⟩), (66, ⟨(.slice kS6), 24⟩), (77, ⟨kS6, 96⟩), (51, ⟨(.int .u64), 8⟩), (4, ⟨.bool, 1⟩)], elems := [(66, 77)], ptrs := [], cons := [(72, ZaL.con), (74, ZaE.con), (75, Zap.con)], objs := [(73, [ZaG.con])], loops := [], cuts := [(25011, ZaT.nmj25011)], globs := globs, base := 0 }
noncomputable def ZaT.cj25011 (n : Nat) (K : Ex → St → Option ZaT.R) (v : ZaT.shj25011.T) : Option ZaT.R := ZaT.j25011 n (fun _ => K .normal (ZaT.outj25011e0.enc (()))) (fun w0 => K .ret (ZaT.outj25011e1.enc (w0, ()))) v.1 v.2.1
noncomputable def ZaT.lp (n : Nat) : LP ZaT.R := fun lo κ body nm K s =>
 cond (!lo && Nat.beq κ 25011) (pc ZaT.shj25011 (ZaT.cj25011 n K) (loops n ZaT.R lo κ body nm K) s) <|
  loops n ZaT.R lo κ body nm K s
noncomputable def ZaT.tj25011 (n : Nat) := evK (β := ZaT.R) ZaT.env (ZaT.lp n) n (sub [1, 1, 0, 0, 1, 1, 1, 1, 1, 1, 1, 1, 1] ZaT.body)
theorem ZaT.atj25011 (n : Nat) : At n (ZaT.lp n) false 25011 (ZaT.tj25011 n) ZaT.nmj25011 := fun s K =>
 ZbR (sh := ZaT.shj25011) (F := (ZaT.cj25011 n K)) (B := loops n _ false 25011 (ZaT.tj25011 n) ZaT.nmj25011 K) (fun v => by kernel_rfl) s
theorem ZaT.sound : Zbi Try.prog globs 33 ZaT.con :=
 ZaS (E := ZaT.env) (c := ZaT.body) (Zbk (G := globs) (lc := [(72, ZaL.con), (74, ZaE.con), (75, Zap.con)]) (lo := [(73, [ZaG.con])]) (ZaA (by kernel_rfl)) rfl rfl ⟨.inl ⟨ZaL.sound, by kernel_rfl⟩, ⟨.inl ⟨ZaE.sound, by kernel_rfl⟩, ⟨.inl ⟨Zap.sound, by kernel_rfl⟩, trivial⟩⟩⟩ rfl ⟨⟨⟨ZaG.sound, trivial⟩, by kernel_rfl⟩, trivial⟩ (by kernel_rfl) (by kernel_rfl)) Try.func33 (by kernel_rfl) ZaT.lp (l := [(false, sub [1, 1, 0, 0, 1, 1, 1, 1, 1, 1, 1, 1, 1] ZaT.body, ZaT.nmj25011)]) (by kernel_rfl) (fun n => ⟨ZaT.atj25011 n, trivial⟩) (fun n x => by kernel_rfl)
noncomputable def Zat.j7 (fu : Nat) (k1 : Int → Option (Int × Unit)) (xv : Int) (n : Int) : Option (Int × Unit) :=
 let t1 := decide (xv ≥ (256 : Int))
 cond t1 (
  let t2 := IntKind.i64.wrap (n + (8 : Int))
  let t3 := IntKind.u8.wrap (sShr .u64 xv (8 : Int))
  chk (ixOk ([0, 1, 2, 2, 3, 3, 3, 3, 4, 4, 4, 4, 4, 4, 4, 4, 5, 5, 5, 5, 5, 5, 5, 5, 5, 5, 5, 5, 5, 5, 5, 5, 6, 6, 6, 6, 6, 6, 6, 6, 6, 6, 6, 6, 6, 6, 6, 6, 6, 6, 6, 6, 6, 6, 6, 6, 6, 6, 6, 6, 6, 6, 6, 6, 7, 7, 7, 7, 7, 7, 7, 7, 7, 7, 7, 7, 7, 7, 7, 7, 7, 7, 7, 7, 7, 7, 7, 7, 7, 7, 7, 7, 7, 7, 7, 7, 7, 7, 7, 7, 7, 7, 7, 7, 7, 7, 7, 7, 7, 7, 7, 7, 7, 7, 7, 7, 7, 7, 7, 7, 7, 7, 7, 7, 7, 7, 7, 7, 8, 8, 8, 8, 8, 8, 8, 8, 8, 8, 8, 8, 8, 8, 8, 8, 8, 8, 8, 8, 8, 8, 8, 8, 8, 8, 8, 8, 8, 8, 8, 8, 8, 8, 8, 8, 8, 8, 8, 8, 8, 8, 8, 8, 8, 8, 8, 8, 8, 8, 8, 8, 8, 8, 8, 8, 8, 8, 8, 8, 8, 8, 8, 8, 8, 8, 8, 8, 8, 8, 8, 8, 8, 8, 8, 8, 8, 8, 8, 8, 8, 8, 8, 8, 8, 8, 8, 8, 8, 8, 8, 8, 8, 8, 8, 8, 8, 8, 8, 8, 8, 8, 8, 8, 8, 8, 8, 8, 8, 8, 8, 8, 8, 8, 8, 8, 8, 8, 8, 8, 8, 8, 8, 8, 8, 8, 8, 8] : List Int) t3) <|
  let t4 := ixL (0 : Int) ([0, 1, 2, 2, 3, 3, 3, 3, 4, 4, 4, 4, 4, 4, 4, 4, 5, 5, 5, 5, 5, 5, 5, 5, 5, 5, 5, 5, 5, 5, 5, 5, 6, 6, 6, 6, 6, 6, 6, 6, 6, 6, 6, 6, 6, 6, 6, 6, 6, 6, 6, 6, 6, 6, 6, 6, 6, 6, 6, 6, 6, 6, 6, 6, 7, 7, 7, 7, 7, 7, 7, 7, 7, 7, 7, 7, 7, 7, 7, 7, 7, 7, 7, 7, 7, 7, 7, 7, 7, 7, 7, 7, 7, 7, 7, 7, 7, 7, 7, 7, 7, 7, 7, 7, 7, 7, 7, 7, 7, 7, 7, 7, 7, 7, 7, 7, 7, 7, 7, 7, 7, 7, 7, 7, 7, 7, 7, 7, 8, 8, 8, 8, 8, 8, 8, 8, 8, 8, 8, 8, 8, 8, 8, 8, 8, 8, 8, 8, 8, 8, 8, 8, 8, 8, 8, 8, 8, 8, 8, 8, 8, 8, 8, 8, 8, 8, 8, 8, 8, 8, 8, 8, 8, 8, 8, 8, 8, 8, 8, 8, 8, 8, 8, 8, 8, 8, 8, 8, 8, 8, 8, 8, 8, 8, 8, 8, 8, 8, 8, 8, 8, 8, 8, 8, 8, 8, 8, 8, 8, 8, 8, 8, 8, 8, 8, 8, 8, 8, 8, 8, 8, 8, 8, 8, 8, 8, 8, 8, 8, 8, 8, 8, 8, 8, 8, 8, 8, 8, 8, 8, 8, 8, 8, 8, 8, 8, 8, 8, 8, 8, 8, 8, 8, 8, 8, 8] : List Int) t3
  let t5 := IntKind.i64.wrap (t2 + IntKind.i64.wrap t4)
  k1 t5) (
  chk (ixOk ([0, 1, 2, 2, 3, 3, 3, 3, 4, 4, 4, 4, 4, 4, 4, 4, 5, 5, 5, 5, 5, 5, 5, 5, 5, 5, 5, 5, 5, 5, 5, 5, 6, 6, 6, 6, 6, 6, 6, 6, 6, 6, 6, 6, 6, 6, 6, 6, 6, 6, 6, 6, 6, 6, 6, 6, 6, 6, 6, 6, 6, 6, 6, 6, 7, 7, 7, 7, 7, 7, 7, 7, 7, 7, 7, 7, 7, 7, 7, 7, 7, 7, 7, 7, 7, 7, 7, 7, 7, 7, 7, 7, 7, 7, 7, 7, 7, 7, 7, 7, 7, 7, 7, 7, 7, 7, 7, 7, 7, 7, 7, 7, 7, 7, 7, 7, 7, 7, 7, 7, 7, 7, 7, 7, 7, 7, 7, 7, 8, 8, 8, 8, 8, 8, 8, 8, 8, 8, 8, 8, 8, 8, 8, 8, 8, 8, 8, 8, 8, 8, 8, 8, 8, 8, 8, 8, 8, 8, 8, 8, 8, 8, 8, 8, 8, 8, 8, 8, 8, 8, 8, 8, 8, 8, 8, 8, 8, 8, 8, 8, 8, 8, 8, 8, 8, 8, 8, 8, 8, 8, 8, 8, 8, 8, 8, 8, 8, 8, 8, 8, 8, 8, 8, 8, 8, 8, 8, 8, 8, 8, 8, 8, 8, 8, 8, 8, 8, 8, 8, 8, 8, 8, 8, 8, 8, 8, 8, 8, 8, 8, 8, 8, 8, 8, 8, 8, 8, 8, 8, 8, 8, 8, 8, 8, 8, 8, 8, 8, 8, 8, 8, 8, 8, 8, 8, 8] : List Int) (IntKind.u8.wrap xv)) <|
  let t6 := ixL (0 : Int) ([0, 1, 2, 2, 3, 3, 3, 3, 4, 4, 4, 4, 4, 4, 4, 4, 5, 5, 5, 5, 5, 5, 5, 5, 5, 5, 5, 5, 5, 5, 5, 5, 6, 6, 6, 6, 6, 6, 6, 6, 6, 6, 6, 6, 6, 6, 6, 6, 6, 6, 6, 6, 6, 6, 6, 6, 6, 6, 6, 6, 6, 6, 6, 6, 7, 7, 7, 7, 7, 7, 7, 7, 7, 7, 7, 7, 7, 7, 7, 7, 7, 7, 7, 7, 7, 7, 7, 7, 7, 7, 7, 7, 7, 7, 7, 7, 7, 7, 7, 7, 7, 7, 7, 7, 7, 7, 7, 7, 7, 7, 7, 7, 7, 7, 7, 7, 7, 7, 7, 7, 7, 7, 7, 7, 7, 7, 7, 7, 8, 8, 8, 8, 8, 8, 8, 8, 8, 8, 8, 8, 8, 8, 8, 8, 8, 8, 8, 8, 8, 8, 8, 8, 8, 8, 8, 8, 8, 8, 8, 8, 8, 8, 8, 8, 8, 8, 8, 8, 8, 8, 8, 8, 8, 8, 8, 8, 8, 8, 8, 8, 8, 8, 8, 8, 8, 8, 8, 8, 8, 8, 8, 8, 8, 8, 8, 8, 8, 8, 8, 8, 8, 8, 8, 8, 8, 8, 8, 8, 8, 8, 8, 8, 8, 8, 8, 8, 8, 8, 8, 8, 8, 8, 8, 8, 8, 8, 8, 8, 8, 8, 8, 8, 8, 8, 8, 8, 8, 8, 8, 8, 8, 8, 8, 8, 8, 8, 8, 8, 8, 8, 8, 8, 8, 8, 8, 8] : List Int) (IntKind.u8.wrap xv)
  let t7 := IntKind.i64.wrap (n + IntKind.i64.wrap t6)
  k1 t7)
noncomputable def Zat.j4 (fu : Nat) (k1 : Int → Option (Int × Unit)) (xv : Int) (n : Int) : Option (Int × Unit) :=
 let t1 := decide (xv ≥ (65536 : Int))
 cond t1 (
  let t2 := IntKind.i64.wrap (n + (16 : Int))
  Zat.j7 fu (fun nq3 =>
    k1 nq3) (sShr .u64 xv (16 : Int)) t2) (
  Zat.j7 fu (fun nq4 =>
    k1 nq4) xv n)
noncomputable def Zat (fu : Nat) (xv : Int) : Option (Int × Unit) :=
 let t1 := decide (xv ≥ (4294967296 : Int))
 cond t1 (
  Zat.j4 fu (fun nq1 =>
    some (nq1, ())) (sShr .u64 xv (32 : Int)) (32 : Int)) (
  Zat.j4 fu (fun nq2 =>
    some (nq2, ())) xv (0 : Int))
noncomputable def Zat.body : Code := Try.f129.body.getD .skip
abbrev Zat.shj7 : Shp := ⟨.d (.int .u64) :: .u :: .d (.int .i64) :: us 22 [], []⟩
abbrev Zat.outj7e1 : Shp := ⟨.u :: .u :: .d (.int .i64) :: us 22 [], []⟩
noncomputable def Zat.nmj7 : Norm := ⟨Zat.shj7.cut [], [(1, Zat.outj7e1.cut [])]⟩
abbrev Zat.shj4 : Shp := ⟨.d (.int .u64) :: .u :: .d (.int .i64) :: us 22 [], []⟩
abbrev Zat.outj4e1 : Shp := ⟨.u :: .u :: .d (.int .i64) :: us 22 [], []⟩
noncomputable def Zat.nmj4 : Norm := ⟨Zat.shj4.cut [], [(1, Zat.outj4e1.cut [])]⟩
noncomputable def Zat.con : Con := { ps := [(.int .u64)], rs := [(.int .i64)], f := fun n x => Zat n x.1 }
abbrev Zat.R : Type := (Kd.struct Zat.con.rs).T
noncomputable def Zat.env : Env := { tys := [(3, ⟨(.int .i64), 8⟩), (5, ⟨(.int .u8), 1⟩), (51, ⟨(.int .u64), 8⟩), (9, ⟨.str, 16⟩)], elems := [], ptrs := [], cons := [], objs := [], loops := [], cuts := [(7, Zat.nmj7), (4, Zat.nmj4)], globs := globs, base := 0 }
noncomputable def Zat.cj7 (n : Nat) (K : Ex → St → Option Zat.R) (v : Zat.shj7.T) : Option Zat.R := Zat.j7 n (fun w0 => K .ret (Zat.outj7e1.enc (w0, ()))) v.1 v.2.1
noncomputable def Zat.cj4 (n : Nat) (K : Ex → St → Option Zat.R) (v : Zat.shj4.T) : Option Zat.R := Zat.j4 n (fun w0 => K .ret (Zat.outj4e1.enc (w0, ()))) v.1 v.2.1
noncomputable def Zat.lp (n : Nat) : LP Zat.R := fun lo κ body nm K s =>
 cond (!lo && Nat.beq κ 7) (pc Zat.shj7 (Zat.cj7 n K) (loops n Zat.R lo κ body nm K) s) <|
  cond (!lo && Nat.beq κ 4) (pc Zat.shj4 (Zat.cj4 n K) (loops n Zat.R lo κ body nm K) s) <|
  loops n Zat.R lo κ body nm K s
noncomputable def Zat.tj7 (n : Nat) := evK (β := Zat.R) Zat.env (Zat.lp n) n (sub [1, 1, 1] Zat.body)
theorem Zat.atj7 (n : Nat) : At n (Zat.lp n) false 7 (Zat.tj7 n) Zat.nmj7 := fun s K =>
 ZbR (sh := Zat.shj7) (F := (Zat.cj7 n K)) (B := loops n _ false 7 (Zat.tj7 n) Zat.nmj7 K) (fun v => by kernel_rfl) s
noncomputable def Zat.tj4 (n : Nat) := evK (β := Zat.R) Zat.env (Zat.lp n) n (sub [1, 1] Zat.body)
theorem Zat.atj4 (n : Nat) : At n (Zat.lp n) false 4 (Zat.tj4 n) Zat.nmj4 := fun s K =>
 ZbR (sh := Zat.shj4) (F := (Zat.cj4 n K)) (B := loops n _ false 4 (Zat.tj4 n) Zat.nmj4 K) (fun v => by kernel_rfl) s
theorem Zat.sound : Zbi Try.prog globs 129 Zat.con :=
 ZaS (E := Zat.env) (c := Zat.body) (Zbk (G := globs) (lc := []) (lo := []) (ZaA (by kernel_rfl)) rfl rfl trivial rfl trivial (by kernel_rfl) (by kernel_rfl)) Try.func129 (by kernel_rfl) Zat.lp (l := [(false, sub [1, 1, 1] Zat.body, Zat.nmj7), (false, sub [1, 1] Zat.body, Zat.nmj4)]) (by kernel_rfl) (fun n => ⟨Zat.atj7 n, ⟨Zat.atj4 n, trivial⟩⟩) (fun n x => by kernel_rfl)
noncomputable def ZbZ (fu : Nat) (n : Int) : Option (Int × Unit) :=
 (Zat fu n).bind fun r1 =>
 let t2 := IntKind.i64.wrap (max2 r1.1 (1 : Int) + (6 : Int))
 let t3 := IntKind.i64.wrap (Int.tdiv t2 (7 : Int))
 some (t3, ())
noncomputable def ZbZ.body : Code := Try.f110.body.getD .skip
noncomputable def ZbZ.con : Con := { ps := [(.int .u64)], rs := [(.int .i64)], f := fun n x => ZbZ n x.1 }
abbrev ZbZ.R : Type := (Kd.struct ZbZ.con.rs).T
noncomputable def ZbZ.env : Env := { tys := [(3, ⟨(.int .i64), 8⟩)], elems := [], ptrs := [], cons := [(129, Zat.con)], objs := [], loops := [], cuts := [], globs := globs, base := 0 }
noncomputable def ZbZ.lp (n : Nat) : LP ZbZ.R := fun lo κ body nm K s =>
 loops n ZbZ.R lo κ body nm K s
theorem ZbZ.sound : Zbi Try.prog globs 110 ZbZ.con :=
 ZaS (E := ZbZ.env) (c := ZbZ.body) (Zbk (G := globs) (lc := [(129, Zat.con)]) (lo := []) (ZaA (by kernel_rfl)) rfl rfl ⟨.inl ⟨Zat.sound, by kernel_rfl⟩, trivial⟩ rfl trivial (by kernel_rfl) (by kernel_rfl)) Try.func110 (by kernel_rfl) ZbZ.lp (l := []) (by kernel_rfl) (fun n => trivial) (fun n x => by kernel_rfl)
noncomputable def Zcd (fu : Nat) (b : List Int) (room : Int) : Option (((List Int) × Unit) × (Unit)) :=
 let t1 := IntKind.i64.wrap ((b.length : Int) + room)
 chk (mkOk (0 : Int) t1 1) <|
 let t2 := List.replicate (0 : Int).toNat (0 : Int)
 chk (apOk t2 b 1) <|
 some ((t2 ++ b, ()), (()))
noncomputable def Zcd.body : Code := Try.f109.body.getD .skip
noncomputable def Zcd.con : OCon := { ps := [.dat (.slice (.int .u8)), .dat (.int .i64)], rs := [.own (.int .u8)], f := fun n x => Zcd n x.1 x.2.1 }
abbrev Zcd.R : Type := (RT Zcd.con.rs × BT Zcd.con.ps)
noncomputable def Zcd.env : Env := { tys := [(38, ⟨(.slice (.int .u8)), 24⟩), (5, ⟨(.int .u8), 1⟩)], elems := [(38, 5)], ptrs := [], cons := [], objs := [], loops := [], cuts := [], globs := globs, base := 0 }
noncomputable def Zcd.lp (n : Nat) : LP Zcd.R := fun lo κ body nm K s =>
 loops n Zcd.R lo κ body nm K s
theorem Zcd.sound : ZbP Try.prog globs 109 Zcd.con :=
 Zbl (E := Zcd.env) (c := Zcd.body) (Zbk (G := globs) (lc := []) (lo := []) (ZaA (by kernel_rfl)) rfl rfl trivial rfl trivial (by kernel_rfl) (by kernel_rfl)) Try.func109 (by kernel_rfl) (by kernel_rfl) (by kernel_rfl) Zcd.lp (l := []) (by kernel_rfl) (fun n => trivial) (fun n x => by kernel_rfl)
noncomputable def ZaN.b2 (fu : Nat) (next : Int → (List Int) → Option (((List Int) × Unit) × (Unit))) (k2 : Int → (List Int) → Option (((List Int) × Unit) × (Unit))) (n : Int) (out : List Int) : Option (((List Int) × Unit) × (Unit)) :=
 cond (decide (n ≥ (128 : Int))) (
  let t1 := bOr .u8 (IntKind.u8.wrap n) (128 : Int)
  chk (apOk out ([t1]) 1) <|
  next (sShr .u64 n (7 : Int)) (out ++ ([t1]))) (
  k2 n out)
noncomputable def ZaN.l2 (fu : Nat) (k2 : Int → (List Int) → Option (((List Int) × Unit) × (Unit))) : Nat → Int → (List Int) → Option (((List Int) × Unit) × (Unit))
 | 0, _, _ => none
 | m + 1, n, out => ZaN.b2 fu (ZaN.l2 fu k2 m) k2 n out
noncomputable def ZaN (fu : Nat) (b : List Int) (n : Int) : Option (((List Int) × Unit) × (Unit)) :=
 (ZbZ fu n).bind fun r1 =>
 (Zcd fu b r1.1).bind fun r2 =>
 ZaN.l2 fu (fun nq2 outq2 =>
   chk (apOk outq2 ([IntKind.u8.wrap nq2]) 1) <|
   let t3 := outq2 ++ ([IntKind.u8.wrap nq2])
   some ((t3, ()), (()))) fu n r2.1.1
noncomputable def ZaN.body : Code := Try.f61.body.getD .skip
abbrev ZaN.shl2 : Shp := ⟨.u :: .d (.int .u64) :: us 3 (.o 5 (.int .u8) :: us 19 []), []⟩
abbrev ZaN.outl2e2 : Shp := ⟨.u :: .d (.int .u64) :: us 3 (.o 5 (.int .u8) :: us 19 []), []⟩
noncomputable def ZaN.nml2 : Norm := ⟨ZaN.shl2.cut [], [(2, ZaN.outl2e2.cut [])]⟩
noncomputable def ZaN.con : OCon := { ps := [.dat (.slice (.int .u8)), .dat (.int .u64)], rs := [.own (.int .u8)], f := fun n x => ZaN n x.1 x.2.1 }
abbrev ZaN.R : Type := (RT ZaN.con.rs × BT ZaN.con.ps)
noncomputable def ZaN.env : Env := { tys := [(38, ⟨(.slice (.int .u8)), 24⟩), (5, ⟨(.int .u8), 1⟩), (51, ⟨(.int .u64), 8⟩)], elems := [(38, 5)], ptrs := [], cons := [(110, ZbZ.con)], objs := [(109, [Zcd.con])], loops := [(2, ZaN.nml2)], cuts := [], globs := globs, base := 0 }
noncomputable def ZaN.cl2 (n : Nat) (K : Ex → St → Option ZaN.R) (m : Nat) (v : ZaN.shl2.T) : Option ZaN.R := ZaN.l2 n (fun w0 w1 => K (.exit 0) (ZaN.outl2e2.enc (w0, w1, ()))) m v.1 v.2.1
noncomputable def ZaN.lp (n : Nat) : LP ZaN.R := fun lo κ body nm K s =>
 cond (lo && Nat.beq κ 2) (pc ZaN.shl2 (ZaN.cl2 n K n) (loops n ZaN.R lo κ body nm K) s) <|
  loops n ZaN.R lo κ body nm K s
noncomputable def ZaN.tl2 (n : Nat) := evK (β := ZaN.R) ZaN.env (ZaN.lp n) n (sub [1, 1, 0, 0, 0] ZaN.body)
theorem ZaN.atl2 (n : Nat) : At n (ZaN.lp n) true 2 (ZaN.tl2 n) ZaN.nml2 := fun s K =>
 ZbR (sh := ZaN.shl2) (F := (ZaN.cl2 n K n)) (B := loops n _ true 2 (ZaN.tl2 n) ZaN.nml2 K) (fun v => (Zbc (sh := ZaN.shl2) (body := (ZaN.tl2 n)) (nm := ZaN.nml2) (b := fun nx v => ZaN.b2 n (fun x0 x1 => nx (x0, x1, ())) (fun w0 w1 => K (.exit 0) (ZaN.outl2e2.enc (w0, w1, ()))) v.1 v.2.1) (l := (ZaN.cl2 n K)) (fun _ => rfl) (fun _ _ => rfl) (fun m v => by kernel_rfl) n v).symm) s
theorem ZaN.sound : ZbP Try.prog globs 61 ZaN.con :=
 Zbl (E := ZaN.env) (c := ZaN.body) (Zbk (G := globs) (lc := [(110, ZbZ.con)]) (lo := [(109, [Zcd.con])]) (ZaA (by kernel_rfl)) rfl rfl ⟨.inl ⟨ZbZ.sound, by kernel_rfl⟩, trivial⟩ rfl ⟨⟨⟨Zcd.sound, trivial⟩, by kernel_rfl⟩, trivial⟩ (by kernel_rfl) (by kernel_rfl)) Try.func61 (by kernel_rfl) (by kernel_rfl) (by kernel_rfl) ZaN.lp (l := [(true, sub [1, 1, 0, 0, 0] ZaN.body, ZaN.nml2)]) (by kernel_rfl) (fun n => ⟨ZaN.atl2 n, trivial⟩) (fun n x => by kernel_rfl)
noncomputable def Zbh (fu : Nat) (sv : List Int) : Option (((List Int) × Unit) × (Unit)) :=
 nilQ sv (
  some (([], ()), (()))) (
  chk (apOk [] sv 1) <|
  some (([] ++ sv, ()), (())))
noncomputable def Zbh.body : Code := Try.f54.body.getD .skip
noncomputable def Zbh.con : OCon := { ps := [.dat (.slice (.int .u8))], rs := [.own (.int .u8)], f := fun n x => Zbh n x.1 }
abbrev Zbh.R : Type := (RT Zbh.con.rs × BT Zbh.con.ps)
noncomputable def Zbh.env : Env := { tys := [(38, ⟨(.slice (.int .u8)), 24⟩), (5, ⟨(.int .u8), 1⟩)], elems := [(38, 5)], ptrs := [], cons := [], objs := [], loops := [], cuts := [], globs := globs, base := 0 }
noncomputable def Zbh.lp (n : Nat) : LP Zbh.R := fun lo κ body nm K s =>
 loops n Zbh.R lo κ body nm K s
theorem Zbh.sound : ZbP Try.prog globs 54 Zbh.con :=
 Zbl (E := Zbh.env) (c := Zbh.body) (Zbk (G := globs) (lc := []) (lo := []) (ZaA (by kernel_rfl)) rfl rfl trivial rfl trivial (by kernel_rfl) (by kernel_rfl)) Try.func54 (by kernel_rfl) (by kernel_rfl) (by kernel_rfl) Zbh.lp (l := []) (by kernel_rfl) (fun n => trivial) (fun n x => by kernel_rfl)
noncomputable def Zbs (fu : Nat) (b : List Int) (n : Int) : Option (((List Int) × Unit) × (Unit)) :=
 let t1 := sShl .u64 (IntKind.u64.wrap n) (1 : Int)
 let t2 := IntKind.u64.wrap (sShr .i64 n (63 : Int))
 (ZaN fu b (bXor .u64 t1 t2)).bind fun r3 =>
 some ((r3.1.1, ()), (()))
noncomputable def Zbs.body : Code := Try.f102.body.getD .skip
noncomputable def Zbs.con : OCon := { ps := [.dat (.slice (.int .u8)), .dat (.int .i64)], rs := [.own (.int .u8)], f := fun n x => Zbs n x.1 x.2.1 }
abbrev Zbs.R : Type := (RT Zbs.con.rs × BT Zbs.con.ps)
noncomputable def Zbs.env : Env := { tys := [(38, ⟨(.slice (.int .u8)), 24⟩), (51, ⟨(.int .u64), 8⟩), (2, ⟨(.int .i64), 8⟩)], elems := [], ptrs := [], cons := [], objs := [(61, [ZaN.con])], loops := [], cuts := [], globs := globs, base := 0 }
noncomputable def Zbs.lp (n : Nat) : LP Zbs.R := fun lo κ body nm K s =>
 loops n Zbs.R lo κ body nm K s
theorem Zbs.sound : ZbP Try.prog globs 102 Zbs.con :=
 Zbl (E := Zbs.env) (c := Zbs.body) (Zbk (G := globs) (lc := []) (lo := [(61, [ZaN.con])]) (ZaA (by kernel_rfl)) rfl rfl trivial rfl ⟨⟨⟨ZaN.sound, trivial⟩, by kernel_rfl⟩, trivial⟩ (by kernel_rfl) (by kernel_rfl)) Try.func102 (by kernel_rfl) (by kernel_rfl) (by kernel_rfl) Zbs.lp (l := []) (by kernel_rfl) (fun n => trivial) (fun n x => by kernel_rfl)
noncomputable def ZbE (fu : Nat) (xv : Nat) : Option (Int × Unit) :=
 cond (fNeq xv xv) (
  some ((9221120237041090560 : Int), ())) (
  (ZcF.f fu (xv, ())).bind fun r1 =>
  some (r1.1, ()))
noncomputable def ZbE.body : Code := Try.f127.body.getD .skip
noncomputable def ZbE.con : Con := { ps := [.flt], rs := [(.int .u64)], f := fun n x => ZbE n x.1 }
abbrev ZbE.R : Type := (Kd.struct ZbE.con.rs).T
noncomputable def ZbE.env : Env := { tys := [(51, ⟨(.int .u64), 8⟩)], elems := [], ptrs := [], cons := [(92, ZcF)], objs := [], loops := [], cuts := [], globs := globs, base := 0 }
noncomputable def ZbE.lp (n : Nat) : LP ZbE.R := fun lo κ body nm K s =>
 loops n ZbE.R lo κ body nm K s
theorem ZbE.sound : Zbi Try.prog globs 127 ZbE.con :=
 ZaS (E := ZbE.env) (c := ZbE.body) (Zbk (G := globs) (lc := [(92, ZcF)]) (lo := []) (ZaA (by kernel_rfl)) rfl rfl ⟨.inr (Zfv Try.func92 (by kernel_rfl) (by kernel_rfl) (by kernel_rfl) (by kernel_rfl)), trivial⟩ rfl trivial (by kernel_rfl) (by kernel_rfl)) Try.func127 (by kernel_rfl) ZbE.lp (l := []) (by kernel_rfl) (fun n => trivial) (fun n x => by kernel_rfl)
noncomputable def Zas.b4 (fu : Nat) (next : (List Int) → Int → Int → Option (((List Int) × Unit) × (Unit))) (k2 : (List Int) → Option (((List Int) × Unit) × (Unit))) (out : List Int) (n : Int) (i : Int) : Option (((List Int) × Unit) × (Unit)) :=
 cond (decide (i ≥ (0 : Int))) (
  chk (!decide (i < 0)) <|
  let t1 := IntKind.u8.wrap (sShr .u64 n i)
  chk (apOk out ([t1]) 1) <|
  let t2 := IntKind.i64.wrap (i - (8 : Int))
  next (out ++ ([t1])) n t2) (
  k2 out)
noncomputable def Zas.l4 (fu : Nat) (k2 : (List Int) → Option (((List Int) × Unit) × (Unit))) : Nat → (List Int) → Int → Int → Option (((List Int) × Unit) × (Unit))
 | 0, _, _, _ => none
 | m + 1, out, n, i => Zas.b4 fu (Zas.l4 fu k2 m) k2 out n i
noncomputable def Zas (fu : Nat) (b : List Int) (xv : Nat) : Option (((List Int) × Unit) × (Unit)) :=
 (Zcd fu b (8 : Int)).bind fun r1 =>
 (ZbE fu xv).bind fun r2 =>
 Zas.l4 fu (fun outq2 =>
   some ((outq2, ()), (()))) fu r1.1.1 r2.1 (56 : Int)
noncomputable def Zas.body : Code := Try.f103.body.getD .skip
abbrev Zas.shl4 : Shp := ⟨us 5 (.o 5 (.int .u8) :: .d (.int .u64) :: .d (.int .i64) :: us 16 []), []⟩
abbrev Zas.outl4e2 : Shp := ⟨us 5 (.o 5 (.int .u8) :: us 18 []), []⟩
noncomputable def Zas.nml4 : Norm := ⟨Zas.shl4.cut [], [(2, Zas.outl4e2.cut [])]⟩
noncomputable def Zas.con : OCon := { ps := [.dat (.slice (.int .u8)), .dat .flt], rs := [.own (.int .u8)], f := fun n x => Zas n x.1 x.2.1 }
abbrev Zas.R : Type := (RT Zas.con.rs × BT Zas.con.ps)
noncomputable def Zas.env : Env := { tys := [(38, ⟨(.slice (.int .u8)), 24⟩), (3, ⟨(.int .i64), 8⟩), (5, ⟨(.int .u8), 1⟩), (51, ⟨(.int .u64), 8⟩)], elems := [(38, 5)], ptrs := [], cons := [(127, ZbE.con)], objs := [(109, [Zcd.con])], loops := [(4, Zas.nml4)], cuts := [], globs := globs, base := 0 }
noncomputable def Zas.cl4 (n : Nat) (K : Ex → St → Option Zas.R) (m : Nat) (v : Zas.shl4.T) : Option Zas.R := Zas.l4 n (fun w0 => K (.exit 0) (Zas.outl4e2.enc (w0, ()))) m v.1 v.2.1 v.2.2.1
noncomputable def Zas.lp (n : Nat) : LP Zas.R := fun lo κ body nm K s =>
 cond (lo && Nat.beq κ 4) (pc Zas.shl4 (Zas.cl4 n K n) (loops n Zas.R lo κ body nm K) s) <|
  loops n Zas.R lo κ body nm K s
noncomputable def Zas.tl4 (n : Nat) := evK (β := Zas.R) Zas.env (Zas.lp n) n (sub [1, 1, 1, 0, 1, 0, 0] Zas.body)
theorem Zas.atl4 (n : Nat) : At n (Zas.lp n) true 4 (Zas.tl4 n) Zas.nml4 := fun s K =>
 ZbR (sh := Zas.shl4) (F := (Zas.cl4 n K n)) (B := loops n _ true 4 (Zas.tl4 n) Zas.nml4 K) (fun v => (Zbc (sh := Zas.shl4) (body := (Zas.tl4 n)) (nm := Zas.nml4) (b := fun nx v => Zas.b4 n (fun x0 x1 x2 => nx (x0, x1, x2, ())) (fun w0 => K (.exit 0) (Zas.outl4e2.enc (w0, ()))) v.1 v.2.1 v.2.2.1) (l := (Zas.cl4 n K)) (fun _ => rfl) (fun _ _ => rfl) (fun m v => by kernel_rfl) n v).symm) s
theorem Zas.sound : ZbP Try.prog globs 103 Zas.con :=
 Zbl (E := Zas.env) (c := Zas.body) (Zbk (G := globs) (lc := [(127, ZbE.con)]) (lo := [(109, [Zcd.con])]) (ZaA (by kernel_rfl)) rfl rfl ⟨.inl ⟨ZbE.sound, by kernel_rfl⟩, trivial⟩ rfl ⟨⟨⟨Zcd.sound, trivial⟩, by kernel_rfl⟩, trivial⟩ (by kernel_rfl) (by kernel_rfl)) Try.func103 (by kernel_rfl) (by kernel_rfl) (by kernel_rfl) Zas.lp (l := [(true, sub [1, 1, 1, 0, 1, 0, 0] Zas.body, Zas.nml4)]) (by kernel_rfl) (fun n => ⟨Zas.atl4 n, trivial⟩) (fun n x => by kernel_rfl)
noncomputable def Zbf (fu : Nat) (b : List Int) (sv : List Int) : Option (((List Int) × Unit) × (Unit)) :=
 let t1 := IntKind.u64.wrap (sv.length : Int)
 (ZaN fu b t1).bind fun r2 =>
 chk (apOk r2.1.1 sv 1) <|
 some ((r2.1.1 ++ sv, ()), (()))
noncomputable def Zbf.body : Code := Try.f104.body.getD .skip
noncomputable def Zbf.con : OCon := { ps := [.dat (.slice (.int .u8)), .dat .str], rs := [.own (.int .u8)], f := fun n x => Zbf n x.1 x.2.1 }
abbrev Zbf.R : Type := (RT Zbf.con.rs × BT Zbf.con.ps)
noncomputable def Zbf.env : Env := { tys := [(38, ⟨(.slice (.int .u8)), 24⟩), (9, ⟨.str, 16⟩), (51, ⟨(.int .u64), 8⟩), (3, ⟨(.int .i64), 8⟩), (5, ⟨(.int .u8), 1⟩)], elems := [(38, 5)], ptrs := [], cons := [], objs := [(61, [ZaN.con])], loops := [], cuts := [], globs := globs, base := 0 }
noncomputable def Zbf.lp (n : Nat) : LP Zbf.R := fun lo κ body nm K s =>
 loops n Zbf.R lo κ body nm K s
theorem Zbf.sound : ZbP Try.prog globs 104 Zbf.con :=
 Zbl (E := Zbf.env) (c := Zbf.body) (Zbk (G := globs) (lc := []) (lo := [(61, [ZaN.con])]) (ZaA (by kernel_rfl)) rfl rfl trivial rfl ⟨⟨⟨ZaN.sound, trivial⟩, by kernel_rfl⟩, trivial⟩ (by kernel_rfl) (by kernel_rfl)) Try.func104 (by kernel_rfl) (by kernel_rfl) (by kernel_rfl) Zbf.lp (l := []) (by kernel_rfl) (fun n => trivial) (fun n x => by kernel_rfl)
noncomputable def ZbX (fu : Nat) (b : List Int) (v : S1) : Option (((List Int) × Int × Unit) × (Unit)) :=
 (ZbH fu v).bind fun r1 =>
 cond (!r1.1) (
  some (([], (1 : Int), ()), (()))) (
  let t2 := IntKind.i64.wrap ((b.length : Int) + (1 : Int))
  chk (mkOk (0 : Int) t2 1) <|
  let t3 := List.replicate (0 : Int).toNat (0 : Int)
  chk (apOk t3 b 1) <|
  chk (apOk (t3 ++ b) ([v.1]) 1) <|
  cond (v.1 == (1 : Int)) (
   (Zbs fu ((t3 ++ b) ++ ([v.1])) v.2.1).bind fun r4 =>
   some ((r4.1.1, (0 : Int), ()), (()))) (
   cond (v.1 == (2 : Int)) (
    (Zas fu ((t3 ++ b) ++ ([v.1])) v.2.2.1).bind fun r5 =>
    some ((r5.1.1, (0 : Int), ()), (()))) (
    cond (v.1 == (3 : Int)) (
     (Zbf fu ((t3 ++ b) ++ ([v.1])) v.2.2.2.1).bind fun r6 =>
     some ((r6.1.1, (0 : Int), ()), (()))) (
     some (((t3 ++ b) ++ ([v.1]), (0 : Int), ()), (()))))))
noncomputable def ZbX.body : Code := Try.f55.body.getD .skip
noncomputable def ZbX.con : OCon := { ps := [.dat (.slice (.int .u8)), .dat kS1], rs := [.own (.int .u8), .dat (.int .i64)], f := fun n x => ZbX n x.1 x.2.1 }
abbrev ZbX.R : Type := (RT ZbX.con.rs × BT ZbX.con.ps)
noncomputable def ZbX.env : Env := { tys := [(34, ⟨kS1, 40⟩), (38, ⟨(.slice (.int .u8)), 24⟩), (39, ⟨(.int .i64), 8⟩), (5, ⟨(.int .u8), 1⟩), (2, ⟨(.int .i64), 8⟩), (32, ⟨.flt, 8⟩), (9, ⟨.str, 16⟩)], elems := [(38, 5)], ptrs := [], cons := [(59, ZbH.con)], objs := [(102, [Zbs.con]), (103, [Zas.con]), (104, [Zbf.con])], loops := [], cuts := [], globs := globs, base := 0 }
noncomputable def ZbX.lp (n : Nat) : LP ZbX.R := fun lo κ body nm K s =>
 loops n ZbX.R lo κ body nm K s
theorem ZbX.sound : ZbP Try.prog globs 55 ZbX.con :=
 Zbl (E := ZbX.env) (c := ZbX.body) (Zbk (G := globs) (lc := [(59, ZbH.con)]) (lo := [(102, [Zbs.con]), (103, [Zas.con]), (104, [Zbf.con])]) (ZaA (by kernel_rfl)) rfl rfl ⟨.inl ⟨ZbH.sound, by kernel_rfl⟩, trivial⟩ rfl ⟨⟨⟨Zbs.sound, trivial⟩, by kernel_rfl⟩, ⟨⟨⟨Zas.sound, trivial⟩, by kernel_rfl⟩, ⟨⟨⟨Zbf.sound, trivial⟩, by kernel_rfl⟩, trivial⟩⟩⟩ (by kernel_rfl) (by kernel_rfl)) Try.func55 (by kernel_rfl) (by kernel_rfl) (by kernel_rfl) ZbX.lp (l := []) (by kernel_rfl) (fun n => trivial) (fun n x => by kernel_rfl)
noncomputable def ZaF.b9 (fu : Nat) (next : (List Int) → (List S2) → Int → Int → Option (((List Int) × Int × Unit) × (Unit))) (k2 : (List Int) → Option (((List Int) × Int × Unit) × (Unit))) (out : List Int) (v : List S2) (vx2 : Int) (vx3 : Int) : Option (((List Int) × Int × Unit) × (Unit)) :=
 cond (decide (vx3 < vx2)) (
  chk (ixOk v vx3) <|
  let e1 := ixL ((0 : Int), (0 : Int), ((0 : Int), (0 : Int), (0 : Nat), [], ()), ()) v vx3
  chk (apOk out ([e1.1, e1.2.1]) 1) <|
  (ZbX fu (out ++ ([e1.1, e1.2.1])) e1.2.2.1).bind fun r2 =>
  let t3 := IntKind.i64.wrap (vx3 + (1 : Int))
  next r2.1.1 v vx2 t3) (
  k2 out)
noncomputable def ZaF.l9 (fu : Nat) (k2 : (List Int) → Option (((List Int) × Int × Unit) × (Unit))) : Nat → (List Int) → (List S2) → Int → Int → Option (((List Int) × Int × Unit) × (Unit))
 | 0, _, _, _, _ => none
 | m + 1, out, v, vx2, vx3 => ZaF.b9 fu (ZaF.l9 fu k2 m) k2 out v vx2 vx3
noncomputable def ZaF.j8 (fu : Nat) (k1 : (List Int) → Int → Option (((List Int) × Int × Unit) × (Unit))) (out : List Int) (b0 : S3) : Option (((List Int) × Int × Unit) × (Unit)) :=
 ZaF.l9 fu (fun outq4 =>
   k1 outq4 (0 : Int)) fu out b0.2.2.1 (b0.2.2.1.length : Int) (0 : Int)
noncomputable def ZaF (fu : Nat) (b : List Int) (p : S3) : Option (((List Int) × Int × Unit) × (Unit)) :=
 (Zce fu p).bind fun r1 =>
 cond (!r1.1) (
  some (([], (1 : Int), ()), (()))) (
  let t2 := IntKind.i64.wrap ((16 : Int) * (p.2.2.1.length : Int))
  (Zbh fu b).bind fun r3 =>
  cond p.1 (
   let t4 := IntKind.u8.wrap (IntKind.u8.wrap t2 + (1 : Int))
   chk (apOk r3.1.1 ([t4]) 1) <|
   ZaF.j8 fu (fun vq1 vq1x2 =>
     some ((vq1, vq1x2, ()), (()))) (r3.1.1 ++ ([t4])) p) (
   let t5 := [IntKind.u8.wrap t2, p.2.1]
   chk (apOk r3.1.1 t5 1) <|
   ZaF.j8 fu (fun vq2 vq2x2 =>
     some ((vq2, vq2x2, ()), (()))) (r3.1.1 ++ t5) p))
noncomputable def ZaF.body : Code := Try.f83.body.getD .skip
abbrev ZaF.shl9 : Shp := ⟨us 7 (.o 7 (.int .u8) :: us 26 (.d (.slice kS2) :: .d (.int .i64) :: .d (.int .i64) :: us 18 [])), []⟩
abbrev ZaF.outl9e2 : Shp := ⟨us 7 (.o 7 (.int .u8) :: us 47 []), []⟩
noncomputable def ZaF.nml9 : Norm := ⟨ZaF.shl9.cut [], [(2, ZaF.outl9e2.cut [])]⟩
abbrev ZaF.shj8 : Shp := ⟨us 3 (.p 0 0 :: us 3 (.o 7 (.int .u8) :: us 47 [])), [.c [.g kS3]]⟩
abbrev ZaF.outj8e1 : Shp := ⟨us 4 (.o 4 (.int .u8) :: .d (.int .i64) :: us 49 []), []⟩
noncomputable def ZaF.nmj8 : Norm := ⟨ZaF.shj8.cut [], [(1, ZaF.outj8e1.cut [])]⟩
noncomputable def ZaF.con : OCon := { ps := [.dat (.slice (.int .u8)), .dat kS3], rs := [.own (.int .u8), .dat (.int .i64)], f := fun n x => ZaF n x.1 x.2.1 }
abbrev ZaF.R : Type := (RT ZaF.con.rs × BT ZaF.con.ps)
noncomputable def ZaF.env : Env := { tys := [(75, ⟨kS3, 32⟩), (38, ⟨(.slice (.int .u8)), 24⟩), (39, ⟨(.int .i64), 8⟩), (73, ⟨(.slice kS2), 24⟩), (88, ⟨kS2, 48⟩), (5, ⟨(.int .u8), 1⟩), (3, ⟨(.int .i64), 8⟩), (4, ⟨.bool, 1⟩), (34, ⟨kS1, 40⟩)], elems := [(73, 88), (38, 5)], ptrs := [], cons := [(71, Zce.con)], objs := [(54, [Zbh.con]), (55, [ZbX.con])], loops := [(9, ZaF.nml9)], cuts := [(8, ZaF.nmj8)], globs := globs, base := 0 }
noncomputable def ZaF.cl9 (n : Nat) (K : Ex → St → Option ZaF.R) (m : Nat) (v : ZaF.shl9.T) : Option ZaF.R := ZaF.l9 n (fun w0 => K (.exit 0) (ZaF.outl9e2.enc (w0, ()))) m v.1 v.2.1 v.2.2.1 v.2.2.2.1
noncomputable def ZaF.cj8 (n : Nat) (K : Ex → St → Option ZaF.R) (v : ZaF.shj8.T) : Option ZaF.R := ZaF.j8 n (fun w0 w1 => K .ret (ZaF.outj8e1.enc (w0, w1, ()))) v.1 v.2.1
noncomputable def ZaF.lp (n : Nat) : LP ZaF.R := fun lo κ body nm K s =>
 cond (lo && Nat.beq κ 9) (pc ZaF.shl9 (ZaF.cl9 n K n) (loops n ZaF.R lo κ body nm K) s) <|
  cond (!lo && Nat.beq κ 8) (pc ZaF.shj8 (ZaF.cj8 n K) (loops n ZaF.R lo κ body nm K) s) <|
  loops n ZaF.R lo κ body nm K s
noncomputable def ZaF.tl9 (n : Nat) := evK (β := ZaF.R) ZaF.env (ZaF.lp n) n (sub [1, 1, 1, 1, 1, 0, 1, 0, 0] ZaF.body)
theorem ZaF.atl9 (n : Nat) : At n (ZaF.lp n) true 9 (ZaF.tl9 n) ZaF.nml9 := fun s K =>
 ZbR (sh := ZaF.shl9) (F := (ZaF.cl9 n K n)) (B := loops n _ true 9 (ZaF.tl9 n) ZaF.nml9 K) (fun v => (Zbc (sh := ZaF.shl9) (body := (ZaF.tl9 n)) (nm := ZaF.nml9) (b := fun nx v => ZaF.b9 n (fun x0 x1 x2 x3 => nx (x0, x1, x2, x3, ())) (fun w0 => K (.exit 0) (ZaF.outl9e2.enc (w0, ()))) v.1 v.2.1 v.2.2.1 v.2.2.2.1) (l := (ZaF.cl9 n K)) (fun _ => rfl) (fun _ _ => rfl) (fun m v => by kernel_rfl) n v).symm) s
noncomputable def ZaF.tj8 (n : Nat) := evK (β := ZaF.R) ZaF.env (ZaF.lp n) n (sub [1, 1, 1, 1, 1] ZaF.body)
theorem ZaF.atj8 (n : Nat) : At n (ZaF.lp n) false 8 (ZaF.tj8 n) ZaF.nmj8 := fun s K =>
 ZbR (sh := ZaF.shj8) (F := (ZaF.cj8 n K)) (B := loops n _ false 8 (ZaF.tj8 n) ZaF.nmj8 K) (fun v => by kernel_rfl) s
theorem ZaF.sound : ZbP Try.prog globs 83 ZaF.con :=
 Zbl (E := ZaF.env) (c := ZaF.body) (Zbk (G := globs) (lc := [(71, Zce.con)]) (lo := [(54, [Zbh.con]), (55, [ZbX.con])]) (ZaA (by kernel_rfl)) rfl rfl ⟨.inl ⟨Zce.sound, by kernel_rfl⟩, trivial⟩ rfl ⟨⟨⟨Zbh.sound, trivial⟩, by kernel_rfl⟩, ⟨⟨⟨ZbX.sound, trivial⟩, by kernel_rfl⟩, trivial⟩⟩ (by kernel_rfl) (by kernel_rfl)) Try.func83 (by kernel_rfl) (by kernel_rfl) (by kernel_rfl) ZaF.lp (l := [(true, sub [1, 1, 1, 1, 1, 0, 1, 0, 0] ZaF.body, ZaF.nml9), (false, sub [1, 1, 1, 1, 1] ZaF.body, ZaF.nmj8)]) (by kernel_rfl) (fun n => ⟨ZaF.atl9 n, ⟨ZaF.atj8 n, trivial⟩⟩) (fun n x => by kernel_rfl)
noncomputable def ZbY (fu : Nat) (l : List S6) (atv : Int) : Option ((List S6) × Unit) :=
 let t1 := IntKind.i64.wrap (atv + (1 : Int))
 chk (ixOk l atv) <|
 let e2 := ixL ((0 : Int), (false, (0 : Int), [], ()), false, (false, (0 : Int), [], ()), (0 : Int), (0 : Int), (0 : Int), ()) l atv
 let t3 := IntKind.i64.wrap (t1 + e2.2.2.2.2.2.2.1)
 chk (ZfE l atv t3) <|
 some (cutL l atv t3, ())
noncomputable def ZbY.body : Code := Try.f85.body.getD .skip
noncomputable def ZbY.con : Con := { ps := [(.slice kS6), (.int .i64)], rs := [(.slice kS6)], f := fun n x => ZbY n x.1 x.2.1 }
abbrev ZbY.R : Type := (Kd.struct ZbY.con.rs).T
noncomputable def ZbY.env : Env := { tys := [(66, ⟨(.slice kS6), 24⟩), (77, ⟨kS6, 96⟩), (3, ⟨(.int .i64), 8⟩)], elems := [(66, 77)], ptrs := [], cons := [], objs := [], loops := [], cuts := [], globs := globs, base := 0 }
noncomputable def ZbY.lp (n : Nat) : LP ZbY.R := fun lo κ body nm K s =>
 loops n ZbY.R lo κ body nm K s
theorem ZbY.sound : Zbi Try.prog globs 85 ZbY.con :=
 ZaS (E := ZbY.env) (c := ZbY.body) (Zbk (G := globs) (lc := []) (lo := []) (ZaA (by kernel_rfl)) rfl rfl trivial rfl trivial (by kernel_rfl) (by kernel_rfl)) Try.func85 (by kernel_rfl) ZbY.lp (l := []) (by kernel_rfl) (fun n => trivial) (fun n x => by kernel_rfl)
noncomputable def Zar.j18 (fu : Nat) (k0 : (List Int) → (List S6) → Int → Int → S7 → Option ((List Int) × Int × Unit)) (b : List Int) (v : List S6) (vx2 : Int) (vx3 : Int) (b0 : S7) (b1 : S6) : Option ((List Int) × Int × Unit) :=
 cond b1.2.2.1 (
  (ZaF fu b b1.2.2.2.1).bind fun r1 =>
  k0 r1.1.1 v vx2 vx3 b0) (
  k0 b v vx2 vx3 b0)
noncomputable def Zar.j11 (fu : Nat) (k0 : (List Int) → (List S6) → Int → Int → S7 → Option ((List Int) × Int × Unit)) (b : List Int) (i : Int) (head : Int) (v : List S6) (vx2 : Int) (vx3 : Int) (b0 : S7) (b1 : S6) : Option ((List Int) × Int × Unit) :=
 chk (apOk b ([head]) 1) <|
 cond (b1.1 == (1 : Int)) (
  (ZaF fu (b ++ ([head])) b1.2.1).bind fun r1 =>
  Zar.j18 fu (fun bq3 vq3 vq3x2 vq3x3 b0q3 =>
    k0 bq3 vq3 vq3x2 vq3x3 b0q3) r1.1.1 v vx2 vx3 b0 b1) (
  cond (b1.1 == (4 : Int)) (
   let t2 := [b1.2.2.2.2.1, b1.2.2.2.2.2.1]
   chk (apOk (b ++ ([head])) t2 1) <|
   Zar.j18 fu (fun bq4 vq4 vq4x2 vq4x3 b0q4 =>
     k0 bq4 vq4 vq4x2 vq4x3 b0q4) ((b ++ ([head])) ++ t2) v vx2 vx3 b0 b1) (
   (ZbY fu b0.1 i).bind fun r3 =>
   (Zax fu r3.1).bind fun r4 =>
   let t5 := IntKind.u8.wrap (r4.1.length : Int)
   chk (apOk (b ++ ([head])) ([t5]) 1) <|
   let t6 := (b ++ ([head])) ++ ([t5])
   Zar.j18 fu (fun bq5 vq5 vq5x2 vq5x3 b0q5 =>
     k0 bq5 vq5 vq5x2 vq5x3 b0q5) t6 v vx2 vx3 b0 b1))
noncomputable def Zar.b6 (fu : Nat) (next : (List Int) → (List S6) → Int → Int → S7 → Option ((List Int) × Int × Unit)) (k2 : (List Int) → Option ((List Int) × Int × Unit)) (b : List Int) (v : List S6) (vx2 : Int) (vx3 : Int) (b0 : S7) : Option ((List Int) × Int × Unit) :=
 cond (decide (vx3 < vx2)) (
  chk (ixOk v vx3) <|
  let e1 := ixL ((0 : Int), (false, (0 : Int), [], ()), false, (false, (0 : Int), [], ()), (0 : Int), (0 : Int), (0 : Int), ()) v vx3
  cond e1.2.2.1 (
   let t2 := IntKind.u8.wrap (e1.1 + (16 : Int))
   Zar.j11 fu (fun bq8 vq8 vq8x2 vq8x3 b0q8 =>
     let t3 := IntKind.i64.wrap (vq8x3 + (1 : Int))
     next bq8 vq8 vq8x2 t3 b0q8) b vx3 t2 v vx2 vx3 b0 e1) (
   Zar.j11 fu (fun bq9 vq9 vq9x2 vq9x3 b0q9 =>
     let t4 := IntKind.i64.wrap (vq9x3 + (1 : Int))
     next bq9 vq9 vq9x2 t4 b0q9) b vx3 e1.1 v vx2 vx3 b0 e1)) (
  k2 b)
noncomputable def Zar.l6 (fu : Nat) (k2 : (List Int) → Option ((List Int) × Int × Unit)) : Nat → (List Int) → (List S6) → Int → Int → S7 → Option ((List Int) × Int × Unit)
 | 0, _, _, _, _, _ => none
 | m + 1, b, v, vx2, vx3, b0 => Zar.b6 fu (Zar.l6 fu k2 m) k2 b v vx2 vx3 b0
noncomputable def Zar (fu : Nat) (p : S7) : Option ((List Int) × Int × Unit) :=
 (ZaT fu p).bind fun r1 =>
 cond (r1.1 != (0 : Int)) (
  some ([], r1.1, ())) (
  (ZaN fu [] p.2.1).bind fun r2 =>
  Zar.l6 fu (fun bq2 =>
    some (bq2, (0 : Int), ())) fu r2.1.1 p.1 (p.1.length : Int) (0 : Int) p)
noncomputable def Zar.body : Code := Try.f43.body.getD .skip
abbrev Zar.shj18 : Shp := ⟨.u :: .p 0 0 :: us 3 (.o 5 (.int .u8) :: .u :: .p 1 0 :: us 10 (.d (.slice kS6) :: .d (.int .i64) :: .d (.int .i64) :: us 55 [])), [.c [.g kS7], .c [.g kS6]]⟩
abbrev Zar.outj18e0 : Shp := ⟨.u :: .p 0 0 :: us 3 (.o 5 (.int .u8) :: us 12 (.d (.slice kS6) :: .d (.int .i64) :: .d (.int .i64) :: us 55 [])), [.c [.g kS7]]⟩
noncomputable def Zar.nmj18 : Norm := ⟨Zar.shj18.cut [], [(0, Zar.outj18e0.cut [])]⟩
abbrev Zar.shj11 : Shp := ⟨.u :: .p 0 0 :: us 3 (.o 5 (.int .u8) :: .d (.int .i64) :: .p 1 0 :: .d (.int .u8) :: us 9 (.d (.slice kS6) :: .d (.int .i64) :: .d (.int .i64) :: us 55 [])), [.c [.g kS7], .c [.g kS6]]⟩
abbrev Zar.outj11e0 : Shp := ⟨.u :: .p 0 0 :: us 3 (.o 5 (.int .u8) :: us 12 (.d (.slice kS6) :: .d (.int .i64) :: .d (.int .i64) :: us 55 [])), [.c [.g kS7]]⟩
noncomputable def Zar.nmj11 : Norm := ⟨Zar.shj11.cut [], [(0, Zar.outj11e0.cut [])]⟩
abbrev Zar.shl6 : Shp := ⟨.u :: .p 0 0 :: us 3 (.o 5 (.int .u8) :: us 12 (.d (.slice kS6) :: .d (.int .i64) :: .d (.int .i64) :: us 55 [])), [.c [.g kS7]]⟩
abbrev Zar.outl6e2 : Shp := ⟨us 5 (.o 5 (.int .u8) :: us 70 []), []⟩
noncomputable def Zar.nml6 : Norm := ⟨Zar.shl6.cut [], [(2, Zar.outl6e2.cut [])]⟩
noncomputable def Zar.con : Con := { ps := [kS7], rs := [(.slice (.int .u8)), (.int .i64)], f := fun n x => Zar n x.1 }
abbrev Zar.R : Type := (Kd.struct Zar.con.rs).T
noncomputable def Zar.env : Env := { tys := [(68, ⟨kS7, 32⟩), (38, ⟨(.slice (.int .u8)), 24⟩), (39, ⟨(.int .i64), 8⟩), (51, ⟨(.int .u64), 8⟩), (66, ⟨(.slice kS6), 24⟩), (77, ⟨kS6, 96⟩), (3, ⟨(.int .i64), 8⟩), (5, ⟨(.int .u8), 1⟩), (4, ⟨.bool, 1⟩), (75, ⟨kS3, 32⟩)], elems := [(66, 77), (38, 5), (140, 66)], ptrs := [], cons := [(33, ZaT.con), (85, ZbY.con), (84, Zax.con)], objs := [(61, [ZaN.con]), (83, [ZaF.con])], loops := [(6, Zar.nml6)], cuts := [(18, Zar.nmj18), (11, Zar.nmj11)], globs := globs, base := 0 }
noncomputable def Zar.cj18 (n : Nat) (K : Ex → St → Option Zar.R) (v : Zar.shj18.T) : Option Zar.R := Zar.j18 n (fun w0 w1 w2 w3 w4 => K .normal (Zar.outj18e0.enc (w0, w1, w2, w3, w4, ()))) v.1 v.2.1 v.2.2.1 v.2.2.2.1 v.2.2.2.2.1 v.2.2.2.2.2.1
noncomputable def Zar.cj11 (n : Nat) (K : Ex → St → Option Zar.R) (v : Zar.shj11.T) : Option Zar.R := Zar.j11 n (fun w0 w1 w2 w3 w4 => K .normal (Zar.outj11e0.enc (w0, w1, w2, w3, w4, ()))) v.1 v.2.1 v.2.2.1 v.2.2.2.1 v.2.2.2.2.1 v.2.2.2.2.2.1 v.2.2.2.2.2.2.1 v.2.2.2.2.2.2.2.1
noncomputable def Zar.cl6 (n : Nat) (K : Ex → St → Option Zar.R) (m : Nat) (v : Zar.shl6.T) : Option Zar.R := Zar.l6 n (fun w0 => K (.exit 0) (Zar.outl6e2.enc (w0, ()))) m v.1 v.2.1 v.2.2.1 v.2.2.2.1 v.2.2.2.2.1
noncomputable def Zar.lp (n : Nat) : LP Zar.R := fun lo κ body nm K s =>
 cond (!lo && Nat.beq κ 18) (pc Zar.shj18 (Zar.cj18 n K) (loops n Zar.R lo κ body nm K) s) <|
  cond (!lo && Nat.beq κ 11) (pc Zar.shj11 (Zar.cj11 n K) (loops n Zar.R lo κ body nm K) s) <|
  cond (lo && Nat.beq κ 6) (pc Zar.shl6 (Zar.cl6 n K n) (loops n Zar.R lo κ body nm K) s) <|
  loops n Zar.R lo κ body nm K s
noncomputable def Zar.tj18 (n : Nat) := evK (β := Zar.R) Zar.env (Zar.lp n) n (sub [1, 1, 1, 0, 1, 0, 0, 1, 1, 0, 0, 1, 1, 1, 1, 1] Zar.body)
theorem Zar.atj18 (n : Nat) : At n (Zar.lp n) false 18 (Zar.tj18 n) Zar.nmj18 := fun s K =>
 ZbR (sh := Zar.shj18) (F := (Zar.cj18 n K)) (B := loops n _ false 18 (Zar.tj18 n) Zar.nmj18 K) (fun v => by kernel_rfl) s
noncomputable def Zar.tj11 (n : Nat) := evK (β := Zar.R) Zar.env (Zar.lp n) n (sub [1, 1, 1, 0, 1, 0, 0, 1, 1, 0, 0, 1, 1, 1] Zar.body)
theorem Zar.atj11 (n : Nat) : At n (Zar.lp n) false 11 (Zar.tj11 n) Zar.nmj11 := fun s K =>
 ZbR (sh := Zar.shj11) (F := (Zar.cj11 n K)) (B := loops n _ false 11 (Zar.tj11 n) Zar.nmj11 K) (fun v => by kernel_rfl) s
noncomputable def Zar.tl6 (n : Nat) := evK (β := Zar.R) Zar.env (Zar.lp n) n (sub [1, 1, 1, 0, 1, 0, 0] Zar.body)
theorem Zar.atl6 (n : Nat) : At n (Zar.lp n) true 6 (Zar.tl6 n) Zar.nml6 := fun s K =>
 ZbR (sh := Zar.shl6) (F := (Zar.cl6 n K n)) (B := loops n _ true 6 (Zar.tl6 n) Zar.nml6 K) (fun v => (Zbc (sh := Zar.shl6) (body := (Zar.tl6 n)) (nm := Zar.nml6) (b := fun nx v => Zar.b6 n (fun x0 x1 x2 x3 x4 => nx (x0, x1, x2, x3, x4, ())) (fun w0 => K (.exit 0) (Zar.outl6e2.enc (w0, ()))) v.1 v.2.1 v.2.2.1 v.2.2.2.1 v.2.2.2.2.1) (l := (Zar.cl6 n K)) (fun _ => rfl) (fun _ _ => rfl) (fun m v => by kernel_rfl) n v).symm) s
theorem Zar.sound : Zbi Try.prog globs 43 Zar.con :=
 ZaS (E := Zar.env) (c := Zar.body) (Zbk (G := globs) (lc := [(33, ZaT.con), (85, ZbY.con), (84, Zax.con)]) (lo := [(61, [ZaN.con]), (83, [ZaF.con])]) (ZaA (by kernel_rfl)) rfl rfl ⟨.inl ⟨ZaT.sound, by kernel_rfl⟩, ⟨.inl ⟨ZbY.sound, by kernel_rfl⟩, ⟨.inl ⟨Zax.sound, by kernel_rfl⟩, trivial⟩⟩⟩ rfl ⟨⟨⟨ZaN.sound, trivial⟩, by kernel_rfl⟩, ⟨⟨⟨ZaF.sound, trivial⟩, by kernel_rfl⟩, trivial⟩⟩ (by kernel_rfl) (by kernel_rfl)) Try.func43 (by kernel_rfl) Zar.lp (l := [(false, sub [1, 1, 1, 0, 1, 0, 0, 1, 1, 0, 0, 1, 1, 1, 1, 1] Zar.body, Zar.nmj18), (false, sub [1, 1, 1, 0, 1, 0, 0, 1, 1, 0, 0, 1, 1, 1] Zar.body, Zar.nmj11), (true, sub [1, 1, 1, 0, 1, 0, 0] Zar.body, Zar.nml6)]) (by kernel_rfl) (fun n => ⟨Zar.atj18 n, ⟨Zar.atj11 n, ⟨Zar.atl6 n, trivial⟩⟩⟩) (fun n x => by kernel_rfl)
noncomputable def Zbu (fu : Nat) : Option (Bool × Unit) :=
 let t1 := [((1 : Int), (false, (3 : Int), [], ()), false, (false, (0 : Int), [], ()), (0 : Int), (0 : Int), (0 : Int), ())]
 (Zar fu (t1, (5 : Int), ())).bind fun r2 =>
 let t3 := r2.1 == ([5, 1, 0, 3] : List Int)
 cond t3 (
  some (r2.2.1 == (0 : Int), ())) (
  some (false, ()))
noncomputable def Zbu.body : Code := Try.f42.body.getD .skip
noncomputable def Zbu.con : Con := { ps := [], rs := [.bool], f := fun n x => Zbu n }
abbrev Zbu.R : Type := (Kd.struct Zbu.con.rs).T
noncomputable def Zbu.env : Env := { tys := [(4, ⟨.bool, 1⟩), (75, ⟨kS3, 32⟩), (77, ⟨kS6, 96⟩), (68, ⟨kS7, 32⟩), (9, ⟨.str, 16⟩), (38, ⟨(.slice (.int .u8)), 24⟩), (5, ⟨(.int .u8), 1⟩)], elems := [(66, 77), (38, 5)], ptrs := [], cons := [(43, Zar.con)], objs := [], loops := [], cuts := [], globs := globs, base := 0 }
noncomputable def Zbu.lp (n : Nat) : LP Zbu.R := fun lo κ body nm K s =>
 loops n Zbu.R lo κ body nm K s
theorem Zbu.sound : Zbi Try.prog globs 42 Zbu.con :=
 ZaS (E := Zbu.env) (c := Zbu.body) (Zbk (G := globs) (lc := [(43, Zar.con)]) (lo := []) (ZaA (by kernel_rfl)) rfl rfl ⟨.inl ⟨Zar.sound, by kernel_rfl⟩, trivial⟩ rfl trivial (by kernel_rfl) (by kernel_rfl)) Try.func42 (by kernel_rfl) Zbu.lp (l := []) (by kernel_rfl) (fun n => trivial) (fun n x => by kernel_rfl)
noncomputable def Zal.b8 (fu : Nat) (Sref11Build : (List S6) → Int → Int → Option ((Tr S6) × Int × Bool × Unit)) (next : (List S6) → Int → Int → Int → Int → Bool → Int → (List S2) → Bool → Bool → Int → (List S2) → Int → Int → Int → (List (Tr S6)) → Int → Bool → Int → (List S2) → Bool → Bool → Int → (List S2) → Int → Int → Int → (List (Tr S6)) → Option ((Tr S6) × Int × Bool × Unit)) (k1 : Int → Bool → Int → Bool → Int → (List S2) → Bool → Bool → Int → (List S2) → Int → Int → Int → (List (Tr S6)) → Option ((Tr S6) × Int × Bool × Unit)) (k2 : Int → Int → Bool → Int → (List S2) → Bool → Bool → Int → (List S2) → Int → Int → Int → (List (Tr S6)) → Int → Bool → Int → (List S2) → Bool → Bool → Int → (List S2) → Int → Int → Int → (List (Tr S6)) → Option ((Tr S6) × Int × Bool × Unit)) (l : List S6) (atv : Int) (n : Int) (kv : Int) (c0 : Int) (c0x2 : Bool) (c0x3 : Int) (c0x4 : List S2) (c0x5 : Bool) (c0x6 : Bool) (c0x7 : Int) (c0x8 : List S2) (c0x9 : Int) (c0x10 : Int) (c0x11 : Int) (c0x12 : List (Tr S6)) (c1 : Int) (c1x2 : Bool) (c1x3 : Int) (c1x4 : List S2) (c1x5 : Bool) (c1x6 : Bool) (c1x7 : Int) (c1x8 : List S2) (c1x9 : Int) (c1x10 : Int) (c1x11 : Int) (c1x12 : List (Tr S6)) : Option ((Tr S6) × Int × Bool × Unit) :=
 let t1 := IntKind.i64.wrap (atv + (1 : Int))
 let t2 := IntKind.i64.wrap (t1 + n)
 cond (decide (kv < t2)) (
  let t3 := IntKind.i64.wrap (atv + (1 : Int))
  let t4 := IntKind.i64.wrap (t3 + n)
  (Sref11Build l kv t4).bind fun r5 =>
  cond (!r5.2.2.1) (
   k1 (0 : Int) false (0 : Int) false (0 : Int) [] false false (0 : Int) [] (0 : Int) (0 : Int) (0 : Int) []) (
   let t6 := [Tr.mk r5.1.val r5.1.sub]
   chk (apOk c1x12 t6 120) <|
   next l atv n r5.2.1 c0 c0x2 c0x3 c0x4 c0x5 c0x6 c0x7 c0x8 c0x9 c0x10 c0x11 c0x12 c1 c1x2 c1x3 c1x4 c1x5 c1x6 c1x7 c1x8 c1x9 c1x10 c1x11 (c1x12 ++ t6))) (
  k2 kv c0 c0x2 c0x3 c0x4 c0x5 c0x6 c0x7 c0x8 c0x9 c0x10 c0x11 c0x12 c1 c1x2 c1x3 c1x4 c1x5 c1x6 c1x7 c1x8 c1x9 c1x10 c1x11 c1x12)
noncomputable def Zal.l8 (fu : Nat) (Sref11Build : (List S6) → Int → Int → Option ((Tr S6) × Int × Bool × Unit)) (k1 : Int → Bool → Int → Bool → Int → (List S2) → Bool → Bool → Int → (List S2) → Int → Int → Int → (List (Tr S6)) → Option ((Tr S6) × Int × Bool × Unit)) (k2 : Int → Int → Bool → Int → (List S2) → Bool → Bool → Int → (List S2) → Int → Int → Int → (List (Tr S6)) → Int → Bool → Int → (List S2) → Bool → Bool → Int → (List S2) → Int → Int → Int → (List (Tr S6)) → Option ((Tr S6) × Int × Bool × Unit)) : Nat → (List S6) → Int → Int → Int → Int → Bool → Int → (List S2) → Bool → Bool → Int → (List S2) → Int → Int → Int → (List (Tr S6)) → Int → Bool → Int → (List S2) → Bool → Bool → Int → (List S2) → Int → Int → Int → (List (Tr S6)) → Option ((Tr S6) × Int × Bool × Unit)
 | 0, _, _, _, _, _, _, _, _, _, _, _, _, _, _, _, _, _, _, _, _, _, _, _, _, _, _, _, _ => none
 | m + 1, l, atv, n, kv, c0, c0x2, c0x3, c0x4, c0x5, c0x6, c0x7, c0x8, c0x9, c0x10, c0x11, c0x12, c1, c1x2, c1x3, c1x4, c1x5, c1x6, c1x7, c1x8, c1x9, c1x10, c1x11, c1x12 => Zal.b8 fu Sref11Build (Zal.l8 fu Sref11Build k1 k2 m) k1 k2 l atv n kv c0 c0x2 c0x3 c0x4 c0x5 c0x6 c0x7 c0x8 c0x9 c0x10 c0x11 c0x12 c1 c1x2 c1x3 c1x4 c1x5 c1x6 c1x7 c1x8 c1x9 c1x10 c1x11 c1x12
noncomputable def Zal.bd (fu : Nat) (Sref11Build : (List S6) → Int → Int → Option ((Tr S6) × Int × Bool × Unit)) (l : List S6) (atv : Int) (endv : Int) : Option ((Tr S6) × Int × Bool × Unit) :=
 cond (decide (atv ≥ endv)) (
  some (Tr.mk ((0 : Int), (false, (0 : Int), [], ()), false, (false, (0 : Int), [], ()), (0 : Int), (0 : Int), (0 : Int), ()) [], (0 : Int), false, ())) (
  chk (ixOk l atv) <|
  let e1 := ixL ((0 : Int), (false, (0 : Int), [], ()), false, (false, (0 : Int), [], ()), (0 : Int), (0 : Int), (0 : Int), ()) l atv
  chk (ixOk l atv) <|
  let e2 := ixL ((0 : Int), (false, (0 : Int), [], ()), false, (false, (0 : Int), [], ()), (0 : Int), (0 : Int), (0 : Int), ()) l atv
  let t3 := decide (e2.2.2.2.2.2.2.1 < (0 : Int))
  cond t3 (
   some (Tr.mk ((0 : Int), (false, (0 : Int), [], ()), false, (false, (0 : Int), [], ()), (0 : Int), (0 : Int), (0 : Int), ()) [], (0 : Int), false, ())) (
   let t4 := IntKind.i64.wrap (endv - atv)
   let t5 := IntKind.i64.wrap (t4 - (1 : Int))
   let t6 := decide (e2.2.2.2.2.2.2.1 > t5)
   cond t6 (
    some (Tr.mk ((0 : Int), (false, (0 : Int), [], ()), false, (false, (0 : Int), [], ()), (0 : Int), (0 : Int), (0 : Int), ()) [], (0 : Int), false, ())) (
    let t7 := IntKind.i64.wrap (atv + (1 : Int))
    Zal.l8 fu Sref11Build (fun vq3 vq3x2 c0q3 c0q3x2 c0q3x3 c0q3x4 c0q3x5 c0q3x6 c0q3x7 c0q3x8 c0q3x9 c0q3x10 c0q3x11 c0q3x12 =>
      some (Tr.mk (c0q3, (c0q3x2, c0q3x3, c0q3x4, ()), c0q3x5, (c0q3x6, c0q3x7, c0q3x8, ()), c0q3x9, c0q3x10, c0q3x11, ()) c0q3x12, vq3, vq3x2, ())) (fun kvq4 c0q4 c0q4x2 c0q4x3 c0q4x4 c0q4x5 c0q4x6 c0q4x7 c0q4x8 c0q4x9 c0q4x10 c0q4x11 c0q4x12 c1q4 c1q4x2 c1q4x3 c1q4x4 c1q4x5 c1q4x6 c1q4x7 c1q4x8 c1q4x9 c1q4x10 c1q4x11 c1q4x12 =>
      some (Tr.mk (c1q4, (c1q4x2, c1q4x3, c1q4x4, ()), c1q4x5, (c1q4x6, c1q4x7, c1q4x8, ()), c1q4x9, c1q4x10, c1q4x11, ()) c1q4x12, kvq4, true, ())) fu l atv e2.2.2.2.2.2.2.1 t7 (0 : Int) false (0 : Int) [] false false (0 : Int) [] (0 : Int) (0 : Int) (0 : Int) [] e1.1 e1.2.1.1 e1.2.1.2.1 e1.2.1.2.2.1 e1.2.2.1 e1.2.2.2.1.1 e1.2.2.2.1.2.1 e1.2.2.2.1.2.2.1 e1.2.2.2.2.1 e1.2.2.2.2.2.1 e1.2.2.2.2.2.2.1 [])))
noncomputable def Zal (fu : Nat) (m : Nat) : (List S6) → Int → Int → Option ((Tr S6) × Int × Bool × Unit) :=
 Nat.rec (fun _ _ _ => none) (fun _ Sref11Build => Zal.bd fu Sref11Build) m
noncomputable def Zal.conM (m : Nat) : Con := { ps := [(.slice kS6), (.int .i64), (.int .i64)], rs := [(.tre kS6), (.int .i64), .bool], f := fun n x => Zal n m x.1 x.2.1 x.2.2.1 }
noncomputable def Zal.con : Con := { ps := [(.slice kS6), (.int .i64), (.int .i64)], rs := [(.tre kS6), (.int .i64), .bool], f := fun n x => Zal n n x.1 x.2.1 x.2.2.1 }
noncomputable def Zal.body : Code := Try.f76.body.getD .skip
abbrev Zal.shl8 : Shp := ⟨.d (.slice kS6) :: .d (.int .i64) :: us 4 (.p 0 0 :: .u :: .u :: .p 1 0 :: .d (.int .i64) :: .d (.int .i64) :: us 59 []), [.c [.d (.int .u8), .d .bool, .d (.int .u8), .o 1003 kS2, .d .bool, .d .bool, .d (.int .u8), .o 1007 kS2, .d (.int .u8), .d (.int .u8), .d (.int .i64), .o 1011 (.tre kS6)], .c [.d (.int .u8), .d .bool, .d (.int .u8), .d (.slice kS2), .d .bool, .d .bool, .d (.int .u8), .d (.slice kS2), .d (.int .u8), .d (.int .u8), .d (.int .i64), .o 1061 (.tre kS6)]]⟩
abbrev Zal.outl8e1 : Shp := ⟨us 6 (.p 0 0 :: .d (.int .i64) :: .d .bool :: us 62 []), [.c [.d (.int .u8), .d .bool, .d (.int .u8), .o 1003 kS2, .d .bool, .d .bool, .d (.int .u8), .o 1007 kS2, .d (.int .u8), .d (.int .u8), .d (.int .i64), .o 1011 (.tre kS6)]]⟩
abbrev Zal.outl8e2 : Shp := ⟨us 6 (.p 0 0 :: .u :: .u :: .p 1 0 :: .u :: .d (.int .i64) :: us 59 []), [.c [.d (.int .u8), .d .bool, .d (.int .u8), .o 1003 kS2, .d .bool, .d .bool, .d (.int .u8), .o 1007 kS2, .d (.int .u8), .d (.int .u8), .d (.int .i64), .o 1011 (.tre kS6)], .c [.d (.int .u8), .d .bool, .d (.int .u8), .d (.slice kS2), .d .bool, .d .bool, .d (.int .u8), .d (.slice kS2), .d (.int .u8), .d (.int .u8), .d (.int .i64), .o 1061 (.tre kS6)]]⟩
noncomputable def Zal.nml8 : Norm := ⟨Zal.shl8.cut [], [(1, Zal.outl8e1.cut []), (2, Zal.outl8e2.cut [])]⟩
abbrev Zal.R (mref11Build : Nat) : Type := (Kd.struct (Zal.conM (Nat.succ mref11Build)).rs).T
noncomputable def Zal.env (mref11Build : Nat) : Env := { tys := [(80, ⟨(.tre kS6), 120⟩), (3, ⟨(.int .i64), 8⟩), (4, ⟨.bool, 1⟩), (77, ⟨kS6, 96⟩), (78, ⟨(.slice (.tre kS6)), 24⟩)], elems := [(66, 77), (78, 80)], ptrs := [], cons := [(76, (Zal.conM mref11Build))], objs := [], loops := [(8, Zal.nml8)], cuts := [], globs := globs, base := 0 }
noncomputable def Zal.cl8 (mref11Build : Nat) (n : Nat) (K : Ex → St → Option (Zal.R mref11Build)) (m : Nat) (v : Zal.shl8.T) : Option (Zal.R mref11Build) := Zal.l8 n (Zal n mref11Build) (fun w0 w1 w2 w3 w4 w5 w6 w7 w8 w9 w10 w11 w12 w13 => K .ret (Zal.outl8e1.enc (w0, w1, w2, w3, w4, w5, w6, w7, w8, w9, w10, w11, w12, w13, ()))) (fun w0 w1 w2 w3 w4 w5 w6 w7 w8 w9 w10 w11 w12 w13 w14 w15 w16 w17 w18 w19 w20 w21 w22 w23 w24 => K (.exit 0) (Zal.outl8e2.enc (w0, w1, w2, w3, w4, w5, w6, w7, w8, w9, w10, w11, w12, w13, w14, w15, w16, w17, w18, w19, w20, w21, w22, w23, w24, ()))) m v.1 v.2.1 v.2.2.1 v.2.2.2.1 v.2.2.2.2.1 v.2.2.2.2.2.1 v.2.2.2.2.2.2.1 v.2.2.2.2.2.2.2.1 v.2.2.2.2.2.2.2.2.1 v.2.2.2.2.2.2.2.2.2.1 v.2.2.2.2.2.2.2.2.2.2.1 v.2.2.2.2.2.2.2.2.2.2.2.1 v.2.2.2.2.2.2.2.2.2.2.2.2.1 v.2.2.2.2.2.2.2.2.2.2.2.2.2.1 v.2.2.2.2.2.2.2.2.2.2.2.2.2.2.1 v.2.2.2.2.2.2.2.2.2.2.2.2.2.2.2.1 v.2.2.2.2.2.2.2.2.2.2.2.2.2.2.2.2.1 v.2.2.2.2.2.2.2.2.2.2.2.2.2.2.2.2.2.1 v.2.2.2.2.2.2.2.2.2.2.2.2.2.2.2.2.2.2.1 v.2.2.2.2.2.2.2.2.2.2.2.2.2.2.2.2.2.2.2.1 v.2.2.2.2.2.2.2.2.2.2.2.2.2.2.2.2.2.2.2.2.1 v.2.2.2.2.2.2.2.2.2.2.2.2.2.2.2.2.2.2.2.2.2.1 v.2.2.2.2.2.2.2.2.2.2.2.2.2.2.2.2.2.2.2.2.2.2.1 v.2.2.2.2.2.2.2.2.2.2.2.2.2.2.2.2.2.2.2.2.2.2.2.1 v.2.2.2.2.2.2.2.2.2.2.2.2.2.2.2.2.2.2.2.2.2.2.2.2.1 v.2.2.2.2.2.2.2.2.2.2.2.2.2.2.2.2.2.2.2.2.2.2.2.2.2.1 v.2.2.2.2.2.2.2.2.2.2.2.2.2.2.2.2.2.2.2.2.2.2.2.2.2.2.1 v.2.2.2.2.2.2.2.2.2.2.2.2.2.2.2.2.2.2.2.2.2.2.2.2.2.2.2.1
noncomputable def Zal.lp (mref11Build : Nat) (n : Nat) : LP (Zal.R mref11Build) := fun lo κ body nm K s =>
 cond (lo && Nat.beq κ 8) (pc Zal.shl8 (Zal.cl8 mref11Build n K n) (loops n (Zal.R mref11Build) lo κ body nm K) s) <|
  loops n (Zal.R mref11Build) lo κ body nm K s
noncomputable def Zal.tl8 (mref11Build : Nat) (n : Nat) := evK (β := (Zal.R mref11Build)) (Zal.env mref11Build) (Zal.lp mref11Build n) n (sub [1, 1, 1, 1, 1, 1, 0, 0, 0] Zal.body)
theorem Zal.atl8 (mref11Build : Nat) (n : Nat) : At n (Zal.lp mref11Build n) true 8 (Zal.tl8 mref11Build n) Zal.nml8 := fun s K =>
 ZbR (sh := Zal.shl8) (F := (Zal.cl8 mref11Build n K n)) (B := loops n _ true 8 (Zal.tl8 mref11Build n) Zal.nml8 K) (fun v => (Zbc (sh := Zal.shl8) (body := (Zal.tl8 mref11Build n)) (nm := Zal.nml8) (b := fun nx v => Zal.b8 n (Zal n mref11Build) (fun x0 x1 x2 x3 x4 x5 x6 x7 x8 x9 x10 x11 x12 x13 x14 x15 x16 x17 x18 x19 x20 x21 x22 x23 x24 x25 x26 x27 => nx (x0, x1, x2, x3, x4, x5, x6, x7, x8, x9, x10, x11, x12, x13, x14, x15, x16, x17, x18, x19, x20, x21, x22, x23, x24, x25, x26, x27, ())) (fun w0 w1 w2 w3 w4 w5 w6 w7 w8 w9 w10 w11 w12 w13 => K .ret (Zal.outl8e1.enc (w0, w1, w2, w3, w4, w5, w6, w7, w8, w9, w10, w11, w12, w13, ()))) (fun w0 w1 w2 w3 w4 w5 w6 w7 w8 w9 w10 w11 w12 w13 w14 w15 w16 w17 w18 w19 w20 w21 w22 w23 w24 => K (.exit 0) (Zal.outl8e2.enc (w0, w1, w2, w3, w4, w5, w6, w7, w8, w9, w10, w11, w12, w13, w14, w15, w16, w17, w18, w19, w20, w21, w22, w23, w24, ()))) v.1 v.2.1 v.2.2.1 v.2.2.2.1 v.2.2.2.2.1 v.2.2.2.2.2.1 v.2.2.2.2.2.2.1 v.2.2.2.2.2.2.2.1 v.2.2.2.2.2.2.2.2.1 v.2.2.2.2.2.2.2.2.2.1 v.2.2.2.2.2.2.2.2.2.2.1 v.2.2.2.2.2.2.2.2.2.2.2.1 v.2.2.2.2.2.2.2.2.2.2.2.2.1 v.2.2.2.2.2.2.2.2.2.2.2.2.2.1 v.2.2.2.2.2.2.2.2.2.2.2.2.2.2.1 v.2.2.2.2.2.2.2.2.2.2.2.2.2.2.2.1 v.2.2.2.2.2.2.2.2.2.2.2.2.2.2.2.2.1 v.2.2.2.2.2.2.2.2.2.2.2.2.2.2.2.2.2.1 v.2.2.2.2.2.2.2.2.2.2.2.2.2.2.2.2.2.2.1 v.2.2.2.2.2.2.2.2.2.2.2.2.2.2.2.2.2.2.2.1 v.2.2.2.2.2.2.2.2.2.2.2.2.2.2.2.2.2.2.2.2.1 v.2.2.2.2.2.2.2.2.2.2.2.2.2.2.2.2.2.2.2.2.2.1 v.2.2.2.2.2.2.2.2.2.2.2.2.2.2.2.2.2.2.2.2.2.2.1 v.2.2.2.2.2.2.2.2.2.2.2.2.2.2.2.2.2.2.2.2.2.2.2.1 v.2.2.2.2.2.2.2.2.2.2.2.2.2.2.2.2.2.2.2.2.2.2.2.2.1 v.2.2.2.2.2.2.2.2.2.2.2.2.2.2.2.2.2.2.2.2.2.2.2.2.2.1 v.2.2.2.2.2.2.2.2.2.2.2.2.2.2.2.2.2.2.2.2.2.2.2.2.2.2.1 v.2.2.2.2.2.2.2.2.2.2.2.2.2.2.2.2.2.2.2.2.2.2.2.2.2.2.2.1) (l := (Zal.cl8 mref11Build n K)) (fun _ => rfl) (fun _ _ => rfl) (fun m v => by kernel_rfl) n v).symm) s
theorem Zal.step (mref11Build : Nat) (ihref11Build : Zbi Try.prog globs 76 (Zal.conM mref11Build)) : Zbi Try.prog globs 76 (Zal.conM (Nat.succ mref11Build)) :=
 ZaS (E := (Zal.env mref11Build)) (c := Zal.body) (Zbk (G := globs) (lc := [(76, (Zal.conM mref11Build))]) (lo := []) (ZaA (by kernel_rfl)) rfl rfl ⟨.inl ⟨ihref11Build, by kernel_rfl⟩, trivial⟩ rfl trivial (by kernel_rfl) (by kernel_rfl)) Try.func76 (by kernel_rfl) (Zal.lp mref11Build) (l := [(true, sub [1, 1, 1, 1, 1, 1, 0, 0, 0] Zal.body, Zal.nml8)]) (by kernel_rfl) (fun n => ⟨Zal.atl8 mref11Build n, trivial⟩) (fun n x => by kernel_rfl)
theorem Zal.soundM (m : Nat) : Zbi Try.prog globs 76 (Zal.conM m) := by
 induction m with
 | zero => intro n x r h; cases (show none = some r from h)
 | succ m ih => exact Zal.step m ih
theorem Zal.sound : Zbi Try.prog globs 76 Zal.con :=
 Zdx (ps := [(.slice kS6), (.int .i64), (.int .i64)]) (rs := [(.tre kS6), (.int .i64), .bool]) (F := fun n m x => Zal n m x.1 x.2.1 x.2.2.1) (Zal.soundM)
noncomputable def Zbq (fu : Nat) (l : List S6) : Option ((Tr S6) × Bool × Unit) :=
 (Zal fu fu l (0 : Int) (l.length : Int)).bind fun r1 =>
 cond r1.2.2.1 (
  let t2 := r1.2.1 == (l.length : Int)
  some (Tr.mk r1.1.val r1.1.sub, t2, ())) (
  some (Tr.mk r1.1.val r1.1.sub, false, ()))
noncomputable def Zbq.body : Code := Try.f36.body.getD .skip
noncomputable def Zbq.con : Con := { ps := [(.slice kS6)], rs := [(.tre kS6), .bool], f := fun n x => Zbq n x.1 }
abbrev Zbq.R : Type := (Kd.struct Zbq.con.rs).T
noncomputable def Zbq.env : Env := { tys := [(80, ⟨(.tre kS6), 120⟩), (4, ⟨.bool, 1⟩), (77, ⟨kS6, 96⟩)], elems := [(66, 77)], ptrs := [], cons := [(76, Zal.con)], objs := [], loops := [], cuts := [], globs := globs, base := 0 }
noncomputable def Zbq.lp (n : Nat) : LP Zbq.R := fun lo κ body nm K s =>
 loops n Zbq.R lo κ body nm K s
theorem Zbq.sound : Zbi Try.prog globs 36 Zbq.con :=
 ZaS (E := Zbq.env) (c := Zbq.body) (Zbk (G := globs) (lc := [(76, Zal.con)]) (lo := []) (ZaA (by kernel_rfl)) rfl rfl ⟨.inl ⟨Zal.sound, by kernel_rfl⟩, trivial⟩ rfl trivial (by kernel_rfl) (by kernel_rfl)) Try.func36 (by kernel_rfl) Zbq.lp (l := []) (by kernel_rfl) (fun n => trivial) (fun n x => by kernel_rfl)
noncomputable def ZbA (fu : Nat) (p : S3) : Option (Bool × Unit) :=
 cond (!p.1) (
  cond (p.2.1 == (0 : Int)) (
   let t1 := (p.2.2.1.length : Int) == (0 : Int)
   some (t1, ())) (
   some (false, ()))) (
  some (false, ()))
noncomputable def ZbA.body : Code := Try.f111.body.getD .skip
noncomputable def ZbA.con : Con := { ps := [kS3], rs := [.bool], f := fun n x => ZbA n x.1 }
abbrev ZbA.R : Type := (Kd.struct ZbA.con.rs).T
noncomputable def ZbA.env : Env := { tys := [(75, ⟨kS3, 32⟩), (4, ⟨.bool, 1⟩), (5, ⟨(.int .u8), 1⟩), (73, ⟨(.slice kS2), 24⟩), (88, ⟨kS2, 48⟩)], elems := [(73, 88)], ptrs := [], cons := [], objs := [], loops := [], cuts := [], globs := globs, base := 0 }
noncomputable def ZbA.lp (n : Nat) : LP ZbA.R := fun lo κ body nm K s =>
 loops n ZbA.R lo κ body nm K s
theorem ZbA.sound : Zbi Try.prog globs 111 ZbA.con :=
 ZaS (E := ZbA.env) (c := ZbA.body) (Zbk (G := globs) (lc := []) (lo := []) (ZaA (by kernel_rfl)) rfl rfl trivial rfl trivial (by kernel_rfl) (by kernel_rfl)) Try.func111 (by kernel_rfl) ZbA.lp (l := []) (by kernel_rfl) (fun n => trivial) (fun n x => by kernel_rfl)
noncomputable def Zab.b16 (fu : Nat) (Sref11TFormed : (Tr S6) → Option (Bool × Unit)) (next : Bool → Int → Int → Int → Bool → Int → (List S2) → Bool → Bool → Int → (List S2) → Int → Int → Int → (List (Tr S6)) → Option (Bool × Unit)) (k3 : Bool → Option (Bool × Unit)) (ok : Bool) (v : Int) (vx2 : Int) (c0 : Int) (c0x2 : Bool) (c0x3 : Int) (c0x4 : List S2) (c0x5 : Bool) (c0x6 : Bool) (c0x7 : Int) (c0x8 : List S2) (c0x9 : Int) (c0x10 : Int) (c0x11 : Int) (c0x12 : List (Tr S6)) : Option (Bool × Unit) :=
 cond (decide (vx2 < v)) (
  cond ok (
   chk (ixOk c0x12 vx2) <|
   let e1 := ixL (Tr.mk ((0 : Int), (false, (0 : Int), [], ()), false, (false, (0 : Int), [], ()), (0 : Int), (0 : Int), (0 : Int), ()) []) c0x12 vx2
   (Sref11TFormed e1).bind fun r2 =>
   let t3 := IntKind.i64.wrap (vx2 + (1 : Int))
   next r2.1 v t3 c0 c0x2 c0x3 c0x4 c0x5 c0x6 c0x7 c0x8 c0x9 c0x10 c0x11 c0x12) (
   let t4 := IntKind.i64.wrap (vx2 + (1 : Int))
   next false v t4 c0 c0x2 c0x3 c0x4 c0x5 c0x6 c0x7 c0x8 c0x9 c0x10 c0x11 c0x12)) (
  k3 ok)
noncomputable def Zab.l16 (fu : Nat) (Sref11TFormed : (Tr S6) → Option (Bool × Unit)) (k3 : Bool → Option (Bool × Unit)) : Nat → Bool → Int → Int → Int → Bool → Int → (List S2) → Bool → Bool → Int → (List S2) → Int → Int → Int → (List (Tr S6)) → Option (Bool × Unit)
 | 0, _, _, _, _, _, _, _, _, _, _, _, _, _, _, _ => none
 | m + 1, ok, v, vx2, c0, c0x2, c0x3, c0x4, c0x5, c0x6, c0x7, c0x8, c0x9, c0x10, c0x11, c0x12 => Zab.b16 fu Sref11TFormed (Zab.l16 fu Sref11TFormed k3 m) k3 ok v vx2 c0 c0x2 c0x3 c0x4 c0x5 c0x6 c0x7 c0x8 c0x9 c0x10 c0x11 c0x12
noncomputable def Zab.j15 (fu : Nat) (Sref11TFormed : (Tr S6) → Option (Bool × Unit)) (k1 : Bool → Option (Bool × Unit)) (ok : Bool) (c0 : Int) (c0x2 : Bool) (c0x3 : Int) (c0x4 : List S2) (c0x5 : Bool) (c0x6 : Bool) (c0x7 : Int) (c0x8 : List S2) (c0x9 : Int) (c0x10 : Int) (c0x11 : Int) (c0x12 : List (Tr S6)) : Option (Bool × Unit) :=
 Zab.l16 fu Sref11TFormed (fun okq21 =>
   k1 okq21) fu ok (c0x12.length : Int) (0 : Int) c0 c0x2 c0x3 c0x4 c0x5 c0x6 c0x7 c0x8 c0x9 c0x10 c0x11 c0x12
noncomputable def Zab.j13 (fu : Nat) (Sref11TFormed : (Tr S6) → Option (Bool × Unit)) (k1 : Bool → Option (Bool × Unit)) (ok : Bool) (c0 : Int) (c0x2 : Bool) (c0x3 : Int) (c0x4 : List S2) (c0x5 : Bool) (c0x6 : Bool) (c0x7 : Int) (c0x8 : List S2) (c0x9 : Int) (c0x10 : Int) (c0x11 : Int) (c0x12 : List (Tr S6)) (b1 : S6) : Option (Bool × Unit) :=
 cond (!b1.2.2.1) (
  (ZbA fu b1.2.2.2.1).bind fun r1 =>
  cond (!r1.1) (
   Zab.j15 fu Sref11TFormed (fun vq22 =>
     k1 vq22) false c0 c0x2 c0x3 c0x4 c0x5 c0x6 c0x7 c0x8 c0x9 c0x10 c0x11 c0x12) (
   Zab.j15 fu Sref11TFormed (fun vq23 =>
     k1 vq23) ok c0 c0x2 c0x3 c0x4 c0x5 c0x6 c0x7 c0x8 c0x9 c0x10 c0x11 c0x12)) (
  Zab.j15 fu Sref11TFormed (fun vq24 =>
    k1 vq24) ok c0 c0x2 c0x3 c0x4 c0x5 c0x6 c0x7 c0x8 c0x9 c0x10 c0x11 c0x12)
noncomputable def Zab.bd (fu : Nat) (Sref11TFormed : (Tr S6) → Option (Bool × Unit)) (tv : Tr S6) : Option (Bool × Unit) :=
 cond (tv.val.1 == (1 : Int)) (
  let t1 := (tv.sub.length : Int) == (0 : Int)
  cond t1 (
   let t2 := tv.val.2.2.2.2.1 == (0 : Int)
   cond t2 (
    let t3 := tv.val.2.2.2.2.2.1 == (0 : Int)
    cond t3 (
     Zab.j13 fu Sref11TFormed (fun vq1 =>
       some (vq1, ())) (!tv.val.2.2.1) tv.val.1 tv.val.2.1.1 tv.val.2.1.2.1 tv.val.2.1.2.2.1 tv.val.2.2.1 tv.val.2.2.2.1.1 tv.val.2.2.2.1.2.1 tv.val.2.2.2.1.2.2.1 tv.val.2.2.2.2.1 tv.val.2.2.2.2.2.1 tv.val.2.2.2.2.2.2.1 tv.sub tv.val) (
     Zab.j13 fu Sref11TFormed (fun vq2 =>
       some (vq2, ())) false tv.val.1 tv.val.2.1.1 tv.val.2.1.2.1 tv.val.2.1.2.2.1 tv.val.2.2.1 tv.val.2.2.2.1.1 tv.val.2.2.2.1.2.1 tv.val.2.2.2.1.2.2.1 tv.val.2.2.2.2.1 tv.val.2.2.2.2.2.1 tv.val.2.2.2.2.2.2.1 tv.sub tv.val)) (
    Zab.j13 fu Sref11TFormed (fun vq3 =>
      some (vq3, ())) false tv.val.1 tv.val.2.1.1 tv.val.2.1.2.1 tv.val.2.1.2.2.1 tv.val.2.2.1 tv.val.2.2.2.1.1 tv.val.2.2.2.1.2.1 tv.val.2.2.2.1.2.2.1 tv.val.2.2.2.2.1 tv.val.2.2.2.2.2.1 tv.val.2.2.2.2.2.2.1 tv.sub tv.val)) (
   Zab.j13 fu Sref11TFormed (fun vq4 =>
     some (vq4, ())) false tv.val.1 tv.val.2.1.1 tv.val.2.1.2.1 tv.val.2.1.2.2.1 tv.val.2.2.1 tv.val.2.2.2.1.1 tv.val.2.2.2.1.2.1 tv.val.2.2.2.1.2.2.1 tv.val.2.2.2.2.1 tv.val.2.2.2.2.2.1 tv.val.2.2.2.2.2.2.1 tv.sub tv.val)) (
  cond (tv.val.1 == (2 : Int)) (
   let t4 := decide ((tv.sub.length : Int) > (1 : Int))
   cond t4 (
    let t5 := tv.val.2.2.2.2.1 == (0 : Int)
    cond t5 (
     let t6 := tv.val.2.2.2.2.2.1 == (0 : Int)
     cond t6 (
      (ZbA fu tv.val.2.1).bind fun r7 =>
      Zab.j13 fu Sref11TFormed (fun vq5 =>
        some (vq5, ())) r7.1 tv.val.1 tv.val.2.1.1 tv.val.2.1.2.1 tv.val.2.1.2.2.1 tv.val.2.2.1 tv.val.2.2.2.1.1 tv.val.2.2.2.1.2.1 tv.val.2.2.2.1.2.2.1 tv.val.2.2.2.2.1 tv.val.2.2.2.2.2.1 tv.val.2.2.2.2.2.2.1 tv.sub tv.val) (
      Zab.j13 fu Sref11TFormed (fun vq6 =>
        some (vq6, ())) false tv.val.1 tv.val.2.1.1 tv.val.2.1.2.1 tv.val.2.1.2.2.1 tv.val.2.2.1 tv.val.2.2.2.1.1 tv.val.2.2.2.1.2.1 tv.val.2.2.2.1.2.2.1 tv.val.2.2.2.2.1 tv.val.2.2.2.2.2.1 tv.val.2.2.2.2.2.2.1 tv.sub tv.val)) (
     Zab.j13 fu Sref11TFormed (fun vq7 =>
       some (vq7, ())) false tv.val.1 tv.val.2.1.1 tv.val.2.1.2.1 tv.val.2.1.2.2.1 tv.val.2.2.1 tv.val.2.2.2.1.1 tv.val.2.2.2.1.2.1 tv.val.2.2.2.1.2.2.1 tv.val.2.2.2.2.1 tv.val.2.2.2.2.2.1 tv.val.2.2.2.2.2.2.1 tv.sub tv.val)) (
    Zab.j13 fu Sref11TFormed (fun vq8 =>
      some (vq8, ())) false tv.val.1 tv.val.2.1.1 tv.val.2.1.2.1 tv.val.2.1.2.2.1 tv.val.2.2.1 tv.val.2.2.2.1.1 tv.val.2.2.2.1.2.1 tv.val.2.2.2.1.2.2.1 tv.val.2.2.2.2.1 tv.val.2.2.2.2.2.1 tv.val.2.2.2.2.2.2.1 tv.sub tv.val)) (
   cond (tv.val.1 == (3 : Int)) (
    let t8 := decide ((tv.sub.length : Int) > (1 : Int))
    cond t8 (
     let t9 := tv.val.2.2.2.2.1 == (0 : Int)
     cond t9 (
      let t10 := tv.val.2.2.2.2.2.1 == (0 : Int)
      cond t10 (
       (ZbA fu tv.val.2.1).bind fun r11 =>
       cond r11.1 (
        Zab.j13 fu Sref11TFormed (fun vq9 =>
          some (vq9, ())) (!tv.val.2.2.1) tv.val.1 tv.val.2.1.1 tv.val.2.1.2.1 tv.val.2.1.2.2.1 tv.val.2.2.1 tv.val.2.2.2.1.1 tv.val.2.2.2.1.2.1 tv.val.2.2.2.1.2.2.1 tv.val.2.2.2.2.1 tv.val.2.2.2.2.2.1 tv.val.2.2.2.2.2.2.1 tv.sub tv.val) (
        Zab.j13 fu Sref11TFormed (fun vq10 =>
          some (vq10, ())) false tv.val.1 tv.val.2.1.1 tv.val.2.1.2.1 tv.val.2.1.2.2.1 tv.val.2.2.1 tv.val.2.2.2.1.1 tv.val.2.2.2.1.2.1 tv.val.2.2.2.1.2.2.1 tv.val.2.2.2.2.1 tv.val.2.2.2.2.2.1 tv.val.2.2.2.2.2.2.1 tv.sub tv.val)) (
       Zab.j13 fu Sref11TFormed (fun vq11 =>
         some (vq11, ())) false tv.val.1 tv.val.2.1.1 tv.val.2.1.2.1 tv.val.2.1.2.2.1 tv.val.2.2.1 tv.val.2.2.2.1.1 tv.val.2.2.2.1.2.1 tv.val.2.2.2.1.2.2.1 tv.val.2.2.2.2.1 tv.val.2.2.2.2.2.1 tv.val.2.2.2.2.2.2.1 tv.sub tv.val)) (
      Zab.j13 fu Sref11TFormed (fun vq12 =>
        some (vq12, ())) false tv.val.1 tv.val.2.1.1 tv.val.2.1.2.1 tv.val.2.1.2.2.1 tv.val.2.2.1 tv.val.2.2.2.1.1 tv.val.2.2.2.1.2.1 tv.val.2.2.2.1.2.2.1 tv.val.2.2.2.2.1 tv.val.2.2.2.2.2.1 tv.val.2.2.2.2.2.2.1 tv.sub tv.val)) (
     Zab.j13 fu Sref11TFormed (fun vq13 =>
       some (vq13, ())) false tv.val.1 tv.val.2.1.1 tv.val.2.1.2.1 tv.val.2.1.2.2.1 tv.val.2.2.1 tv.val.2.2.2.1.1 tv.val.2.2.2.1.2.1 tv.val.2.2.2.1.2.2.1 tv.val.2.2.2.2.1 tv.val.2.2.2.2.2.1 tv.val.2.2.2.2.2.2.1 tv.sub tv.val)) (
    cond (tv.val.1 == (4 : Int)) (
     let t12 := (tv.sub.length : Int) == (1 : Int)
     cond t12 (
      let t13 := decide (tv.val.2.2.2.2.1 > (0 : Int))
      cond t13 (
       let t14 := decide (tv.val.2.2.2.2.2.1 ≥ tv.val.2.2.2.2.1)
       cond t14 (
        let t15 := decide (tv.val.2.2.2.2.2.1 < (9 : Int))
        cond t15 (
         (ZbA fu tv.val.2.1).bind fun r16 =>
         Zab.j13 fu Sref11TFormed (fun vq14 =>
           some (vq14, ())) r16.1 tv.val.1 tv.val.2.1.1 tv.val.2.1.2.1 tv.val.2.1.2.2.1 tv.val.2.2.1 tv.val.2.2.2.1.1 tv.val.2.2.2.1.2.1 tv.val.2.2.2.1.2.2.1 tv.val.2.2.2.2.1 tv.val.2.2.2.2.2.1 tv.val.2.2.2.2.2.2.1 tv.sub tv.val) (
         Zab.j13 fu Sref11TFormed (fun vq15 =>
           some (vq15, ())) false tv.val.1 tv.val.2.1.1 tv.val.2.1.2.1 tv.val.2.1.2.2.1 tv.val.2.2.1 tv.val.2.2.2.1.1 tv.val.2.2.2.1.2.1 tv.val.2.2.2.1.2.2.1 tv.val.2.2.2.2.1 tv.val.2.2.2.2.2.1 tv.val.2.2.2.2.2.2.1 tv.sub tv.val)) (
        Zab.j13 fu Sref11TFormed (fun vq16 =>
          some (vq16, ())) false tv.val.1 tv.val.2.1.1 tv.val.2.1.2.1 tv.val.2.1.2.2.1 tv.val.2.2.1 tv.val.2.2.2.1.1 tv.val.2.2.2.1.2.1 tv.val.2.2.2.1.2.2.1 tv.val.2.2.2.2.1 tv.val.2.2.2.2.2.1 tv.val.2.2.2.2.2.2.1 tv.sub tv.val)) (
       Zab.j13 fu Sref11TFormed (fun vq17 =>
         some (vq17, ())) false tv.val.1 tv.val.2.1.1 tv.val.2.1.2.1 tv.val.2.1.2.2.1 tv.val.2.2.1 tv.val.2.2.2.1.1 tv.val.2.2.2.1.2.1 tv.val.2.2.2.1.2.2.1 tv.val.2.2.2.2.1 tv.val.2.2.2.2.2.1 tv.val.2.2.2.2.2.2.1 tv.sub tv.val)) (
      Zab.j13 fu Sref11TFormed (fun vq18 =>
        some (vq18, ())) false tv.val.1 tv.val.2.1.1 tv.val.2.1.2.1 tv.val.2.1.2.2.1 tv.val.2.2.1 tv.val.2.2.2.1.1 tv.val.2.2.2.1.2.1 tv.val.2.2.2.1.2.2.1 tv.val.2.2.2.2.1 tv.val.2.2.2.2.2.1 tv.val.2.2.2.2.2.2.1 tv.sub tv.val)) (
     Zab.j13 fu Sref11TFormed (fun vq19 =>
       some (vq19, ())) false tv.val.1 tv.val.2.1.1 tv.val.2.1.2.1 tv.val.2.1.2.2.1 tv.val.2.2.1 tv.val.2.2.2.1.1 tv.val.2.2.2.1.2.1 tv.val.2.2.2.1.2.2.1 tv.val.2.2.2.2.1 tv.val.2.2.2.2.2.1 tv.val.2.2.2.2.2.2.1 tv.sub tv.val))))
noncomputable def Zab (fu : Nat) (m : Nat) : (Tr S6) → Option (Bool × Unit) :=
 Nat.rec (fun _ => none) (fun _ Sref11TFormed => Zab.bd fu Sref11TFormed) m
noncomputable def Zab.conM (m : Nat) : Con := { ps := [(.tre kS6)], rs := [.bool], f := fun n x => Zab n m x.1 }
noncomputable def Zab.con : Con := { ps := [(.tre kS6)], rs := [.bool], f := fun n x => Zab n n x.1 }
noncomputable def Zab.body : Code := Try.f68.body.getD .skip
abbrev Zab.shl16 : Shp := ⟨.u :: .p 0 0 :: us 3 (.d .bool :: us 107 (.d (.int .i64) :: .d (.int .i64) :: us 13 [])), [.c [.d (.int .u8), .d .bool, .d (.int .u8), .d (.slice kS2), .d .bool, .d .bool, .d (.int .u8), .d (.slice kS2), .d (.int .u8), .d (.int .u8), .d (.int .i64), .d (.slice (.tre kS6))]]⟩
abbrev Zab.outl16e3 : Shp := ⟨us 5 (.d .bool :: us 122 []), []⟩
noncomputable def Zab.nml16 : Norm := ⟨Zab.shl16.cut [], [(3, Zab.outl16e3.cut [])]⟩
abbrev Zab.shj15 : Shp := ⟨.u :: .p 0 0 :: us 3 (.d .bool :: us 122 []), [.c [.d (.int .u8), .d .bool, .d (.int .u8), .d (.slice kS2), .d .bool, .d .bool, .d (.int .u8), .d (.slice kS2), .d (.int .u8), .d (.int .u8), .d (.int .i64), .d (.slice (.tre kS6))]]⟩
abbrev Zab.outj15e1 : Shp := ⟨.u :: .u :: .d .bool :: us 125 [], []⟩
noncomputable def Zab.nmj15 : Norm := ⟨Zab.shj15.cut [], [(1, Zab.outj15e1.cut [])]⟩
abbrev Zab.shj13 : Shp := ⟨.u :: .p 0 0 :: .u :: .p 1 0 :: .u :: .d .bool :: us 122 [], [.c [.d (.int .u8), .d .bool, .d (.int .u8), .d (.slice kS2), .d .bool, .d .bool, .d (.int .u8), .d (.slice kS2), .d (.int .u8), .d (.int .u8), .d (.int .i64), .d (.slice (.tre kS6))], .c [.g kS6]]⟩
abbrev Zab.outj13e1 : Shp := ⟨.u :: .u :: .d .bool :: us 125 [], []⟩
noncomputable def Zab.nmj13 : Norm := ⟨Zab.shj13.cut [], [(1, Zab.outj13e1.cut [])]⟩
abbrev Zab.R (mref11TFormed : Nat) : Type := (Kd.struct (Zab.conM (Nat.succ mref11TFormed)).rs).T
noncomputable def Zab.env (mref11TFormed : Nat) : Env := { tys := [(80, ⟨(.tre kS6), 120⟩), (4, ⟨.bool, 1⟩), (77, ⟨kS6, 96⟩), (78, ⟨(.slice (.tre kS6)), 24⟩), (5, ⟨(.int .u8), 1⟩), (75, ⟨kS3, 32⟩), (3, ⟨(.int .i64), 8⟩)], elems := [(78, 80)], ptrs := [], cons := [(111, ZbA.con), (68, (Zab.conM mref11TFormed))], objs := [], loops := [(16, Zab.nml16)], cuts := [(15, Zab.nmj15), (13, Zab.nmj13)], globs := globs, base := 0 }
noncomputable def Zab.cl16 (mref11TFormed : Nat) (n : Nat) (K : Ex → St → Option (Zab.R mref11TFormed)) (m : Nat) (v : Zab.shl16.T) : Option (Zab.R mref11TFormed) := Zab.l16 n (Zab n mref11TFormed) (fun w0 => K (.exit 1) (Zab.outl16e3.enc (w0, ()))) m v.1 v.2.1 v.2.2.1 v.2.2.2.1 v.2.2.2.2.1 v.2.2.2.2.2.1 v.2.2.2.2.2.2.1 v.2.2.2.2.2.2.2.1 v.2.2.2.2.2.2.2.2.1 v.2.2.2.2.2.2.2.2.2.1 v.2.2.2.2.2.2.2.2.2.2.1 v.2.2.2.2.2.2.2.2.2.2.2.1 v.2.2.2.2.2.2.2.2.2.2.2.2.1 v.2.2.2.2.2.2.2.2.2.2.2.2.2.1 v.2.2.2.2.2.2.2.2.2.2.2.2.2.2.1
noncomputable def Zab.cj15 (mref11TFormed : Nat) (n : Nat) (K : Ex → St → Option (Zab.R mref11TFormed)) (v : Zab.shj15.T) : Option (Zab.R mref11TFormed) := Zab.j15 n (Zab n mref11TFormed) (fun w0 => K .ret (Zab.outj15e1.enc (w0, ()))) v.1 v.2.1 v.2.2.1 v.2.2.2.1 v.2.2.2.2.1 v.2.2.2.2.2.1 v.2.2.2.2.2.2.1 v.2.2.2.2.2.2.2.1 v.2.2.2.2.2.2.2.2.1 v.2.2.2.2.2.2.2.2.2.1 v.2.2.2.2.2.2.2.2.2.2.1 v.2.2.2.2.2.2.2.2.2.2.2.1 v.2.2.2.2.2.2.2.2.2.2.2.2.1
noncomputable def Zab.cj13 (mref11TFormed : Nat) (n : Nat) (K : Ex → St → Option (Zab.R mref11TFormed)) (v : Zab.shj13.T) : Option (Zab.R mref11TFormed) := Zab.j13 n (Zab n mref11TFormed) (fun w0 => K .ret (Zab.outj13e1.enc (w0, ()))) v.1 v.2.1 v.2.2.1 v.2.2.2.1 v.2.2.2.2.1 v.2.2.2.2.2.1 v.2.2.2.2.2.2.1 v.2.2.2.2.2.2.2.1 v.2.2.2.2.2.2.2.2.1 v.2.2.2.2.2.2.2.2.2.1 v.2.2.2.2.2.2.2.2.2.2.1 v.2.2.2.2.2.2.2.2.2.2.2.1 v.2.2.2.2.2.2.2.2.2.2.2.2.1 v.2.2.2.2.2.2.2.2.2.2.2.2.2.1
noncomputable def Zab.lp (mref11TFormed : Nat) (n : Nat) : LP (Zab.R mref11TFormed) := fun lo κ body nm K s =>
 cond (lo && Nat.beq κ 16) (pc Zab.shl16 (Zab.cl16 mref11TFormed n K n) (loops n (Zab.R mref11TFormed) lo κ body nm K) s) <|
  cond (!lo && Nat.beq κ 15) (pc Zab.shj15 (Zab.cj15 mref11TFormed n K) (loops n (Zab.R mref11TFormed) lo κ body nm K) s) <|
  cond (!lo && Nat.beq κ 13) (pc Zab.shj13 (Zab.cj13 mref11TFormed n K) (loops n (Zab.R mref11TFormed) lo κ body nm K) s) <|
  loops n (Zab.R mref11TFormed) lo κ body nm K s
noncomputable def Zab.tl16 (mref11TFormed : Nat) (n : Nat) := evK (β := (Zab.R mref11TFormed)) (Zab.env mref11TFormed) (Zab.lp mref11TFormed n) n (sub [1, 1, 1, 1, 1, 1, 0, 1, 0, 0] Zab.body)
theorem Zab.atl16 (mref11TFormed : Nat) (n : Nat) : At n (Zab.lp mref11TFormed n) true 16 (Zab.tl16 mref11TFormed n) Zab.nml16 := fun s K =>
 ZbR (sh := Zab.shl16) (F := (Zab.cl16 mref11TFormed n K n)) (B := loops n _ true 16 (Zab.tl16 mref11TFormed n) Zab.nml16 K) (fun v => (Zbc (sh := Zab.shl16) (body := (Zab.tl16 mref11TFormed n)) (nm := Zab.nml16) (b := fun nx v => Zab.b16 n (Zab n mref11TFormed) (fun x0 x1 x2 x3 x4 x5 x6 x7 x8 x9 x10 x11 x12 x13 x14 => nx (x0, x1, x2, x3, x4, x5, x6, x7, x8, x9, x10, x11, x12, x13, x14, ())) (fun w0 => K (.exit 1) (Zab.outl16e3.enc (w0, ()))) v.1 v.2.1 v.2.2.1 v.2.2.2.1 v.2.2.2.2.1 v.2.2.2.2.2.1 v.2.2.2.2.2.2.1 v.2.2.2.2.2.2.2.1 v.2.2.2.2.2.2.2.2.1 v.2.2.2.2.2.2.2.2.2.1 v.2.2.2.2.2.2.2.2.2.2.1 v.2.2.2.2.2.2.2.2.2.2.2.1 v.2.2.2.2.2.2.2.2.2.2.2.2.1 v.2.2.2.2.2.2.2.2.2.2.2.2.2.1 v.2.2.2.2.2.2.2.2.2.2.2.2.2.2.1) (l := (Zab.cl16 mref11TFormed n K)) (fun _ => rfl) (fun _ _ => rfl) (fun m v => by kernel_rfl) n v).symm) s
noncomputable def Zab.tj15 (mref11TFormed : Nat) (n : Nat) := evK (β := (Zab.R mref11TFormed)) (Zab.env mref11TFormed) (Zab.lp mref11TFormed n) n (sub [1, 1, 1, 1, 1, 1] Zab.body)
theorem Zab.atj15 (mref11TFormed : Nat) (n : Nat) : At n (Zab.lp mref11TFormed n) false 15 (Zab.tj15 mref11TFormed n) Zab.nmj15 := fun s K =>
 ZbR (sh := Zab.shj15) (F := (Zab.cj15 mref11TFormed n K)) (B := loops n _ false 15 (Zab.tj15 mref11TFormed n) Zab.nmj15 K) (fun v => by kernel_rfl) s
noncomputable def Zab.tj13 (mref11TFormed : Nat) (n : Nat) := evK (β := (Zab.R mref11TFormed)) (Zab.env mref11TFormed) (Zab.lp mref11TFormed n) n (sub [1, 1, 1, 1, 1] Zab.body)
theorem Zab.atj13 (mref11TFormed : Nat) (n : Nat) : At n (Zab.lp mref11TFormed n) false 13 (Zab.tj13 mref11TFormed n) Zab.nmj13 := fun s K =>
 ZbR (sh := Zab.shj13) (F := (Zab.cj13 mref11TFormed n K)) (B := loops n _ false 13 (Zab.tj13 mref11TFormed n) Zab.nmj13 K) (fun v => by kernel_rfl) s
theorem Zab.step (mref11TFormed : Nat) (ihref11TFormed : Zbi Try.prog globs 68 (Zab.conM mref11TFormed)) : Zbi Try.prog globs 68 (Zab.conM (Nat.succ mref11TFormed)) :=
 ZaS (E := (Zab.env mref11TFormed)) (c := Zab.body) (Zbk (G := globs) (lc := [(111, ZbA.con), (68, (Zab.conM mref11TFormed))]) (lo := []) (ZaA (by kernel_rfl)) rfl rfl ⟨.inl ⟨ZbA.sound, by kernel_rfl⟩, ⟨.inl ⟨ihref11TFormed, by kernel_rfl⟩, trivial⟩⟩ rfl trivial (by kernel_rfl) (by kernel_rfl)) Try.func68 (by kernel_rfl) (Zab.lp mref11TFormed) (l := [(true, sub [1, 1, 1, 1, 1, 1, 0, 1, 0, 0] Zab.body, Zab.nml16), (false, sub [1, 1, 1, 1, 1, 1] Zab.body, Zab.nmj15), (false, sub [1, 1, 1, 1, 1] Zab.body, Zab.nmj13)]) (by kernel_rfl) (fun n => ⟨Zab.atl16 mref11TFormed n, ⟨Zab.atj15 mref11TFormed n, ⟨Zab.atj13 mref11TFormed n, trivial⟩⟩⟩) (fun n x => by kernel_rfl)
theorem Zab.soundM (m : Nat) : Zbi Try.prog globs 68 (Zab.conM m) := by
 induction m with
 | zero => intro n x r h; cases (show none = some r from h)
 | succ m ih => exact Zab.step m ih
theorem Zab.sound : Zbi Try.prog globs 68 Zab.con :=
 Zdx (ps := [(.tre kS6)]) (rs := [.bool]) (F := fun n m x => Zab n m x.1) (Zab.soundM)
noncomputable def Zam.j4 (fu : Nat) (k1 : Bool → Option (Bool × Unit)) (Zfa : Bool) (point : Bool) (text : Bool) (b0 : S1) : Option (Bool × Unit) :=
 let t1 := decide (b0.1 < (4 : Int))
 cond t1 (
  cond Zfa (
   cond point (
    cond text (
     let t2 := (b0.2.2.2.1.length : Int)
     let t3 := decide (t2 ≤ (255 : Int))
     k1 t3) (
     k1 false)) (
    k1 false)) (
   k1 false)) (
  k1 false)
noncomputable def Zam.j3 (fu : Nat) (k1 : Bool → Option (Bool × Unit)) (Zfa : Bool) (point : Bool) (b0 : S1) : Option (Bool × Unit) :=
 let t1 := b0.2.2.2.1 == ([] : List Int)
 cond t1 (
  Zam.j4 fu (fun vq3 =>
    k1 vq3) Zfa point true b0) (
  Zam.j4 fu (fun vq4 =>
    k1 vq4) Zfa point (b0.1 == (3 : Int)) b0)
noncomputable def Zam.j2 (fu : Nat) (k1 : Bool → Option (Bool × Unit)) (Zfa : Bool) (b0 : S1) : Option (Bool × Unit) :=
 (ZcF.f fu (b0.2.2.1, ())).bind fun r1 =>
 cond (r1.1 == (0 : Int)) (
  Zam.j3 fu (fun vq5 =>
    k1 vq5) Zfa true b0) (
  Zam.j3 fu (fun vq6 =>
    k1 vq6) Zfa (b0.1 == (2 : Int)) b0)
noncomputable def Zam (fu : Nat) (v : S1) : Option (Bool × Unit) :=
 cond (v.2.1 == (0 : Int)) (
  Zam.j2 fu (fun vq1 =>
    some (vq1, ())) true v) (
  Zam.j2 fu (fun vq2 =>
    some (vq2, ())) (v.1 == (1 : Int)) v)
noncomputable def Zam.body : Code := Try.f60.body.getD .skip
abbrev Zam.shj4 : Shp := ⟨.u :: .p 0 0 :: .u :: .d .bool :: .d .bool :: .d .bool :: us 43 [], [.c [.g kS1]]⟩
abbrev Zam.outj4e1 : Shp := ⟨.u :: .u :: .d .bool :: us 46 [], []⟩
noncomputable def Zam.nmj4 : Norm := ⟨Zam.shj4.cut [], [(1, Zam.outj4e1.cut [])]⟩
abbrev Zam.shj3 : Shp := ⟨.u :: .p 0 0 :: .u :: .d .bool :: .d .bool :: us 44 [], [.c [.g kS1]]⟩
abbrev Zam.outj3e1 : Shp := ⟨.u :: .u :: .d .bool :: us 46 [], []⟩
noncomputable def Zam.nmj3 : Norm := ⟨Zam.shj3.cut [], [(1, Zam.outj3e1.cut [])]⟩
abbrev Zam.shj2 : Shp := ⟨.u :: .p 0 0 :: .u :: .d .bool :: us 45 [], [.c [.g kS1]]⟩
abbrev Zam.outj2e1 : Shp := ⟨.u :: .u :: .d .bool :: us 46 [], []⟩
noncomputable def Zam.nmj2 : Norm := ⟨Zam.shj2.cut [], [(1, Zam.outj2e1.cut [])]⟩
noncomputable def Zam.con : Con := { ps := [kS1], rs := [.bool], f := fun n x => Zam n x.1 }
abbrev Zam.R : Type := (Kd.struct Zam.con.rs).T
noncomputable def Zam.env : Env := { tys := [(34, ⟨kS1, 40⟩), (4, ⟨.bool, 1⟩), (2, ⟨(.int .i64), 8⟩), (5, ⟨(.int .u8), 1⟩), (32, ⟨.flt, 8⟩), (9, ⟨.str, 16⟩)], elems := [], ptrs := [], cons := [(92, ZcF)], objs := [], loops := [], cuts := [(4, Zam.nmj4), (3, Zam.nmj3), (2, Zam.nmj2)], globs := globs, base := 0 }
noncomputable def Zam.cj4 (n : Nat) (K : Ex → St → Option Zam.R) (v : Zam.shj4.T) : Option Zam.R := Zam.j4 n (fun w0 => K .ret (Zam.outj4e1.enc (w0, ()))) v.1 v.2.1 v.2.2.1 v.2.2.2.1
noncomputable def Zam.cj3 (n : Nat) (K : Ex → St → Option Zam.R) (v : Zam.shj3.T) : Option Zam.R := Zam.j3 n (fun w0 => K .ret (Zam.outj3e1.enc (w0, ()))) v.1 v.2.1 v.2.2.1
noncomputable def Zam.cj2 (n : Nat) (K : Ex → St → Option Zam.R) (v : Zam.shj2.T) : Option Zam.R := Zam.j2 n (fun w0 => K .ret (Zam.outj2e1.enc (w0, ()))) v.1 v.2.1
noncomputable def Zam.lp (n : Nat) : LP Zam.R := fun lo κ body nm K s =>
 cond (!lo && Nat.beq κ 4) (pc Zam.shj4 (Zam.cj4 n K) (loops n Zam.R lo κ body nm K) s) <|
  cond (!lo && Nat.beq κ 3) (pc Zam.shj3 (Zam.cj3 n K) (loops n Zam.R lo κ body nm K) s) <|
  cond (!lo && Nat.beq κ 2) (pc Zam.shj2 (Zam.cj2 n K) (loops n Zam.R lo κ body nm K) s) <|
  loops n Zam.R lo κ body nm K s
noncomputable def Zam.tj4 (n : Nat) := evK (β := Zam.R) Zam.env (Zam.lp n) n (sub [1, 1, 1, 1] Zam.body)
theorem Zam.atj4 (n : Nat) : At n (Zam.lp n) false 4 (Zam.tj4 n) Zam.nmj4 := fun s K =>
 ZbR (sh := Zam.shj4) (F := (Zam.cj4 n K)) (B := loops n _ false 4 (Zam.tj4 n) Zam.nmj4 K) (fun v => by kernel_rfl) s
noncomputable def Zam.tj3 (n : Nat) := evK (β := Zam.R) Zam.env (Zam.lp n) n (sub [1, 1, 1] Zam.body)
theorem Zam.atj3 (n : Nat) : At n (Zam.lp n) false 3 (Zam.tj3 n) Zam.nmj3 := fun s K =>
 ZbR (sh := Zam.shj3) (F := (Zam.cj3 n K)) (B := loops n _ false 3 (Zam.tj3 n) Zam.nmj3 K) (fun v => by kernel_rfl) s
noncomputable def Zam.tj2 (n : Nat) := evK (β := Zam.R) Zam.env (Zam.lp n) n (sub [1, 1] Zam.body)
theorem Zam.atj2 (n : Nat) : At n (Zam.lp n) false 2 (Zam.tj2 n) Zam.nmj2 := fun s K =>
 ZbR (sh := Zam.shj2) (F := (Zam.cj2 n K)) (B := loops n _ false 2 (Zam.tj2 n) Zam.nmj2 K) (fun v => by kernel_rfl) s
theorem Zam.sound : Zbi Try.prog globs 60 Zam.con :=
 ZaS (E := Zam.env) (c := Zam.body) (Zbk (G := globs) (lc := [(92, ZcF)]) (lo := []) (ZaA (by kernel_rfl)) rfl rfl ⟨.inr (Zfv Try.func92 (by kernel_rfl) (by kernel_rfl) (by kernel_rfl) (by kernel_rfl)), trivial⟩ rfl trivial (by kernel_rfl) (by kernel_rfl)) Try.func60 (by kernel_rfl) Zam.lp (l := [(false, sub [1, 1, 1, 1] Zam.body, Zam.nmj4), (false, sub [1, 1, 1] Zam.body, Zam.nmj3), (false, sub [1, 1] Zam.body, Zam.nmj2)]) (by kernel_rfl) (fun n => ⟨Zam.atj4 n, ⟨Zam.atj3 n, ⟨Zam.atj2 n, trivial⟩⟩⟩) (fun n x => by kernel_rfl)
noncomputable def Zbw (fu : Nat) (tv : S2) : Option (Bool × Unit) :=
 let t1 := decide (tv.2.1 < (1 : Int))
 cond t1 (
  some (false, ())) (
  let t2 := decide (tv.2.1 > (8 : Int))
  cond t2 (
   some (false, ())) (
   (Zam fu tv.2.2.1).bind fun r3 =>
   cond (!r3.1) (
    some (false, ())) (
    cond (tv.2.1 == (7 : Int)) (
     some (tv.2.2.1.1 == (0 : Int), ())) (
     cond (tv.2.1 == (8 : Int)) (
      some (tv.2.2.1.1 == (3 : Int), ())) (
      some (tv.2.2.1.1 != (0 : Int), ()))))))
noncomputable def Zbw.body : Code := Try.f112.body.getD .skip
noncomputable def Zbw.con : Con := { ps := [kS2], rs := [.bool], f := fun n x => Zbw n x.1 }
abbrev Zbw.R : Type := (Kd.struct Zbw.con.rs).T
noncomputable def Zbw.env : Env := { tys := [(88, ⟨kS2, 48⟩), (4, ⟨.bool, 1⟩), (5, ⟨(.int .u8), 1⟩), (34, ⟨kS1, 40⟩)], elems := [], ptrs := [], cons := [(60, Zam.con)], objs := [], loops := [], cuts := [], globs := globs, base := 0 }
noncomputable def Zbw.lp (n : Nat) : LP Zbw.R := fun lo κ body nm K s =>
 loops n Zbw.R lo κ body nm K s
theorem Zbw.sound : Zbi Try.prog globs 112 Zbw.con :=
 ZaS (E := Zbw.env) (c := Zbw.body) (Zbk (G := globs) (lc := [(60, Zam.con)]) (lo := []) (ZaA (by kernel_rfl)) rfl rfl ⟨.inl ⟨Zam.sound, by kernel_rfl⟩, trivial⟩ rfl trivial (by kernel_rfl) (by kernel_rfl)) Try.func112 (by kernel_rfl) Zbw.lp (l := []) (by kernel_rfl) (fun n => trivial) (fun n x => by kernel_rfl)
noncomputable def ZaJ.b2 (fu : Nat) (next : Int → Int → S3 → Option (Bool × Unit)) (k1 : Bool → Option (Bool × Unit)) (k2 : S3 → Option (Bool × Unit)) (v : Int) (vx2 : Int) (b0 : S3) : Option (Bool × Unit) :=
 cond (decide (vx2 < v)) (
  chk (ixOk b0.2.2.1 vx2) <|
  let e1 := ixL ((0 : Int), (0 : Int), ((0 : Int), (0 : Int), (0 : Nat), [], ()), ()) b0.2.2.1 vx2
  (Zbw fu e1).bind fun r2 =>
  cond (!r2.1) (
   k1 false) (
   let t3 := IntKind.i64.wrap (vx2 + (1 : Int))
   next v t3 b0)) (
  k2 b0)
noncomputable def ZaJ.l2 (fu : Nat) (k1 : Bool → Option (Bool × Unit)) (k2 : S3 → Option (Bool × Unit)) : Nat → Int → Int → S3 → Option (Bool × Unit)
 | 0, _, _, _ => none
 | m + 1, v, vx2, b0 => ZaJ.b2 fu (ZaJ.l2 fu k1 k2 m) k1 k2 v vx2 b0
noncomputable def ZaJ (fu : Nat) (p : S3) : Option (Bool × Unit) :=
 ZaJ.l2 fu (fun vq3 =>
   some (vq3, ())) (fun b0q4 =>
   let t1 := (b0q4.2.2.1.length : Int)
   cond (decide (t1 ≤ (4 : Int))) (
    cond b0q4.1 (
     some (!(b0q4.2.1 != (0 : Int)), ())) (
     some (true, ()))) (
    some (false, ()))) fu (p.2.2.1.length : Int) (0 : Int) p
noncomputable def ZaJ.body : Code := Try.f69.body.getD .skip
abbrev ZaJ.shl2 : Shp := ⟨.u :: .p 0 0 :: us 4 (.d (.int .i64) :: .d (.int .i64) :: us 24 []), [.c [.g kS3]]⟩
abbrev ZaJ.outl2e1 : Shp := ⟨.u :: .u :: .d .bool :: us 29 [], []⟩
abbrev ZaJ.outl2e2 : Shp := ⟨.u :: .p 0 0 :: us 30 [], [.c [.g kS3]]⟩
noncomputable def ZaJ.nml2 : Norm := ⟨ZaJ.shl2.cut [], [(1, ZaJ.outl2e1.cut []), (2, ZaJ.outl2e2.cut [])]⟩
noncomputable def ZaJ.con : Con := { ps := [kS3], rs := [.bool], f := fun n x => ZaJ n x.1 }
abbrev ZaJ.R : Type := (Kd.struct ZaJ.con.rs).T
noncomputable def ZaJ.env : Env := { tys := [(75, ⟨kS3, 32⟩), (4, ⟨.bool, 1⟩), (73, ⟨(.slice kS2), 24⟩), (88, ⟨kS2, 48⟩), (3, ⟨(.int .i64), 8⟩), (5, ⟨(.int .u8), 1⟩)], elems := [(73, 88)], ptrs := [], cons := [(112, Zbw.con)], objs := [], loops := [(2, ZaJ.nml2)], cuts := [], globs := globs, base := 0 }
noncomputable def ZaJ.cl2 (n : Nat) (K : Ex → St → Option ZaJ.R) (m : Nat) (v : ZaJ.shl2.T) : Option ZaJ.R := ZaJ.l2 n (fun w0 => K .ret (ZaJ.outl2e1.enc (w0, ()))) (fun w0 => K (.exit 0) (ZaJ.outl2e2.enc (w0, ()))) m v.1 v.2.1 v.2.2.1
noncomputable def ZaJ.lp (n : Nat) : LP ZaJ.R := fun lo κ body nm K s =>
 cond (lo && Nat.beq κ 2) (pc ZaJ.shl2 (ZaJ.cl2 n K n) (loops n ZaJ.R lo κ body nm K) s) <|
  loops n ZaJ.R lo κ body nm K s
noncomputable def ZaJ.tl2 (n : Nat) := evK (β := ZaJ.R) ZaJ.env (ZaJ.lp n) n (sub [1, 0, 1, 0, 0] ZaJ.body)
theorem ZaJ.atl2 (n : Nat) : At n (ZaJ.lp n) true 2 (ZaJ.tl2 n) ZaJ.nml2 := fun s K =>
 ZbR (sh := ZaJ.shl2) (F := (ZaJ.cl2 n K n)) (B := loops n _ true 2 (ZaJ.tl2 n) ZaJ.nml2 K) (fun v => (Zbc (sh := ZaJ.shl2) (body := (ZaJ.tl2 n)) (nm := ZaJ.nml2) (b := fun nx v => ZaJ.b2 n (fun x0 x1 x2 => nx (x0, x1, x2, ())) (fun w0 => K .ret (ZaJ.outl2e1.enc (w0, ()))) (fun w0 => K (.exit 0) (ZaJ.outl2e2.enc (w0, ()))) v.1 v.2.1 v.2.2.1) (l := (ZaJ.cl2 n K)) (fun _ => rfl) (fun _ _ => rfl) (fun m v => by kernel_rfl) n v).symm) s
theorem ZaJ.sound : Zbi Try.prog globs 69 ZaJ.con :=
 ZaS (E := ZaJ.env) (c := ZaJ.body) (Zbk (G := globs) (lc := [(112, Zbw.con)]) (lo := []) (ZaA (by kernel_rfl)) rfl rfl ⟨.inl ⟨Zbw.sound, by kernel_rfl⟩, trivial⟩ rfl trivial (by kernel_rfl) (by kernel_rfl)) Try.func69 (by kernel_rfl) ZaJ.lp (l := [(true, sub [1, 0, 1, 0, 0] ZaJ.body, ZaJ.nml2)]) (by kernel_rfl) (fun n => ⟨ZaJ.atl2 n, trivial⟩) (fun n x => by kernel_rfl)
noncomputable def Zaj.b3 (fu : Nat) (Sref11TDepth : (Tr S6) → Option (Int × Unit)) (next : Int → Int → Int → Int → Bool → Int → (List S2) → Bool → Bool → Int → (List S2) → Int → Int → Int → (List (Tr S6)) → Option (Int × Unit)) (k2 : Int → Option (Int × Unit)) (n : Int) (v : Int) (vx2 : Int) (c0 : Int) (c0x2 : Bool) (c0x3 : Int) (c0x4 : List S2) (c0x5 : Bool) (c0x6 : Bool) (c0x7 : Int) (c0x8 : List S2) (c0x9 : Int) (c0x10 : Int) (c0x11 : Int) (c0x12 : List (Tr S6)) : Option (Int × Unit) :=
 cond (decide (vx2 < v)) (
  chk (ixOk c0x12 vx2) <|
  let e1 := ixL (Tr.mk ((0 : Int), (false, (0 : Int), [], ()), false, (false, (0 : Int), [], ()), (0 : Int), (0 : Int), (0 : Int), ()) []) c0x12 vx2
  (Sref11TDepth e1).bind fun r2 =>
  let t3 := IntKind.i64.wrap ((1 : Int) + r2.1)
  let t4 := IntKind.i64.wrap (vx2 + (1 : Int))
  next (max2 n t3) v t4 c0 c0x2 c0x3 c0x4 c0x5 c0x6 c0x7 c0x8 c0x9 c0x10 c0x11 c0x12) (
  k2 n)
noncomputable def Zaj.l3 (fu : Nat) (Sref11TDepth : (Tr S6) → Option (Int × Unit)) (k2 : Int → Option (Int × Unit)) : Nat → Int → Int → Int → Int → Bool → Int → (List S2) → Bool → Bool → Int → (List S2) → Int → Int → Int → (List (Tr S6)) → Option (Int × Unit)
 | 0, _, _, _, _, _, _, _, _, _, _, _, _, _, _, _ => none
 | m + 1, n, v, vx2, c0, c0x2, c0x3, c0x4, c0x5, c0x6, c0x7, c0x8, c0x9, c0x10, c0x11, c0x12 => Zaj.b3 fu Sref11TDepth (Zaj.l3 fu Sref11TDepth k2 m) k2 n v vx2 c0 c0x2 c0x3 c0x4 c0x5 c0x6 c0x7 c0x8 c0x9 c0x10 c0x11 c0x12
noncomputable def Zaj.bd (fu : Nat) (Sref11TDepth : (Tr S6) → Option (Int × Unit)) (tv : Tr S6) : Option (Int × Unit) :=
 Zaj.l3 fu Sref11TDepth (fun nq2 =>
   some (nq2, ())) fu (0 : Int) (tv.sub.length : Int) (0 : Int) tv.val.1 tv.val.2.1.1 tv.val.2.1.2.1 tv.val.2.1.2.2.1 tv.val.2.2.1 tv.val.2.2.2.1.1 tv.val.2.2.2.1.2.1 tv.val.2.2.2.1.2.2.1 tv.val.2.2.2.2.1 tv.val.2.2.2.2.2.1 tv.val.2.2.2.2.2.2.1 tv.sub
noncomputable def Zaj (fu : Nat) (m : Nat) : (Tr S6) → Option (Int × Unit) :=
 Nat.rec (fun _ => none) (fun _ Sref11TDepth => Zaj.bd fu Sref11TDepth) m
noncomputable def Zaj.conM (m : Nat) : Con := { ps := [(.tre kS6)], rs := [(.int .i64)], f := fun n x => Zaj n m x.1 }
noncomputable def Zaj.con : Con := { ps := [(.tre kS6)], rs := [(.int .i64)], f := fun n x => Zaj n n x.1 }
noncomputable def Zaj.body : Code := Try.f38.body.getD .skip
abbrev Zaj.shl3 : Shp := ⟨.u :: .p 0 0 :: .u :: .d (.int .i64) :: us 3 (.d (.int .i64) :: .d (.int .i64) :: us 13 []), [.c [.d (.int .u8), .d .bool, .d (.int .u8), .d (.slice kS2), .d .bool, .d .bool, .d (.int .u8), .d (.slice kS2), .d (.int .u8), .d (.int .u8), .d (.int .i64), .d (.slice (.tre kS6))]]⟩
abbrev Zaj.outl3e2 : Shp := ⟨us 3 (.d (.int .i64) :: us 18 []), []⟩
noncomputable def Zaj.nml3 : Norm := ⟨Zaj.shl3.cut [], [(2, Zaj.outl3e2.cut [])]⟩
abbrev Zaj.R (mref11TDepth : Nat) : Type := (Kd.struct (Zaj.conM (Nat.succ mref11TDepth)).rs).T
noncomputable def Zaj.env (mref11TDepth : Nat) : Env := { tys := [(80, ⟨(.tre kS6), 120⟩), (3, ⟨(.int .i64), 8⟩), (78, ⟨(.slice (.tre kS6)), 24⟩)], elems := [(78, 80)], ptrs := [], cons := [(38, (Zaj.conM mref11TDepth))], objs := [], loops := [(3, Zaj.nml3)], cuts := [], globs := globs, base := 0 }
noncomputable def Zaj.cl3 (mref11TDepth : Nat) (n : Nat) (K : Ex → St → Option (Zaj.R mref11TDepth)) (m : Nat) (v : Zaj.shl3.T) : Option (Zaj.R mref11TDepth) := Zaj.l3 n (Zaj n mref11TDepth) (fun w0 => K (.exit 0) (Zaj.outl3e2.enc (w0, ()))) m v.1 v.2.1 v.2.2.1 v.2.2.2.1 v.2.2.2.2.1 v.2.2.2.2.2.1 v.2.2.2.2.2.2.1 v.2.2.2.2.2.2.2.1 v.2.2.2.2.2.2.2.2.1 v.2.2.2.2.2.2.2.2.2.1 v.2.2.2.2.2.2.2.2.2.2.1 v.2.2.2.2.2.2.2.2.2.2.2.1 v.2.2.2.2.2.2.2.2.2.2.2.2.1 v.2.2.2.2.2.2.2.2.2.2.2.2.2.1 v.2.2.2.2.2.2.2.2.2.2.2.2.2.2.1
noncomputable def Zaj.lp (mref11TDepth : Nat) (n : Nat) : LP (Zaj.R mref11TDepth) := fun lo κ body nm K s =>
 cond (lo && Nat.beq κ 3) (pc Zaj.shl3 (Zaj.cl3 mref11TDepth n K n) (loops n (Zaj.R mref11TDepth) lo κ body nm K) s) <|
  loops n (Zaj.R mref11TDepth) lo κ body nm K s
noncomputable def Zaj.tl3 (mref11TDepth : Nat) (n : Nat) := evK (β := (Zaj.R mref11TDepth)) (Zaj.env mref11TDepth) (Zaj.lp mref11TDepth n) n (sub [1, 1, 0, 1, 0, 0] Zaj.body)
theorem Zaj.atl3 (mref11TDepth : Nat) (n : Nat) : At n (Zaj.lp mref11TDepth n) true 3 (Zaj.tl3 mref11TDepth n) Zaj.nml3 := fun s K =>
 ZbR (sh := Zaj.shl3) (F := (Zaj.cl3 mref11TDepth n K n)) (B := loops n _ true 3 (Zaj.tl3 mref11TDepth n) Zaj.nml3 K) (fun v => (Zbc (sh := Zaj.shl3) (body := (Zaj.tl3 mref11TDepth n)) (nm := Zaj.nml3) (b := fun nx v => Zaj.b3 n (Zaj n mref11TDepth) (fun x0 x1 x2 x3 x4 x5 x6 x7 x8 x9 x10 x11 x12 x13 x14 => nx (x0, x1, x2, x3, x4, x5, x6, x7, x8, x9, x10, x11, x12, x13, x14, ())) (fun w0 => K (.exit 0) (Zaj.outl3e2.enc (w0, ()))) v.1 v.2.1 v.2.2.1 v.2.2.2.1 v.2.2.2.2.1 v.2.2.2.2.2.1 v.2.2.2.2.2.2.1 v.2.2.2.2.2.2.2.1 v.2.2.2.2.2.2.2.2.1 v.2.2.2.2.2.2.2.2.2.1 v.2.2.2.2.2.2.2.2.2.2.1 v.2.2.2.2.2.2.2.2.2.2.2.1 v.2.2.2.2.2.2.2.2.2.2.2.2.1 v.2.2.2.2.2.2.2.2.2.2.2.2.2.1 v.2.2.2.2.2.2.2.2.2.2.2.2.2.2.1) (l := (Zaj.cl3 mref11TDepth n K)) (fun _ => rfl) (fun _ _ => rfl) (fun m v => by kernel_rfl) n v).symm) s
theorem Zaj.step (mref11TDepth : Nat) (ihref11TDepth : Zbi Try.prog globs 38 (Zaj.conM mref11TDepth)) : Zbi Try.prog globs 38 (Zaj.conM (Nat.succ mref11TDepth)) :=
 ZaS (E := (Zaj.env mref11TDepth)) (c := Zaj.body) (Zbk (G := globs) (lc := [(38, (Zaj.conM mref11TDepth))]) (lo := []) (ZaA (by kernel_rfl)) rfl rfl ⟨.inl ⟨ihref11TDepth, by kernel_rfl⟩, trivial⟩ rfl trivial (by kernel_rfl) (by kernel_rfl)) Try.func38 (by kernel_rfl) (Zaj.lp mref11TDepth) (l := [(true, sub [1, 1, 0, 1, 0, 0] Zaj.body, Zaj.nml3)]) (by kernel_rfl) (fun n => ⟨Zaj.atl3 mref11TDepth n, trivial⟩) (fun n x => by kernel_rfl)
theorem Zaj.soundM (m : Nat) : Zbi Try.prog globs 38 (Zaj.conM m) := by
 induction m with
 | zero => intro n x r h; cases (show none = some r from h)
 | succ m ih => exact Zaj.step m ih
theorem Zaj.sound : Zbi Try.prog globs 38 Zaj.con :=
 Zdx (ps := [(.tre kS6)]) (rs := [(.int .i64)]) (F := fun n m x => Zaj n m x.1) (Zaj.soundM)
noncomputable def Zai.b5 (fu : Nat) (Sref11TPlaces : (Tr S6) → Option (Int × Unit)) (next : Int → Int → Int → Int → Bool → Int → (List S2) → Bool → Bool → Int → (List S2) → Int → Int → Int → (List (Tr S6)) → Option (Int × Unit)) (k2 : Int → Int → Bool → Int → (List S2) → Bool → Bool → Int → (List S2) → Int → Int → Int → (List (Tr S6)) → Option (Int × Unit)) (n : Int) (v : Int) (vx2 : Int) (c0 : Int) (c0x2 : Bool) (c0x3 : Int) (c0x4 : List S2) (c0x5 : Bool) (c0x6 : Bool) (c0x7 : Int) (c0x8 : List S2) (c0x9 : Int) (c0x10 : Int) (c0x11 : Int) (c0x12 : List (Tr S6)) : Option (Int × Unit) :=
 cond (decide (vx2 < v)) (
  chk (ixOk c0x12 vx2) <|
  let e1 := ixL (Tr.mk ((0 : Int), (false, (0 : Int), [], ()), false, (false, (0 : Int), [], ()), (0 : Int), (0 : Int), (0 : Int), ()) []) c0x12 vx2
  (Sref11TPlaces e1).bind fun r2 =>
  let t3 := IntKind.i64.wrap (n + r2.1)
  let t4 := IntKind.i64.wrap (vx2 + (1 : Int))
  next t3 v t4 c0 c0x2 c0x3 c0x4 c0x5 c0x6 c0x7 c0x8 c0x9 c0x10 c0x11 c0x12) (
  k2 n c0 c0x2 c0x3 c0x4 c0x5 c0x6 c0x7 c0x8 c0x9 c0x10 c0x11 c0x12)
noncomputable def Zai.l5 (fu : Nat) (Sref11TPlaces : (Tr S6) → Option (Int × Unit)) (k2 : Int → Int → Bool → Int → (List S2) → Bool → Bool → Int → (List S2) → Int → Int → Int → (List (Tr S6)) → Option (Int × Unit)) : Nat → Int → Int → Int → Int → Bool → Int → (List S2) → Bool → Bool → Int → (List S2) → Int → Int → Int → (List (Tr S6)) → Option (Int × Unit)
 | 0, _, _, _, _, _, _, _, _, _, _, _, _, _, _, _ => none
 | m + 1, n, v, vx2, c0, c0x2, c0x3, c0x4, c0x5, c0x6, c0x7, c0x8, c0x9, c0x10, c0x11, c0x12 => Zai.b5 fu Sref11TPlaces (Zai.l5 fu Sref11TPlaces k2 m) k2 n v vx2 c0 c0x2 c0x3 c0x4 c0x5 c0x6 c0x7 c0x8 c0x9 c0x10 c0x11 c0x12
noncomputable def Zai.bd (fu : Nat) (Sref11TPlaces : (Tr S6) → Option (Int × Unit)) (tv : Tr S6) : Option (Int × Unit) :=
 let t1 := (tv.sub.length : Int) == (0 : Int)
 cond t1 (
  some ((1 : Int), ())) (
  Zai.l5 fu Sref11TPlaces (fun nq2 c0q2 c0q2x2 c0q2x3 c0q2x4 c0q2x5 c0q2x6 c0q2x7 c0q2x8 c0q2x9 c0q2x10 c0q2x11 c0q2x12 =>
    cond (c0q2 == (4 : Int)) (
     let t2 := IntKind.i64.wrap (nq2 * IntKind.i64.wrap c0q2x10)
     some (t2, ())) (
     some (nq2, ()))) fu (0 : Int) (tv.sub.length : Int) (0 : Int) tv.val.1 tv.val.2.1.1 tv.val.2.1.2.1 tv.val.2.1.2.2.1 tv.val.2.2.1 tv.val.2.2.2.1.1 tv.val.2.2.2.1.2.1 tv.val.2.2.2.1.2.2.1 tv.val.2.2.2.2.1 tv.val.2.2.2.2.2.1 tv.val.2.2.2.2.2.2.1 tv.sub)
noncomputable def Zai (fu : Nat) (m : Nat) : (Tr S6) → Option (Int × Unit) :=
 Nat.rec (fun _ => none) (fun _ Sref11TPlaces => Zai.bd fu Sref11TPlaces) m
noncomputable def Zai.conM (m : Nat) : Con := { ps := [(.tre kS6)], rs := [(.int .i64)], f := fun n x => Zai n m x.1 }
noncomputable def Zai.con : Con := { ps := [(.tre kS6)], rs := [(.int .i64)], f := fun n x => Zai n n x.1 }
noncomputable def Zai.body : Code := Try.f37.body.getD .skip
abbrev Zai.shl5 : Shp := ⟨.u :: .p 0 0 :: .u :: .d (.int .i64) :: us 7 (.d (.int .i64) :: .d (.int .i64) :: us 22 []), [.c [.d (.int .u8), .d .bool, .d (.int .u8), .d (.slice kS2), .d .bool, .d .bool, .d (.int .u8), .d (.slice kS2), .d (.int .u8), .d (.int .u8), .d (.int .i64), .d (.slice (.tre kS6))]]⟩
abbrev Zai.outl5e2 : Shp := ⟨.u :: .p 0 0 :: .u :: .d (.int .i64) :: us 31 [], [.c [.d (.int .u8), .d .bool, .d (.int .u8), .d (.slice kS2), .d .bool, .d .bool, .d (.int .u8), .d (.slice kS2), .d (.int .u8), .d (.int .u8), .d (.int .i64), .d (.slice (.tre kS6))]]⟩
noncomputable def Zai.nml5 : Norm := ⟨Zai.shl5.cut [], [(2, Zai.outl5e2.cut [])]⟩
abbrev Zai.R (mref11TPlaces : Nat) : Type := (Kd.struct (Zai.conM (Nat.succ mref11TPlaces)).rs).T
noncomputable def Zai.env (mref11TPlaces : Nat) : Env := { tys := [(80, ⟨(.tre kS6), 120⟩), (3, ⟨(.int .i64), 8⟩), (78, ⟨(.slice (.tre kS6)), 24⟩), (77, ⟨kS6, 96⟩), (5, ⟨(.int .u8), 1⟩)], elems := [(78, 80)], ptrs := [], cons := [(37, (Zai.conM mref11TPlaces))], objs := [], loops := [(5, Zai.nml5)], cuts := [], globs := globs, base := 0 }
noncomputable def Zai.cl5 (mref11TPlaces : Nat) (n : Nat) (K : Ex → St → Option (Zai.R mref11TPlaces)) (m : Nat) (v : Zai.shl5.T) : Option (Zai.R mref11TPlaces) := Zai.l5 n (Zai n mref11TPlaces) (fun w0 w1 w2 w3 w4 w5 w6 w7 w8 w9 w10 w11 w12 => K (.exit 0) (Zai.outl5e2.enc (w0, w1, w2, w3, w4, w5, w6, w7, w8, w9, w10, w11, w12, ()))) m v.1 v.2.1 v.2.2.1 v.2.2.2.1 v.2.2.2.2.1 v.2.2.2.2.2.1 v.2.2.2.2.2.2.1 v.2.2.2.2.2.2.2.1 v.2.2.2.2.2.2.2.2.1 v.2.2.2.2.2.2.2.2.2.1 v.2.2.2.2.2.2.2.2.2.2.1 v.2.2.2.2.2.2.2.2.2.2.2.1 v.2.2.2.2.2.2.2.2.2.2.2.2.1 v.2.2.2.2.2.2.2.2.2.2.2.2.2.1 v.2.2.2.2.2.2.2.2.2.2.2.2.2.2.1
noncomputable def Zai.lp (mref11TPlaces : Nat) (n : Nat) : LP (Zai.R mref11TPlaces) := fun lo κ body nm K s =>
 cond (lo && Nat.beq κ 5) (pc Zai.shl5 (Zai.cl5 mref11TPlaces n K n) (loops n (Zai.R mref11TPlaces) lo κ body nm K) s) <|
  loops n (Zai.R mref11TPlaces) lo κ body nm K s
noncomputable def Zai.tl5 (mref11TPlaces : Nat) (n : Nat) := evK (β := (Zai.R mref11TPlaces)) (Zai.env mref11TPlaces) (Zai.lp mref11TPlaces n) n (sub [1, 1, 1, 0, 1, 0, 0] Zai.body)
theorem Zai.atl5 (mref11TPlaces : Nat) (n : Nat) : At n (Zai.lp mref11TPlaces n) true 5 (Zai.tl5 mref11TPlaces n) Zai.nml5 := fun s K =>
 ZbR (sh := Zai.shl5) (F := (Zai.cl5 mref11TPlaces n K n)) (B := loops n _ true 5 (Zai.tl5 mref11TPlaces n) Zai.nml5 K) (fun v => (Zbc (sh := Zai.shl5) (body := (Zai.tl5 mref11TPlaces n)) (nm := Zai.nml5) (b := fun nx v => Zai.b5 n (Zai n mref11TPlaces) (fun x0 x1 x2 x3 x4 x5 x6 x7 x8 x9 x10 x11 x12 x13 x14 => nx (x0, x1, x2, x3, x4, x5, x6, x7, x8, x9, x10, x11, x12, x13, x14, ())) (fun w0 w1 w2 w3 w4 w5 w6 w7 w8 w9 w10 w11 w12 => K (.exit 0) (Zai.outl5e2.enc (w0, w1, w2, w3, w4, w5, w6, w7, w8, w9, w10, w11, w12, ()))) v.1 v.2.1 v.2.2.1 v.2.2.2.1 v.2.2.2.2.1 v.2.2.2.2.2.1 v.2.2.2.2.2.2.1 v.2.2.2.2.2.2.2.1 v.2.2.2.2.2.2.2.2.1 v.2.2.2.2.2.2.2.2.2.1 v.2.2.2.2.2.2.2.2.2.2.1 v.2.2.2.2.2.2.2.2.2.2.2.1 v.2.2.2.2.2.2.2.2.2.2.2.2.1 v.2.2.2.2.2.2.2.2.2.2.2.2.2.1 v.2.2.2.2.2.2.2.2.2.2.2.2.2.2.1) (l := (Zai.cl5 mref11TPlaces n K)) (fun _ => rfl) (fun _ _ => rfl) (fun m v => by kernel_rfl) n v).symm) s
theorem Zai.step (mref11TPlaces : Nat) (ihref11TPlaces : Zbi Try.prog globs 37 (Zai.conM mref11TPlaces)) : Zbi Try.prog globs 37 (Zai.conM (Nat.succ mref11TPlaces)) :=
 ZaS (E := (Zai.env mref11TPlaces)) (c := Zai.body) (Zbk (G := globs) (lc := [(37, (Zai.conM mref11TPlaces))]) (lo := []) (ZaA (by kernel_rfl)) rfl rfl ⟨.inl ⟨ihref11TPlaces, by kernel_rfl⟩, trivial⟩ rfl trivial (by kernel_rfl) (by kernel_rfl)) Try.func37 (by kernel_rfl) (Zai.lp mref11TPlaces) (l := [(true, sub [1, 1, 1, 0, 1, 0, 0] Zai.body, Zai.nml5)]) (by kernel_rfl) (fun n => ⟨Zai.atl5 mref11TPlaces n, trivial⟩) (fun n x => by kernel_rfl)
theorem Zai.soundM (m : Nat) : Zbi Try.prog globs 37 (Zai.conM m) := by
 induction m with
 | zero => intro n x r h; cases (show none = some r from h)
 | succ m ih => exact Zai.step m ih
theorem Zai.sound : Zbi Try.prog globs 37 Zai.con :=
 Zdx (ps := [(.tre kS6)]) (rs := [(.int .i64)]) (F := fun n m x => Zai n m x.1) (Zai.soundM)
noncomputable def ZaI.b7 (fu : Nat) (next : Int → Int → S7 → Int → Bool → Int → (List S2) → Bool → Bool → Int → (List S2) → Int → Int → Int → (List (Tr S6)) → Option (Int × Unit)) (k1 : Int → Option (Int × Unit)) (k2 : S7 → Int → Bool → Int → (List S2) → Bool → Bool → Int → (List S2) → Int → Int → Int → (List (Tr S6)) → Option (Int × Unit)) (v : Int) (vx2 : Int) (b0 : S7) (c1 : Int) (c1x2 : Bool) (c1x3 : Int) (c1x4 : List S2) (c1x5 : Bool) (c1x6 : Bool) (c1x7 : Int) (c1x8 : List S2) (c1x9 : Int) (c1x10 : Int) (c1x11 : Int) (c1x12 : List (Tr S6)) : Option (Int × Unit) :=
 cond (decide (vx2 < v)) (
  chk (ixOk b0.1 vx2) <|
  let e1 := ixL ((0 : Int), (false, (0 : Int), [], ()), false, (false, (0 : Int), [], ()), (0 : Int), (0 : Int), (0 : Int), ()) b0.1 vx2
  (ZaJ fu e1.2.1).bind fun r2 =>
  cond (!r2.1) (
   k1 (1 : Int)) (
   chk (ixOk b0.1 vx2) <|
   let e3 := ixL ((0 : Int), (false, (0 : Int), [], ()), false, (false, (0 : Int), [], ()), (0 : Int), (0 : Int), (0 : Int), ()) b0.1 vx2
   (ZaJ fu e3.2.2.2.1).bind fun r4 =>
   cond (!r4.1) (
    k1 (1 : Int)) (
    let t5 := IntKind.i64.wrap (vx2 + (1 : Int))
    next v t5 b0 c1 c1x2 c1x3 c1x4 c1x5 c1x6 c1x7 c1x8 c1x9 c1x10 c1x11 c1x12))) (
  k2 b0 c1 c1x2 c1x3 c1x4 c1x5 c1x6 c1x7 c1x8 c1x9 c1x10 c1x11 c1x12)
noncomputable def ZaI.l7 (fu : Nat) (k1 : Int → Option (Int × Unit)) (k2 : S7 → Int → Bool → Int → (List S2) → Bool → Bool → Int → (List S2) → Int → Int → Int → (List (Tr S6)) → Option (Int × Unit)) : Nat → Int → Int → S7 → Int → Bool → Int → (List S2) → Bool → Bool → Int → (List S2) → Int → Int → Int → (List (Tr S6)) → Option (Int × Unit)
 | 0, _, _, _, _, _, _, _, _, _, _, _, _, _, _, _ => none
 | m + 1, v, vx2, b0, c1, c1x2, c1x3, c1x4, c1x5, c1x6, c1x7, c1x8, c1x9, c1x10, c1x11, c1x12 => ZaI.b7 fu (ZaI.l7 fu k1 k2 m) k1 k2 v vx2 b0 c1 c1x2 c1x3 c1x4 c1x5 c1x6 c1x7 c1x8 c1x9 c1x10 c1x11 c1x12
noncomputable def ZaI (fu : Nat) (p : S7) : Option (Int × Unit) :=
 let t1 := decide ((p.1.length : Int) > (32 : Int))
 cond t1 (
  some ((12 : Int), ())) (
  (Zbq fu p.1).bind fun r2 =>
  cond (!r2.2.1) (
   some ((2 : Int), ())) (
   (Zab fu fu (Tr.mk r2.1.val r2.1.sub)).bind fun r3 =>
   cond (!r3.1) (
    some ((2 : Int), ())) (
    ZaI.l7 fu (fun vq3 =>
      some (vq3, ())) (fun b0q4 c1q4 c1q4x2 c1q4x3 c1q4x4 c1q4x5 c1q4x6 c1q4x7 c1q4x8 c1q4x9 c1q4x10 c1q4x11 c1q4x12 =>
      (Zaj fu fu (Tr.mk (c1q4, (c1q4x2, c1q4x3, c1q4x4, ()), c1q4x5, (c1q4x6, c1q4x7, c1q4x8, ()), c1q4x9, c1q4x10, c1q4x11, ()) c1q4x12)).bind fun r4 =>
      let t5 := decide (r4.1 > (8 : Int))
      cond t5 (
       some ((16 : Int), ())) (
       cond (b0q4.2.1 == (0 : Int)) (
        some ((5 : Int), ())) (
        let t6 := decide (b0q4.2.1 > (1048576 : Int))
        cond t6 (
         some ((5 : Int), ())) (
         (Zai fu fu (Tr.mk (c1q4, (c1q4x2, c1q4x3, c1q4x4, ()), c1q4x5, (c1q4x6, c1q4x7, c1q4x8, ()), c1q4x9, c1q4x10, c1q4x11, ()) c1q4x12)).bind fun r7 =>
         let t8 := decide (r7.1 > (32 : Int))
         cond t8 (
          some ((4 : Int), ())) (
          some ((0 : Int), ())))))) fu (p.1.length : Int) (0 : Int) p r2.1.val.1 r2.1.val.2.1.1 r2.1.val.2.1.2.1 r2.1.val.2.1.2.2.1 r2.1.val.2.2.1 r2.1.val.2.2.2.1.1 r2.1.val.2.2.2.1.2.1 r2.1.val.2.2.2.1.2.2.1 r2.1.val.2.2.2.2.1 r2.1.val.2.2.2.2.2.1 r2.1.val.2.2.2.2.2.2.1 r2.1.sub)))
noncomputable def ZaI.body : Code := Try.f32.body.getD .skip
abbrev ZaI.shl7 : Shp := ⟨.u :: .p 0 0 :: .u :: .p 1 0 :: us 21 (.d (.int .i64) :: .d (.int .i64) :: us 35 []), [.c [.g kS7], .c [.d (.int .u8), .d .bool, .d (.int .u8), .d (.slice kS2), .d .bool, .d .bool, .d (.int .u8), .d (.slice kS2), .d (.int .u8), .d (.int .u8), .d (.int .i64), .d (.slice (.tre kS6))]]⟩
abbrev ZaI.outl7e1 : Shp := ⟨.u :: .u :: .d (.int .i64) :: us 59 [], []⟩
abbrev ZaI.outl7e2 : Shp := ⟨.u :: .p 0 0 :: .u :: .p 1 0 :: us 58 [], [.c [.g kS7], .c [.d (.int .u8), .d .bool, .d (.int .u8), .d (.slice kS2), .d .bool, .d .bool, .d (.int .u8), .d (.slice kS2), .d (.int .u8), .d (.int .u8), .d (.int .i64), .d (.slice (.tre kS6))]]⟩
noncomputable def ZaI.nml7 : Norm := ⟨ZaI.shl7.cut [], [(1, ZaI.outl7e1.cut []), (2, ZaI.outl7e2.cut [])]⟩
noncomputable def ZaI.con : Con := { ps := [kS7], rs := [(.int .i64)], f := fun n x => ZaI n x.1 }
abbrev ZaI.R : Type := (Kd.struct ZaI.con.rs).T
noncomputable def ZaI.env : Env := { tys := [(68, ⟨kS7, 32⟩), (3, ⟨(.int .i64), 8⟩), (66, ⟨(.slice kS6), 24⟩), (77, ⟨kS6, 96⟩), (80, ⟨(.tre kS6), 120⟩), (4, ⟨.bool, 1⟩), (75, ⟨kS3, 32⟩), (51, ⟨(.int .u64), 8⟩)], elems := [(66, 77)], ptrs := [], cons := [(36, Zbq.con), (68, Zab.con), (69, ZaJ.con), (38, Zaj.con), (37, Zai.con)], objs := [], loops := [(7, ZaI.nml7)], cuts := [], globs := globs, base := 0 }
noncomputable def ZaI.cl7 (n : Nat) (K : Ex → St → Option ZaI.R) (m : Nat) (v : ZaI.shl7.T) : Option ZaI.R := ZaI.l7 n (fun w0 => K .ret (ZaI.outl7e1.enc (w0, ()))) (fun w0 w1 w2 w3 w4 w5 w6 w7 w8 w9 w10 w11 w12 => K (.exit 0) (ZaI.outl7e2.enc (w0, w1, w2, w3, w4, w5, w6, w7, w8, w9, w10, w11, w12, ()))) m v.1 v.2.1 v.2.2.1 v.2.2.2.1 v.2.2.2.2.1 v.2.2.2.2.2.1 v.2.2.2.2.2.2.1 v.2.2.2.2.2.2.2.1 v.2.2.2.2.2.2.2.2.1 v.2.2.2.2.2.2.2.2.2.1 v.2.2.2.2.2.2.2.2.2.2.1 v.2.2.2.2.2.2.2.2.2.2.2.1 v.2.2.2.2.2.2.2.2.2.2.2.2.1 v.2.2.2.2.2.2.2.2.2.2.2.2.2.1 v.2.2.2.2.2.2.2.2.2.2.2.2.2.2.1
noncomputable def ZaI.lp (n : Nat) : LP ZaI.R := fun lo κ body nm K s =>
 cond (lo && Nat.beq κ 7) (pc ZaI.shl7 (ZaI.cl7 n K n) (loops n ZaI.R lo κ body nm K) s) <|
  loops n ZaI.R lo κ body nm K s
noncomputable def ZaI.tl7 (n : Nat) := evK (β := ZaI.R) ZaI.env (ZaI.lp n) n (sub [1, 1, 1, 1, 0, 1, 0, 0] ZaI.body)
theorem ZaI.atl7 (n : Nat) : At n (ZaI.lp n) true 7 (ZaI.tl7 n) ZaI.nml7 := fun s K =>
 ZbR (sh := ZaI.shl7) (F := (ZaI.cl7 n K n)) (B := loops n _ true 7 (ZaI.tl7 n) ZaI.nml7 K) (fun v => (Zbc (sh := ZaI.shl7) (body := (ZaI.tl7 n)) (nm := ZaI.nml7) (b := fun nx v => ZaI.b7 n (fun x0 x1 x2 x3 x4 x5 x6 x7 x8 x9 x10 x11 x12 x13 x14 => nx (x0, x1, x2, x3, x4, x5, x6, x7, x8, x9, x10, x11, x12, x13, x14, ())) (fun w0 => K .ret (ZaI.outl7e1.enc (w0, ()))) (fun w0 w1 w2 w3 w4 w5 w6 w7 w8 w9 w10 w11 w12 => K (.exit 0) (ZaI.outl7e2.enc (w0, w1, w2, w3, w4, w5, w6, w7, w8, w9, w10, w11, w12, ()))) v.1 v.2.1 v.2.2.1 v.2.2.2.1 v.2.2.2.2.1 v.2.2.2.2.2.1 v.2.2.2.2.2.2.1 v.2.2.2.2.2.2.2.1 v.2.2.2.2.2.2.2.2.1 v.2.2.2.2.2.2.2.2.2.1 v.2.2.2.2.2.2.2.2.2.2.1 v.2.2.2.2.2.2.2.2.2.2.2.1 v.2.2.2.2.2.2.2.2.2.2.2.2.1 v.2.2.2.2.2.2.2.2.2.2.2.2.2.1 v.2.2.2.2.2.2.2.2.2.2.2.2.2.2.1) (l := (ZaI.cl7 n K)) (fun _ => rfl) (fun _ _ => rfl) (fun m v => by kernel_rfl) n v).symm) s
theorem ZaI.sound : Zbi Try.prog globs 32 ZaI.con :=
 ZaS (E := ZaI.env) (c := ZaI.body) (Zbk (G := globs) (lc := [(36, Zbq.con), (68, Zab.con), (69, ZaJ.con), (38, Zaj.con), (37, Zai.con)]) (lo := []) (ZaA (by kernel_rfl)) rfl rfl ⟨.inl ⟨Zbq.sound, by kernel_rfl⟩, ⟨.inl ⟨Zab.sound, by kernel_rfl⟩, ⟨.inl ⟨ZaJ.sound, by kernel_rfl⟩, ⟨.inl ⟨Zaj.sound, by kernel_rfl⟩, ⟨.inl ⟨Zai.sound, by kernel_rfl⟩, trivial⟩⟩⟩⟩⟩ rfl trivial (by kernel_rfl) (by kernel_rfl)) Try.func32 (by kernel_rfl) ZaI.lp (l := [(true, sub [1, 1, 1, 1, 0, 1, 0, 0] ZaI.body, ZaI.nml7)]) (by kernel_rfl) (fun n => ⟨ZaI.atl7 n, trivial⟩) (fun n x => by kernel_rfl)
noncomputable def Zbd (fu : Nat) (b : Int) : Option (S10 × Unit) :=
 let t1 := decide (b ≥ (9223372036854775808 : Int))
 let t2 := IntKind.u64.wrap (Int.tdiv b (4503599627370496 : Int))
 let t3 := IntKind.i64.wrap (Int.tmod t2 (2048 : Int))
 let t4 := Int.tmod b (4503599627370496 : Int)
 some ((t1, t3, t4, ()), ())
noncomputable def Zbd.body : Code := Try.f91.body.getD .skip
noncomputable def Zbd.con : Con := { ps := [(.int .u64)], rs := [kS10], f := fun n x => Zbd n x.1 }
abbrev Zbd.R : Type := (Kd.struct Zbd.con.rs).T
noncomputable def Zbd.env : Env := { tys := [(99, ⟨kS10, 24⟩), (3, ⟨(.int .i64), 8⟩), (51, ⟨(.int .u64), 8⟩)], elems := [], ptrs := [], cons := [], objs := [], loops := [], cuts := [], globs := globs, base := 0 }
noncomputable def Zbd.lp (n : Nat) : LP Zbd.R := fun lo κ body nm K s =>
 loops n Zbd.R lo κ body nm K s
theorem Zbd.sound : Zbi Try.prog globs 91 Zbd.con :=
 ZaS (E := Zbd.env) (c := Zbd.body) (Zbk (G := globs) (lc := []) (lo := []) (ZaA (by kernel_rfl)) rfl rfl trivial rfl trivial (by kernel_rfl) (by kernel_rfl)) Try.func91 (by kernel_rfl) Zbd.lp (l := []) (by kernel_rfl) (fun n => trivial) (fun n x => by kernel_rfl)
noncomputable def Zcf (fu : Nat) (xv : Nat) : Option (S10 × Unit) :=
 (ZcF.f fu (xv, ())).bind fun r1 =>
 (Zbd fu r1.1).bind fun r2 =>
 some (r2.1, ())
noncomputable def Zcf.body : Code := Try.f48.body.getD .skip
noncomputable def Zcf.con : Con := { ps := [.flt], rs := [kS10], f := fun n x => Zcf n x.1 }
abbrev Zcf.R : Type := (Kd.struct Zcf.con.rs).T
noncomputable def Zcf.env : Env := { tys := [(99, ⟨kS10, 24⟩)], elems := [], ptrs := [], cons := [(92, ZcF), (91, Zbd.con)], objs := [], loops := [], cuts := [], globs := globs, base := 0 }
noncomputable def Zcf.lp (n : Nat) : LP Zcf.R := fun lo κ body nm K s =>
 loops n Zcf.R lo κ body nm K s
theorem Zcf.sound : Zbi Try.prog globs 48 Zcf.con :=
 ZaS (E := Zcf.env) (c := Zcf.body) (Zbk (G := globs) (lc := [(92, ZcF), (91, Zbd.con)]) (lo := []) (ZaA (by kernel_rfl)) rfl rfl ⟨.inr (Zfv Try.func92 (by kernel_rfl) (by kernel_rfl) (by kernel_rfl) (by kernel_rfl)), ⟨.inl ⟨Zbd.sound, by kernel_rfl⟩, trivial⟩⟩ rfl trivial (by kernel_rfl) (by kernel_rfl)) Try.func48 (by kernel_rfl) Zcf.lp (l := []) (by kernel_rfl) (fun n => trivial) (fun n x => by kernel_rfl)
noncomputable def Zba (fu : Nat) (p : S10) : Option (Bool × Unit) :=
 cond (p.2.1 == (2047 : Int)) (
  some (p.2.2.1 != (0 : Int), ())) (
  some (false, ()))
noncomputable def Zba.body : Code := Try.f93.body.getD .skip
noncomputable def Zba.con : Con := { ps := [kS10], rs := [.bool], f := fun n x => Zba n x.1 }
abbrev Zba.R : Type := (Kd.struct Zba.con.rs).T
noncomputable def Zba.env : Env := { tys := [(99, ⟨kS10, 24⟩), (4, ⟨.bool, 1⟩), (3, ⟨(.int .i64), 8⟩), (51, ⟨(.int .u64), 8⟩)], elems := [], ptrs := [], cons := [], objs := [], loops := [], cuts := [], globs := globs, base := 0 }
noncomputable def Zba.lp (n : Nat) : LP Zba.R := fun lo κ body nm K s =>
 loops n Zba.R lo κ body nm K s
theorem Zba.sound : Zbi Try.prog globs 93 Zba.con :=
 ZaS (E := Zba.env) (c := Zba.body) (Zbk (G := globs) (lc := []) (lo := []) (ZaA (by kernel_rfl)) rfl rfl trivial rfl trivial (by kernel_rfl) (by kernel_rfl)) Try.func93 (by kernel_rfl) Zba.lp (l := []) (by kernel_rfl) (fun n => trivial) (fun n x => by kernel_rfl)
noncomputable def ZaO (fu : Nat) (p : S10) : Option (Int × Unit) :=
 (Zba fu p).bind fun r1 =>
 cond r1.1 (
  some ((9221120237041090560 : Int), ())) (
  let t2 := IntKind.u64.wrap (IntKind.u64.wrap p.2.1 * (4503599627370496 : Int))
  let t3 := IntKind.u64.wrap (t2 + p.2.2.1)
  cond p.1 (
   let t4 := IntKind.u64.wrap (t3 + (9223372036854775808 : Int))
   some (t4, ())) (
   some (t3, ())))
noncomputable def ZaO.body : Code := Try.f49.body.getD .skip
noncomputable def ZaO.con : Con := { ps := [kS10], rs := [(.int .u64)], f := fun n x => ZaO n x.1 }
abbrev ZaO.R : Type := (Kd.struct ZaO.con.rs).T
noncomputable def ZaO.env : Env := { tys := [(99, ⟨kS10, 24⟩), (51, ⟨(.int .u64), 8⟩), (3, ⟨(.int .i64), 8⟩), (4, ⟨.bool, 1⟩)], elems := [], ptrs := [], cons := [(93, Zba.con)], objs := [], loops := [], cuts := [], globs := globs, base := 0 }
noncomputable def ZaO.lp (n : Nat) : LP ZaO.R := fun lo κ body nm K s =>
 loops n ZaO.R lo κ body nm K s
theorem ZaO.sound : Zbi Try.prog globs 49 ZaO.con :=
 ZaS (E := ZaO.env) (c := ZaO.body) (Zbk (G := globs) (lc := [(93, Zba.con)]) (lo := []) (ZaA (by kernel_rfl)) rfl rfl ⟨.inl ⟨Zba.sound, by kernel_rfl⟩, trivial⟩ rfl trivial (by kernel_rfl) (by kernel_rfl)) Try.func49 (by kernel_rfl) ZaO.lp (l := []) (by kernel_rfl) (fun n => trivial) (fun n x => by kernel_rfl)
noncomputable def ZaH.b3 (fu : Nat) (next : Int → (List Int) → Option (((List Int) × Unit) × (Unit))) (k2 : Int → (List Int) → Option (((List Int) × Unit) × (Unit))) (n : Int) (out : List Int) : Option (((List Int) × Unit) × (Unit)) :=
 cond (decide (n ≥ (128 : Int))) (
  let t1 := IntKind.u64.wrap (Int.tmod n (128 : Int) + (128 : Int))
  chk (apOk out ([IntKind.u8.wrap t1]) 1) <|
  let t2 := out ++ ([IntKind.u8.wrap t1])
  let t3 := IntKind.u64.wrap (Int.tdiv n (128 : Int))
  next t3 t2) (
  k2 n out)
noncomputable def ZaH.l3 (fu : Nat) (k2 : Int → (List Int) → Option (((List Int) × Unit) × (Unit))) : Nat → Int → (List Int) → Option (((List Int) × Unit) × (Unit))
 | 0, _, _ => none
 | m + 1, n, out => ZaH.b3 fu (ZaH.l3 fu k2 m) k2 n out
noncomputable def ZaH (fu : Nat) (b : List Int) (n : Int) : Option (((List Int) × Unit) × (Unit)) :=
 chk (apOk [] b 1) <|
 ZaH.l3 fu (fun nq2 outq2 =>
   chk (apOk outq2 ([IntKind.u8.wrap nq2]) 1) <|
   let t1 := outq2 ++ ([IntKind.u8.wrap nq2])
   some ((t1, ()), (()))) fu n ([] ++ b)
noncomputable def ZaH.body : Code := Try.f62.body.getD .skip
abbrev ZaH.shl3 : Shp := ⟨.u :: .d (.int .u64) :: us 3 (.o 5 (.int .u8) :: us 20 []), []⟩
abbrev ZaH.outl3e2 : Shp := ⟨.u :: .d (.int .u64) :: us 3 (.o 5 (.int .u8) :: us 20 []), []⟩
noncomputable def ZaH.nml3 : Norm := ⟨ZaH.shl3.cut [], [(2, ZaH.outl3e2.cut [])]⟩
noncomputable def ZaH.con : OCon := { ps := [.dat (.slice (.int .u8)), .dat (.int .u64)], rs := [.own (.int .u8)], f := fun n x => ZaH n x.1 x.2.1 }
abbrev ZaH.R : Type := (RT ZaH.con.rs × BT ZaH.con.ps)
noncomputable def ZaH.env : Env := { tys := [(38, ⟨(.slice (.int .u8)), 24⟩), (5, ⟨(.int .u8), 1⟩), (51, ⟨(.int .u64), 8⟩)], elems := [(38, 5)], ptrs := [], cons := [], objs := [], loops := [(3, ZaH.nml3)], cuts := [], globs := globs, base := 0 }
noncomputable def ZaH.cl3 (n : Nat) (K : Ex → St → Option ZaH.R) (m : Nat) (v : ZaH.shl3.T) : Option ZaH.R := ZaH.l3 n (fun w0 w1 => K (.exit 0) (ZaH.outl3e2.enc (w0, w1, ()))) m v.1 v.2.1
noncomputable def ZaH.lp (n : Nat) : LP ZaH.R := fun lo κ body nm K s =>
 cond (lo && Nat.beq κ 3) (pc ZaH.shl3 (ZaH.cl3 n K n) (loops n ZaH.R lo κ body nm K) s) <|
  loops n ZaH.R lo κ body nm K s
noncomputable def ZaH.tl3 (n : Nat) := evK (β := ZaH.R) ZaH.env (ZaH.lp n) n (sub [1, 1, 1, 0, 0, 0] ZaH.body)
theorem ZaH.atl3 (n : Nat) : At n (ZaH.lp n) true 3 (ZaH.tl3 n) ZaH.nml3 := fun s K =>
 ZbR (sh := ZaH.shl3) (F := (ZaH.cl3 n K n)) (B := loops n _ true 3 (ZaH.tl3 n) ZaH.nml3 K) (fun v => (Zbc (sh := ZaH.shl3) (body := (ZaH.tl3 n)) (nm := ZaH.nml3) (b := fun nx v => ZaH.b3 n (fun x0 x1 => nx (x0, x1, ())) (fun w0 w1 => K (.exit 0) (ZaH.outl3e2.enc (w0, w1, ()))) v.1 v.2.1) (l := (ZaH.cl3 n K)) (fun _ => rfl) (fun _ _ => rfl) (fun m v => by kernel_rfl) n v).symm) s
theorem ZaH.sound : ZbP Try.prog globs 62 ZaH.con :=
 Zbl (E := ZaH.env) (c := ZaH.body) (Zbk (G := globs) (lc := []) (lo := []) (ZaA (by kernel_rfl)) rfl rfl trivial rfl trivial (by kernel_rfl) (by kernel_rfl)) Try.func62 (by kernel_rfl) (by kernel_rfl) (by kernel_rfl) ZaH.lp (l := [(true, sub [1, 1, 1, 0, 0, 0] ZaH.body, ZaH.nml3)]) (by kernel_rfl) (fun n => ⟨ZaH.atl3 n, trivial⟩) (fun n x => by kernel_rfl)
noncomputable def Zbg (fu : Nat) (b : List Int) (n : Int) : Option (((List Int) × Unit) × (Unit)) :=
 cond (decide (n ≥ (0 : Int))) (
  let t1 := IntKind.u64.wrap ((2 : Int) * IntKind.u64.wrap n)
  (ZaH fu b t1).bind fun r2 =>
  some ((r2.1.1, ()), (()))) (
  let t3 := IntKind.i64.wrap (n + (1 : Int))
  let t4 := IntKind.i64.wrap (0 - t3)
  let t5 := IntKind.u64.wrap ((2 : Int) * IntKind.u64.wrap t4)
  let t6 := IntKind.u64.wrap (t5 + (1 : Int))
  (ZaH fu b t6).bind fun r7 =>
  some ((r7.1.1, ()), (())))
noncomputable def Zbg.body : Code := Try.f105.body.getD .skip
noncomputable def Zbg.con : OCon := { ps := [.dat (.slice (.int .u8)), .dat (.int .i64)], rs := [.own (.int .u8)], f := fun n x => Zbg n x.1 x.2.1 }
abbrev Zbg.R : Type := (RT Zbg.con.rs × BT Zbg.con.ps)
noncomputable def Zbg.env : Env := { tys := [(38, ⟨(.slice (.int .u8)), 24⟩), (51, ⟨(.int .u64), 8⟩), (2, ⟨(.int .i64), 8⟩)], elems := [], ptrs := [], cons := [], objs := [(62, [ZaH.con])], loops := [], cuts := [], globs := globs, base := 0 }
noncomputable def Zbg.lp (n : Nat) : LP Zbg.R := fun lo κ body nm K s =>
 loops n Zbg.R lo κ body nm K s
theorem Zbg.sound : ZbP Try.prog globs 105 Zbg.con :=
 Zbl (E := Zbg.env) (c := Zbg.body) (Zbk (G := globs) (lc := []) (lo := [(62, [ZaH.con])]) (ZaA (by kernel_rfl)) rfl rfl trivial rfl ⟨⟨⟨ZaH.sound, trivial⟩, by kernel_rfl⟩, trivial⟩ (by kernel_rfl) (by kernel_rfl)) Try.func105 (by kernel_rfl) (by kernel_rfl) (by kernel_rfl) Zbg.lp (l := []) (by kernel_rfl) (fun n => trivial) (fun n x => by kernel_rfl)
noncomputable def Zan.b6 (fu : Nat) (next : (List Int) → Int → Int → (List Int) → Option (((List Int) × Unit) × (Unit))) (k2 : (List Int) → (List Int) → Option (((List Int) × Unit) × (Unit))) (out : List Int) (n : Int) (i : Int) (c0 : List Int) : Option (((List Int) × Unit) × (Unit)) :=
 cond (decide (i ≥ (0 : Int))) (
  let t1 := IntKind.u8.wrap (Int.tmod n (256 : Int))
  chk (ZtH 8 i) <|
  chk (nOk c0 8) <|
  let w2 := stL c0 i t1
  let t3 := IntKind.u64.wrap (Int.tdiv n (256 : Int))
  let t4 := IntKind.i64.wrap (i - (1 : Int))
  next out t3 t4 w2) (
  k2 out c0)
noncomputable def Zan.l6 (fu : Nat) (k2 : (List Int) → (List Int) → Option (((List Int) × Unit) × (Unit))) : Nat → (List Int) → Int → Int → (List Int) → Option (((List Int) × Unit) × (Unit))
 | 0, _, _, _, _ => none
 | m + 1, out, n, i, c0 => Zan.b6 fu (Zan.l6 fu k2 m) k2 out n i c0
noncomputable def Zan (fu : Nat) (b : List Int) (xv : Nat) : Option (((List Int) × Unit) × (Unit)) :=
 chk (apOk [] b 1) <|
 (Zcf fu xv).bind fun r1 =>
 (ZaO fu r1.1).bind fun r2 =>
 chk (mkMut (8 : Int) (8 : Int) 1) <|
 Zan.l6 fu (fun outq2 c0q2 =>
   chk (nOk c0q2 8 && apOk outq2 c0q2 1) <|
   some ((outq2 ++ c0q2, ()), (()))) fu ([] ++ b) r2.1 (7 : Int) (List.replicate (8 : Int).toNat (0 : Int))
noncomputable def Zan.body : Code := Try.f106.body.getD .skip
abbrev Zan.shl6 : Shp := ⟨us 5 (.o 5 (.int .u8) :: .d (.int .u64) :: .s 0 (.int .u8) 8 :: .d (.int .i64) :: us 23 []), [.a (.int .u8)]⟩
abbrev Zan.outl6e2 : Shp := ⟨us 5 (.o 5 (.int .u8) :: .u :: .s 0 (.int .u8) 8 :: us 24 []), [.a (.int .u8)]⟩
noncomputable def Zan.nml6 : Norm := ⟨Zan.shl6.cut [], [(2, Zan.outl6e2.cut [])]⟩
noncomputable def Zan.con : OCon := { ps := [.dat (.slice (.int .u8)), .dat .flt], rs := [.own (.int .u8)], f := fun n x => Zan n x.1 x.2.1 }
abbrev Zan.R : Type := (RT Zan.con.rs × BT Zan.con.ps)
noncomputable def Zan.env : Env := { tys := [(38, ⟨(.slice (.int .u8)), 24⟩), (5, ⟨(.int .u8), 1⟩), (3, ⟨(.int .i64), 8⟩), (51, ⟨(.int .u64), 8⟩)], elems := [(38, 5)], ptrs := [], cons := [(48, Zcf.con), (49, ZaO.con)], objs := [], loops := [(6, Zan.nml6)], cuts := [], globs := globs, base := 0, muts := [16] }
noncomputable def Zan.cl6 (n : Nat) (K : Ex → St → Option Zan.R) (m : Nat) (v : Zan.shl6.T) : Option Zan.R := Zan.l6 n (fun w0 w1 => K (.exit 0) (Zan.outl6e2.enc (w0, w1, ()))) m v.1 v.2.1 v.2.2.1 v.2.2.2.1
noncomputable def Zan.lp (n : Nat) : LP Zan.R := fun lo κ body nm K s =>
 cond (lo && Nat.beq κ 6) (pc Zan.shl6 (Zan.cl6 n K n) (loops n Zan.R lo κ body nm K) s) <|
  loops n Zan.R lo κ body nm K s
noncomputable def Zan.tl6 (n : Nat) := evK (β := Zan.R) Zan.env (Zan.lp n) n (sub [1, 1, 1, 1, 1, 0, 1, 0, 0] Zan.body)
theorem Zan.atl6 (n : Nat) : At n (Zan.lp n) true 6 (Zan.tl6 n) Zan.nml6 := fun s K =>
 ZbR (sh := Zan.shl6) (F := (Zan.cl6 n K n)) (B := loops n _ true 6 (Zan.tl6 n) Zan.nml6 K) (fun v => (Zbc (sh := Zan.shl6) (body := (Zan.tl6 n)) (nm := Zan.nml6) (b := fun nx v => Zan.b6 n (fun x0 x1 x2 x3 => nx (x0, x1, x2, x3, ())) (fun w0 w1 => K (.exit 0) (Zan.outl6e2.enc (w0, w1, ()))) v.1 v.2.1 v.2.2.1 v.2.2.2.1) (l := (Zan.cl6 n K)) (fun _ => rfl) (fun _ _ => rfl) (fun m v => by kernel_rfl) n v).symm) s
theorem Zan.sound : ZbP Try.prog globs 106 Zan.con :=
 Zbl (E := Zan.env) (c := Zan.body) (Zbk (G := globs) (lc := [(48, Zcf.con), (49, ZaO.con)]) (lo := []) (ZaA (by kernel_rfl)) rfl rfl ⟨.inl ⟨Zcf.sound, by kernel_rfl⟩, ⟨.inl ⟨ZaO.sound, by kernel_rfl⟩, trivial⟩⟩ rfl trivial (by kernel_rfl) (by kernel_rfl)) Try.func106 (by kernel_rfl) (by kernel_rfl) (by kernel_rfl) Zan.lp (l := [(true, sub [1, 1, 1, 1, 1, 0, 1, 0, 0] Zan.body, Zan.nml6)]) (by kernel_rfl) (fun n => ⟨Zan.atl6 n, trivial⟩) (fun n x => by kernel_rfl)
noncomputable def Zbb (fu : Nat) (b : List Int) (sv : List Int) : Option (((List Int) × Unit) × (Unit)) :=
 let t1 := IntKind.u64.wrap (sv.length : Int)
 (ZaH fu b t1).bind fun r2 =>
 chk (apOk r2.1.1 sv 1) <|
 some ((r2.1.1 ++ sv, ()), (()))
noncomputable def Zbb.body : Code := Try.f107.body.getD .skip
noncomputable def Zbb.con : OCon := { ps := [.dat (.slice (.int .u8)), .dat .str], rs := [.own (.int .u8)], f := fun n x => Zbb n x.1 x.2.1 }
abbrev Zbb.R : Type := (RT Zbb.con.rs × BT Zbb.con.ps)
noncomputable def Zbb.env : Env := { tys := [(38, ⟨(.slice (.int .u8)), 24⟩), (9, ⟨.str, 16⟩), (51, ⟨(.int .u64), 8⟩), (3, ⟨(.int .i64), 8⟩), (5, ⟨(.int .u8), 1⟩)], elems := [(38, 5)], ptrs := [], cons := [], objs := [(62, [ZaH.con])], loops := [], cuts := [], globs := globs, base := 0 }
noncomputable def Zbb.lp (n : Nat) : LP Zbb.R := fun lo κ body nm K s =>
 loops n Zbb.R lo κ body nm K s
theorem Zbb.sound : ZbP Try.prog globs 107 Zbb.con :=
 Zbl (E := Zbb.env) (c := Zbb.body) (Zbk (G := globs) (lc := []) (lo := [(62, [ZaH.con])]) (ZaA (by kernel_rfl)) rfl rfl trivial rfl ⟨⟨⟨ZaH.sound, trivial⟩, by kernel_rfl⟩, trivial⟩ (by kernel_rfl) (by kernel_rfl)) Try.func107 (by kernel_rfl) (by kernel_rfl) (by kernel_rfl) Zbb.lp (l := []) (by kernel_rfl) (fun n => trivial) (fun n x => by kernel_rfl)
noncomputable def ZbV (fu : Nat) (b : List Int) (v : S1) : Option (((List Int) × Int × Unit) × (Unit)) :=
 (Zam fu v).bind fun r1 =>
 cond (!r1.1) (
  some (([], (1 : Int), ()), (()))) (
  chk (apOk [] b 1) <|
  chk (apOk ([] ++ b) ([v.1]) 1) <|
  cond (v.1 == (1 : Int)) (
   (Zbg fu (([] ++ b) ++ ([v.1])) v.2.1).bind fun r2 =>
   some ((r2.1.1, (0 : Int), ()), (()))) (
   cond (v.1 == (2 : Int)) (
    (Zan fu (([] ++ b) ++ ([v.1])) v.2.2.1).bind fun r3 =>
    some ((r3.1.1, (0 : Int), ()), (()))) (
    cond (v.1 == (3 : Int)) (
     (Zbb fu (([] ++ b) ++ ([v.1])) v.2.2.2.1).bind fun r4 =>
     some ((r4.1.1, (0 : Int), ()), (()))) (
     some ((([] ++ b) ++ ([v.1]), (0 : Int), ()), (()))))))
noncomputable def ZbV.body : Code := Try.f56.body.getD .skip
noncomputable def ZbV.con : OCon := { ps := [.dat (.slice (.int .u8)), .dat kS1], rs := [.own (.int .u8), .dat (.int .i64)], f := fun n x => ZbV n x.1 x.2.1 }
abbrev ZbV.R : Type := (RT ZbV.con.rs × BT ZbV.con.ps)
noncomputable def ZbV.env : Env := { tys := [(34, ⟨kS1, 40⟩), (38, ⟨(.slice (.int .u8)), 24⟩), (3, ⟨(.int .i64), 8⟩), (5, ⟨(.int .u8), 1⟩), (2, ⟨(.int .i64), 8⟩), (32, ⟨.flt, 8⟩), (9, ⟨.str, 16⟩)], elems := [(38, 5)], ptrs := [], cons := [(60, Zam.con)], objs := [(105, [Zbg.con]), (106, [Zan.con]), (107, [Zbb.con])], loops := [], cuts := [], globs := globs, base := 0 }
noncomputable def ZbV.lp (n : Nat) : LP ZbV.R := fun lo κ body nm K s =>
 loops n ZbV.R lo κ body nm K s
theorem ZbV.sound : ZbP Try.prog globs 56 ZbV.con :=
 Zbl (E := ZbV.env) (c := ZbV.body) (Zbk (G := globs) (lc := [(60, Zam.con)]) (lo := [(105, [Zbg.con]), (106, [Zan.con]), (107, [Zbb.con])]) (ZaA (by kernel_rfl)) rfl rfl ⟨.inl ⟨Zam.sound, by kernel_rfl⟩, trivial⟩ rfl ⟨⟨⟨Zbg.sound, trivial⟩, by kernel_rfl⟩, ⟨⟨⟨Zan.sound, trivial⟩, by kernel_rfl⟩, ⟨⟨⟨Zbb.sound, trivial⟩, by kernel_rfl⟩, trivial⟩⟩⟩ (by kernel_rfl) (by kernel_rfl)) Try.func56 (by kernel_rfl) (by kernel_rfl) (by kernel_rfl) ZbV.lp (l := []) (by kernel_rfl) (fun n => trivial) (fun n x => by kernel_rfl)
noncomputable def Zaw.b9 (fu : Nat) (next : (List Int) → Int → Int → S3 → Option (((List Int) × Int × Unit) × (Unit))) (k2 : (List Int) → Option (((List Int) × Int × Unit) × (Unit))) (out : List Int) (v : Int) (vx2 : Int) (b0 : S3) : Option (((List Int) × Int × Unit) × (Unit)) :=
 cond (decide (vx2 < v)) (
  chk (ixOk b0.2.2.1 vx2) <|
  let e1 := ixL ((0 : Int), (0 : Int), ((0 : Int), (0 : Int), (0 : Nat), [], ()), ()) b0.2.2.1 vx2
  chk (ixOk b0.2.2.1 vx2) <|
  let e2 := ixL ((0 : Int), (0 : Int), ((0 : Int), (0 : Int), (0 : Nat), [], ()), ()) b0.2.2.1 vx2
  chk (apOk out ([e1.1, e2.2.1]) 1) <|
  chk (ixOk b0.2.2.1 vx2) <|
  let e3 := ixL ((0 : Int), (0 : Int), ((0 : Int), (0 : Int), (0 : Nat), [], ()), ()) b0.2.2.1 vx2
  (ZbV fu (out ++ ([e1.1, e2.2.1])) e3.2.2.1).bind fun r4 =>
  let t5 := IntKind.i64.wrap (vx2 + (1 : Int))
  next r4.1.1 v t5 b0) (
  k2 out)
noncomputable def Zaw.l9 (fu : Nat) (k2 : (List Int) → Option (((List Int) × Int × Unit) × (Unit))) : Nat → (List Int) → Int → Int → S3 → Option (((List Int) × Int × Unit) × (Unit))
 | 0, _, _, _, _ => none
 | m + 1, out, v, vx2, b0 => Zaw.b9 fu (Zaw.l9 fu k2 m) k2 out v vx2 b0
noncomputable def Zaw.j8 (fu : Nat) (k1 : (List Int) → Int → Option (((List Int) × Int × Unit) × (Unit))) (out : List Int) (b0 : S3) : Option (((List Int) × Int × Unit) × (Unit)) :=
 Zaw.l9 fu (fun outq4 =>
   k1 outq4 (0 : Int)) fu out (b0.2.2.1.length : Int) (0 : Int) b0
noncomputable def Zaw (fu : Nat) (b : List Int) (p : S3) : Option (((List Int) × Int × Unit) × (Unit)) :=
 (ZaJ fu p).bind fun r1 =>
 cond (!r1.1) (
  some (([], (1 : Int), ()), (()))) (
  chk (apOk [] b 1) <|
  cond p.1 (
   let t2 := IntKind.i64.wrap ((16 : Int) * (p.2.2.1.length : Int))
   let t3 := IntKind.i64.wrap (t2 + (1 : Int))
   chk (apOk ([] ++ b) ([IntKind.u8.wrap t3]) 1) <|
   let t4 := ([] ++ b) ++ ([IntKind.u8.wrap t3])
   Zaw.j8 fu (fun vq1 vq1x2 =>
     some ((vq1, vq1x2, ()), (()))) t4 p) (
   let t5 := IntKind.i64.wrap ((16 : Int) * (p.2.2.1.length : Int))
   let t6 := [IntKind.u8.wrap t5, p.2.1]
   chk (apOk ([] ++ b) t6 1) <|
   Zaw.j8 fu (fun vq2 vq2x2 =>
     some ((vq2, vq2x2, ()), (()))) (([] ++ b) ++ t6) p))
noncomputable def Zaw.body : Code := Try.f123.body.getD .skip
abbrev Zaw.shl9 : Shp := ⟨us 3 (.p 0 0 :: .u :: .u :: .o 6 (.int .u8) :: us 34 (.d (.int .i64) :: .d (.int .i64) :: us 31 [])), [.c [.g kS3]]⟩
abbrev Zaw.outl9e2 : Shp := ⟨us 6 (.o 6 (.int .u8) :: us 67 []), []⟩
noncomputable def Zaw.nml9 : Norm := ⟨Zaw.shl9.cut [], [(2, Zaw.outl9e2.cut [])]⟩
abbrev Zaw.shj8 : Shp := ⟨us 3 (.p 0 0 :: .u :: .u :: .o 6 (.int .u8) :: us 67 []), [.c [.g kS3]]⟩
abbrev Zaw.outj8e1 : Shp := ⟨us 4 (.o 4 (.int .u8) :: .d (.int .i64) :: us 68 []), []⟩
noncomputable def Zaw.nmj8 : Norm := ⟨Zaw.shj8.cut [], [(1, Zaw.outj8e1.cut [])]⟩
noncomputable def Zaw.con : OCon := { ps := [.dat (.slice (.int .u8)), .dat kS3], rs := [.own (.int .u8), .dat (.int .i64)], f := fun n x => Zaw n x.1 x.2.1 }
abbrev Zaw.R : Type := (RT Zaw.con.rs × BT Zaw.con.ps)
noncomputable def Zaw.env : Env := { tys := [(75, ⟨kS3, 32⟩), (38, ⟨(.slice (.int .u8)), 24⟩), (3, ⟨(.int .i64), 8⟩), (5, ⟨(.int .u8), 1⟩), (4, ⟨.bool, 1⟩), (73, ⟨(.slice kS2), 24⟩), (88, ⟨kS2, 48⟩), (34, ⟨kS1, 40⟩)], elems := [(38, 5), (73, 88)], ptrs := [], cons := [(69, ZaJ.con)], objs := [(56, [ZbV.con])], loops := [(9, Zaw.nml9)], cuts := [(8, Zaw.nmj8)], globs := globs, base := 0 }
noncomputable def Zaw.cl9 (n : Nat) (K : Ex → St → Option Zaw.R) (m : Nat) (v : Zaw.shl9.T) : Option Zaw.R := Zaw.l9 n (fun w0 => K (.exit 0) (Zaw.outl9e2.enc (w0, ()))) m v.1 v.2.1 v.2.2.1 v.2.2.2.1
noncomputable def Zaw.cj8 (n : Nat) (K : Ex → St → Option Zaw.R) (v : Zaw.shj8.T) : Option Zaw.R := Zaw.j8 n (fun w0 w1 => K .ret (Zaw.outj8e1.enc (w0, w1, ()))) v.1 v.2.1
noncomputable def Zaw.lp (n : Nat) : LP Zaw.R := fun lo κ body nm K s =>
 cond (lo && Nat.beq κ 9) (pc Zaw.shl9 (Zaw.cl9 n K n) (loops n Zaw.R lo κ body nm K) s) <|
  cond (!lo && Nat.beq κ 8) (pc Zaw.shj8 (Zaw.cj8 n K) (loops n Zaw.R lo κ body nm K) s) <|
  loops n Zaw.R lo κ body nm K s
noncomputable def Zaw.tl9 (n : Nat) := evK (β := Zaw.R) Zaw.env (Zaw.lp n) n (sub [1, 1, 1, 1, 1, 0, 1, 0, 0] Zaw.body)
theorem Zaw.atl9 (n : Nat) : At n (Zaw.lp n) true 9 (Zaw.tl9 n) Zaw.nml9 := fun s K =>
 ZbR (sh := Zaw.shl9) (F := (Zaw.cl9 n K n)) (B := loops n _ true 9 (Zaw.tl9 n) Zaw.nml9 K) (fun v => (Zbc (sh := Zaw.shl9) (body := (Zaw.tl9 n)) (nm := Zaw.nml9) (b := fun nx v => Zaw.b9 n (fun x0 x1 x2 x3 => nx (x0, x1, x2, x3, ())) (fun w0 => K (.exit 0) (Zaw.outl9e2.enc (w0, ()))) v.1 v.2.1 v.2.2.1 v.2.2.2.1) (l := (Zaw.cl9 n K)) (fun _ => rfl) (fun _ _ => rfl) (fun m v => by kernel_rfl) n v).symm) s
noncomputable def Zaw.tj8 (n : Nat) := evK (β := Zaw.R) Zaw.env (Zaw.lp n) n (sub [1, 1, 1, 1, 1] Zaw.body)
theorem Zaw.atj8 (n : Nat) : At n (Zaw.lp n) false 8 (Zaw.tj8 n) Zaw.nmj8 := fun s K =>
 ZbR (sh := Zaw.shj8) (F := (Zaw.cj8 n K)) (B := loops n _ false 8 (Zaw.tj8 n) Zaw.nmj8 K) (fun v => by kernel_rfl) s
theorem Zaw.sound : ZbP Try.prog globs 123 Zaw.con :=
 Zbl (E := Zaw.env) (c := Zaw.body) (Zbk (G := globs) (lc := [(69, ZaJ.con)]) (lo := [(56, [ZbV.con])]) (ZaA (by kernel_rfl)) rfl rfl ⟨.inl ⟨ZaJ.sound, by kernel_rfl⟩, trivial⟩ rfl ⟨⟨⟨ZbV.sound, trivial⟩, by kernel_rfl⟩, trivial⟩ (by kernel_rfl) (by kernel_rfl)) Try.func123 (by kernel_rfl) (by kernel_rfl) (by kernel_rfl) Zaw.lp (l := [(true, sub [1, 1, 1, 1, 1, 0, 1, 0, 0] Zaw.body, Zaw.nml9), (false, sub [1, 1, 1, 1, 1] Zaw.body, Zaw.nmj8)]) (by kernel_rfl) (fun n => ⟨Zaw.atl9 n, ⟨Zaw.atj8 n, trivial⟩⟩) (fun n x => by kernel_rfl)
noncomputable def Zac.b14 (fu : Nat) (Sref13Write : (List Int) → (Tr S6) → Option (((List Int) × Unit) × (Unit))) (next : (List Int) → Int → Int → Int → Bool → Int → (List S2) → Bool → Bool → Int → (List S2) → Int → Int → Int → (List (Tr S6)) → Option (((List Int) × Unit) × (Unit))) (k3 : (List Int) → Option (((List Int) × Unit) × (Unit))) (b : List Int) (v : Int) (vx2 : Int) (c0 : Int) (c0x2 : Bool) (c0x3 : Int) (c0x4 : List S2) (c0x5 : Bool) (c0x6 : Bool) (c0x7 : Int) (c0x8 : List S2) (c0x9 : Int) (c0x10 : Int) (c0x11 : Int) (c0x12 : List (Tr S6)) : Option (((List Int) × Unit) × (Unit)) :=
 cond (decide (vx2 < v)) (
  chk (ixOk c0x12 vx2) <|
  let e1 := ixL (Tr.mk ((0 : Int), (false, (0 : Int), [], ()), false, (false, (0 : Int), [], ()), (0 : Int), (0 : Int), (0 : Int), ()) []) c0x12 vx2
  (Sref13Write b e1).bind fun r2 =>
  let t3 := IntKind.i64.wrap (vx2 + (1 : Int))
  next r2.1.1 v t3 c0 c0x2 c0x3 c0x4 c0x5 c0x6 c0x7 c0x8 c0x9 c0x10 c0x11 c0x12) (
  k3 b)
noncomputable def Zac.l14 (fu : Nat) (Sref13Write : (List Int) → (Tr S6) → Option (((List Int) × Unit) × (Unit))) (k3 : (List Int) → Option (((List Int) × Unit) × (Unit))) : Nat → (List Int) → Int → Int → Int → Bool → Int → (List S2) → Bool → Bool → Int → (List S2) → Int → Int → Int → (List (Tr S6)) → Option (((List Int) × Unit) × (Unit))
 | 0, _, _, _, _, _, _, _, _, _, _, _, _, _, _, _ => none
 | m + 1, b, v, vx2, c0, c0x2, c0x3, c0x4, c0x5, c0x6, c0x7, c0x8, c0x9, c0x10, c0x11, c0x12 => Zac.b14 fu Sref13Write (Zac.l14 fu Sref13Write k3 m) k3 b v vx2 c0 c0x2 c0x3 c0x4 c0x5 c0x6 c0x7 c0x8 c0x9 c0x10 c0x11 c0x12
noncomputable def Zac.j13 (fu : Nat) (Sref13Write : (List Int) → (Tr S6) → Option (((List Int) × Unit) × (Unit))) (k1 : (List Int) → Option (((List Int) × Unit) × (Unit))) (b : List Int) (c0 : Int) (c0x2 : Bool) (c0x3 : Int) (c0x4 : List S2) (c0x5 : Bool) (c0x6 : Bool) (c0x7 : Int) (c0x8 : List S2) (c0x9 : Int) (c0x10 : Int) (c0x11 : Int) (c0x12 : List (Tr S6)) : Option (((List Int) × Unit) × (Unit)) :=
 Zac.l14 fu Sref13Write (fun bq4 =>
   k1 bq4) fu b (c0x12.length : Int) (0 : Int) c0 c0x2 c0x3 c0x4 c0x5 c0x6 c0x7 c0x8 c0x9 c0x10 c0x11 c0x12
noncomputable def Zac.j11 (fu : Nat) (Sref13Write : (List Int) → (Tr S6) → Option (((List Int) × Unit) × (Unit))) (k1 : (List Int) → Option (((List Int) × Unit) × (Unit))) (b : List Int) (c0 : Int) (c0x2 : Bool) (c0x3 : Int) (c0x4 : List S2) (c0x5 : Bool) (c0x6 : Bool) (c0x7 : Int) (c0x8 : List S2) (c0x9 : Int) (c0x10 : Int) (c0x11 : Int) (c0x12 : List (Tr S6)) (b1 : S6) : Option (((List Int) × Unit) × (Unit)) :=
 cond b1.2.2.1 (
  (Zaw fu b b1.2.2.2.1).bind fun r1 =>
  Zac.j13 fu Sref13Write (fun vq5 =>
    k1 vq5) r1.1.1 c0 c0x2 c0x3 c0x4 c0x5 c0x6 c0x7 c0x8 c0x9 c0x10 c0x11 c0x12) (
  Zac.j13 fu Sref13Write (fun vq6 =>
    k1 vq6) b c0 c0x2 c0x3 c0x4 c0x5 c0x6 c0x7 c0x8 c0x9 c0x10 c0x11 c0x12)
noncomputable def Zac.j5 (fu : Nat) (Sref13Write : (List Int) → (Tr S6) → Option (((List Int) × Unit) × (Unit))) (k1 : (List Int) → Option (((List Int) × Unit) × (Unit))) (b : List Int) (c0 : Int) (c0x2 : Bool) (c0x3 : Int) (c0x4 : List S2) (c0x5 : Bool) (c0x6 : Bool) (c0x7 : Int) (c0x8 : List S2) (c0x9 : Int) (c0x10 : Int) (c0x11 : Int) (c0x12 : List (Tr S6)) (b1 : S6) : Option (((List Int) × Unit) × (Unit)) :=
 cond (b1.1 == (1 : Int)) (
  (Zaw fu b b1.2.1).bind fun r1 =>
  Zac.j11 fu Sref13Write (fun vq7 =>
    k1 vq7) r1.1.1 c0 c0x2 c0x3 c0x4 c0x5 c0x6 c0x7 c0x8 c0x9 c0x10 c0x11 c0x12 b1) (
  cond (b1.1 == (4 : Int)) (
   let t2 := [b1.2.2.2.2.1, b1.2.2.2.2.2.1]
   chk (apOk b t2 1) <|
   Zac.j11 fu Sref13Write (fun vq8 =>
     k1 vq8) (b ++ t2) c0 c0x2 c0x3 c0x4 c0x5 c0x6 c0x7 c0x8 c0x9 c0x10 c0x11 c0x12 b1) (
   let t3 := IntKind.u8.wrap (c0x12.length : Int)
   chk (apOk b ([t3]) 1) <|
   Zac.j11 fu Sref13Write (fun vq9 =>
     k1 vq9) (b ++ ([t3])) c0 c0x2 c0x3 c0x4 c0x5 c0x6 c0x7 c0x8 c0x9 c0x10 c0x11 c0x12 b1))
noncomputable def Zac.bd (fu : Nat) (Sref13Write : (List Int) → (Tr S6) → Option (((List Int) × Unit) × (Unit))) (b : List Int) (tv : Tr S6) : Option (((List Int) × Unit) × (Unit)) :=
 cond tv.val.2.2.1 (
  let t1 := IntKind.u8.wrap (tv.val.1 + (16 : Int))
  chk (apOk b ([t1]) 1) <|
  Zac.j5 fu Sref13Write (fun vq1 =>
    some ((vq1, ()), (()))) (b ++ ([t1])) tv.val.1 tv.val.2.1.1 tv.val.2.1.2.1 tv.val.2.1.2.2.1 tv.val.2.2.1 tv.val.2.2.2.1.1 tv.val.2.2.2.1.2.1 tv.val.2.2.2.1.2.2.1 tv.val.2.2.2.2.1 tv.val.2.2.2.2.2.1 tv.val.2.2.2.2.2.2.1 tv.sub tv.val) (
  chk (apOk b ([tv.val.1]) 1) <|
  Zac.j5 fu Sref13Write (fun vq2 =>
    some ((vq2, ()), (()))) (b ++ ([tv.val.1])) tv.val.1 tv.val.2.1.1 tv.val.2.1.2.1 tv.val.2.1.2.2.1 tv.val.2.2.1 tv.val.2.2.2.1.1 tv.val.2.2.2.1.2.1 tv.val.2.2.2.1.2.2.1 tv.val.2.2.2.2.1 tv.val.2.2.2.2.2.1 tv.val.2.2.2.2.2.2.1 tv.sub tv.val)
noncomputable def Zac (fu : Nat) (m : Nat) : (List Int) → (Tr S6) → Option (((List Int) × Unit) × (Unit)) :=
 Nat.rec (fun _ _ => none) (fun _ Sref13Write => Zac.bd fu Sref13Write) m
noncomputable def Zac.conM (m : Nat) : OCon := { ps := [.own (.int .u8), .dat (.tre kS6)], rs := [.own (.int .u8)], f := fun n x => Zac n m x.1 x.2.1 }
noncomputable def Zac.con : OCon := { ps := [.own (.int .u8), .dat (.tre kS6)], rs := [.own (.int .u8)], f := fun n x => Zac n n x.1 x.2.1 }
noncomputable def Zac.body : Code := Try.f86.body.getD .skip
abbrev Zac.shl14 : Shp := ⟨.o 0 (.int .u8) :: .u :: .u :: .p 0 0 :: us 56 (.d (.int .i64) :: .d (.int .i64) :: us 11 []), [.c [.d (.int .u8), .d .bool, .d (.int .u8), .d (.slice kS2), .d .bool, .d .bool, .d (.int .u8), .d (.slice kS2), .d (.int .u8), .d (.int .u8), .d (.int .i64), .d (.slice (.tre kS6))]]⟩
abbrev Zac.outl14e3 : Shp := ⟨.o 0 (.int .u8) :: us 72 [], []⟩
noncomputable def Zac.nml14 : Norm := ⟨Zac.shl14.cut [], [(3, Zac.outl14e3.cut [])]⟩
abbrev Zac.shj13 : Shp := ⟨.o 0 (.int .u8) :: .u :: .u :: .p 0 0 :: us 69 [], [.c [.d (.int .u8), .d .bool, .d (.int .u8), .d (.slice kS2), .d .bool, .d .bool, .d (.int .u8), .d (.slice kS2), .d (.int .u8), .d (.int .u8), .d (.int .i64), .d (.slice (.tre kS6))]]⟩
abbrev Zac.outj13e1 : Shp := ⟨us 4 (.o 4 (.int .u8) :: us 68 []), []⟩
noncomputable def Zac.nmj13 : Norm := ⟨Zac.shj13.cut [], [(1, Zac.outj13e1.cut [])]⟩
abbrev Zac.shj11 : Shp := ⟨.o 0 (.int .u8) :: .u :: .u :: .p 0 0 :: .u :: .p 1 0 :: us 67 [], [.c [.d (.int .u8), .d .bool, .d (.int .u8), .d (.slice kS2), .d .bool, .d .bool, .d (.int .u8), .d (.slice kS2), .d (.int .u8), .d (.int .u8), .d (.int .i64), .d (.slice (.tre kS6))], .c [.g kS6]]⟩
abbrev Zac.outj11e1 : Shp := ⟨us 4 (.o 4 (.int .u8) :: us 68 []), []⟩
noncomputable def Zac.nmj11 : Norm := ⟨Zac.shj11.cut [], [(1, Zac.outj11e1.cut [])]⟩
abbrev Zac.shj5 : Shp := ⟨.o 0 (.int .u8) :: .u :: .u :: .p 0 0 :: .u :: .p 1 0 :: us 67 [], [.c [.d (.int .u8), .d .bool, .d (.int .u8), .d (.slice kS2), .d .bool, .d .bool, .d (.int .u8), .d (.slice kS2), .d (.int .u8), .d (.int .u8), .d (.int .i64), .d (.slice (.tre kS6))], .c [.g kS6]]⟩
abbrev Zac.outj5e1 : Shp := ⟨us 4 (.o 4 (.int .u8) :: us 68 []), []⟩
noncomputable def Zac.nmj5 : Norm := ⟨Zac.shj5.cut [], [(1, Zac.outj5e1.cut [])]⟩
abbrev Zac.R (mref13Write : Nat) : Type := (RT (Zac.conM (Nat.succ mref13Write)).rs × BT (Zac.conM (Nat.succ mref13Write)).ps)
noncomputable def Zac.env (mref13Write : Nat) : Env := { tys := [(80, ⟨(.tre kS6), 120⟩), (38, ⟨(.slice (.int .u8)), 24⟩), (77, ⟨kS6, 96⟩), (4, ⟨.bool, 1⟩), (5, ⟨(.int .u8), 1⟩), (75, ⟨kS3, 32⟩), (78, ⟨(.slice (.tre kS6)), 24⟩), (3, ⟨(.int .i64), 8⟩)], elems := [(38, 5), (78, 80)], ptrs := [], cons := [], objs := [(86, [(Zac.conM mref13Write)]), (123, [Zaw.con])], loops := [(14, Zac.nml14)], cuts := [(13, Zac.nmj13), (11, Zac.nmj11), (5, Zac.nmj5)], globs := globs, base := 0 }
noncomputable def Zac.cl14 (mref13Write : Nat) (n : Nat) (K : Ex → St → Option (Zac.R mref13Write)) (m : Nat) (v : Zac.shl14.T) : Option (Zac.R mref13Write) := Zac.l14 n (Zac n mref13Write) (fun w0 => K (.exit 1) (Zac.outl14e3.enc (w0, ()))) m v.1 v.2.1 v.2.2.1 v.2.2.2.1 v.2.2.2.2.1 v.2.2.2.2.2.1 v.2.2.2.2.2.2.1 v.2.2.2.2.2.2.2.1 v.2.2.2.2.2.2.2.2.1 v.2.2.2.2.2.2.2.2.2.1 v.2.2.2.2.2.2.2.2.2.2.1 v.2.2.2.2.2.2.2.2.2.2.2.1 v.2.2.2.2.2.2.2.2.2.2.2.2.1 v.2.2.2.2.2.2.2.2.2.2.2.2.2.1 v.2.2.2.2.2.2.2.2.2.2.2.2.2.2.1
noncomputable def Zac.cj13 (mref13Write : Nat) (n : Nat) (K : Ex → St → Option (Zac.R mref13Write)) (v : Zac.shj13.T) : Option (Zac.R mref13Write) := Zac.j13 n (Zac n mref13Write) (fun w0 => K .ret (Zac.outj13e1.enc (w0, ()))) v.1 v.2.1 v.2.2.1 v.2.2.2.1 v.2.2.2.2.1 v.2.2.2.2.2.1 v.2.2.2.2.2.2.1 v.2.2.2.2.2.2.2.1 v.2.2.2.2.2.2.2.2.1 v.2.2.2.2.2.2.2.2.2.1 v.2.2.2.2.2.2.2.2.2.2.1 v.2.2.2.2.2.2.2.2.2.2.2.1 v.2.2.2.2.2.2.2.2.2.2.2.2.1
noncomputable def Zac.cj11 (mref13Write : Nat) (n : Nat) (K : Ex → St → Option (Zac.R mref13Write)) (v : Zac.shj11.T) : Option (Zac.R mref13Write) := Zac.j11 n (Zac n mref13Write) (fun w0 => K .ret (Zac.outj11e1.enc (w0, ()))) v.1 v.2.1 v.2.2.1 v.2.2.2.1 v.2.2.2.2.1 v.2.2.2.2.2.1 v.2.2.2.2.2.2.1 v.2.2.2.2.2.2.2.1 v.2.2.2.2.2.2.2.2.1 v.2.2.2.2.2.2.2.2.2.1 v.2.2.2.2.2.2.2.2.2.2.1 v.2.2.2.2.2.2.2.2.2.2.2.1 v.2.2.2.2.2.2.2.2.2.2.2.2.1 v.2.2.2.2.2.2.2.2.2.2.2.2.2.1
noncomputable def Zac.cj5 (mref13Write : Nat) (n : Nat) (K : Ex → St → Option (Zac.R mref13Write)) (v : Zac.shj5.T) : Option (Zac.R mref13Write) := Zac.j5 n (Zac n mref13Write) (fun w0 => K .ret (Zac.outj5e1.enc (w0, ()))) v.1 v.2.1 v.2.2.1 v.2.2.2.1 v.2.2.2.2.1 v.2.2.2.2.2.1 v.2.2.2.2.2.2.1 v.2.2.2.2.2.2.2.1 v.2.2.2.2.2.2.2.2.1 v.2.2.2.2.2.2.2.2.2.1 v.2.2.2.2.2.2.2.2.2.2.1 v.2.2.2.2.2.2.2.2.2.2.2.1 v.2.2.2.2.2.2.2.2.2.2.2.2.1 v.2.2.2.2.2.2.2.2.2.2.2.2.2.1
noncomputable def Zac.lp (mref13Write : Nat) (n : Nat) : LP (Zac.R mref13Write) := fun lo κ body nm K s =>
 cond (lo && Nat.beq κ 14) (pc Zac.shl14 (Zac.cl14 mref13Write n K n) (loops n (Zac.R mref13Write) lo κ body nm K) s) <|
  cond (!lo && Nat.beq κ 13) (pc Zac.shj13 (Zac.cj13 mref13Write n K) (loops n (Zac.R mref13Write) lo κ body nm K) s) <|
  cond (!lo && Nat.beq κ 11) (pc Zac.shj11 (Zac.cj11 mref13Write n K) (loops n (Zac.R mref13Write) lo κ body nm K) s) <|
  cond (!lo && Nat.beq κ 5) (pc Zac.shj5 (Zac.cj5 mref13Write n K) (loops n (Zac.R mref13Write) lo κ body nm K) s) <|
  loops n (Zac.R mref13Write) lo κ body nm K s
noncomputable def Zac.tl14 (mref13Write : Nat) (n : Nat) := evK (β := (Zac.R mref13Write)) (Zac.env mref13Write) (Zac.lp mref13Write n) n (sub [1, 1, 1, 1, 1, 0, 1, 0, 0] Zac.body)
theorem Zac.atl14 (mref13Write : Nat) (n : Nat) : At n (Zac.lp mref13Write n) true 14 (Zac.tl14 mref13Write n) Zac.nml14 := fun s K =>
 ZbR (sh := Zac.shl14) (F := (Zac.cl14 mref13Write n K n)) (B := loops n _ true 14 (Zac.tl14 mref13Write n) Zac.nml14 K) (fun v => (Zbc (sh := Zac.shl14) (body := (Zac.tl14 mref13Write n)) (nm := Zac.nml14) (b := fun nx v => Zac.b14 n (Zac n mref13Write) (fun x0 x1 x2 x3 x4 x5 x6 x7 x8 x9 x10 x11 x12 x13 x14 => nx (x0, x1, x2, x3, x4, x5, x6, x7, x8, x9, x10, x11, x12, x13, x14, ())) (fun w0 => K (.exit 1) (Zac.outl14e3.enc (w0, ()))) v.1 v.2.1 v.2.2.1 v.2.2.2.1 v.2.2.2.2.1 v.2.2.2.2.2.1 v.2.2.2.2.2.2.1 v.2.2.2.2.2.2.2.1 v.2.2.2.2.2.2.2.2.1 v.2.2.2.2.2.2.2.2.2.1 v.2.2.2.2.2.2.2.2.2.2.1 v.2.2.2.2.2.2.2.2.2.2.2.1 v.2.2.2.2.2.2.2.2.2.2.2.2.1 v.2.2.2.2.2.2.2.2.2.2.2.2.2.1 v.2.2.2.2.2.2.2.2.2.2.2.2.2.2.1) (l := (Zac.cl14 mref13Write n K)) (fun _ => rfl) (fun _ _ => rfl) (fun m v => by kernel_rfl) n v).symm) s
noncomputable def Zac.tj13 (mref13Write : Nat) (n : Nat) := evK (β := (Zac.R mref13Write)) (Zac.env mref13Write) (Zac.lp mref13Write n) n (sub [1, 1, 1, 1, 1] Zac.body)
theorem Zac.atj13 (mref13Write : Nat) (n : Nat) : At n (Zac.lp mref13Write n) false 13 (Zac.tj13 mref13Write n) Zac.nmj13 := fun s K =>
 ZbR (sh := Zac.shj13) (F := (Zac.cj13 mref13Write n K)) (B := loops n _ false 13 (Zac.tj13 mref13Write n) Zac.nmj13 K) (fun v => by kernel_rfl) s
noncomputable def Zac.tj11 (mref13Write : Nat) (n : Nat) := evK (β := (Zac.R mref13Write)) (Zac.env mref13Write) (Zac.lp mref13Write n) n (sub [1, 1, 1, 1] Zac.body)
theorem Zac.atj11 (mref13Write : Nat) (n : Nat) : At n (Zac.lp mref13Write n) false 11 (Zac.tj11 mref13Write n) Zac.nmj11 := fun s K =>
 ZbR (sh := Zac.shj11) (F := (Zac.cj11 mref13Write n K)) (B := loops n _ false 11 (Zac.tj11 mref13Write n) Zac.nmj11 K) (fun v => by kernel_rfl) s
noncomputable def Zac.tj5 (mref13Write : Nat) (n : Nat) := evK (β := (Zac.R mref13Write)) (Zac.env mref13Write) (Zac.lp mref13Write n) n (sub [1, 1, 1] Zac.body)
theorem Zac.atj5 (mref13Write : Nat) (n : Nat) : At n (Zac.lp mref13Write n) false 5 (Zac.tj5 mref13Write n) Zac.nmj5 := fun s K =>
 ZbR (sh := Zac.shj5) (F := (Zac.cj5 mref13Write n K)) (B := loops n _ false 5 (Zac.tj5 mref13Write n) Zac.nmj5 K) (fun v => by kernel_rfl) s
theorem Zac.step (mref13Write : Nat) (ihref13Write : ZbP Try.prog globs 86 (Zac.conM mref13Write)) : ZbP Try.prog globs 86 (Zac.conM (Nat.succ mref13Write)) :=
 Zbl (E := (Zac.env mref13Write)) (c := Zac.body) (Zbk (G := globs) (lc := []) (lo := [(86, [(Zac.conM mref13Write)]), (123, [Zaw.con])]) (ZaA (by kernel_rfl)) rfl rfl trivial rfl ⟨⟨⟨ihref13Write, trivial⟩, by kernel_rfl⟩, ⟨⟨⟨Zaw.sound, trivial⟩, by kernel_rfl⟩, trivial⟩⟩ (by kernel_rfl) (by kernel_rfl)) Try.func86 (by kernel_rfl) (by kernel_rfl) (by kernel_rfl) (Zac.lp mref13Write) (l := [(true, sub [1, 1, 1, 1, 1, 0, 1, 0, 0] Zac.body, Zac.nml14), (false, sub [1, 1, 1, 1, 1] Zac.body, Zac.nmj13), (false, sub [1, 1, 1, 1] Zac.body, Zac.nmj11), (false, sub [1, 1, 1] Zac.body, Zac.nmj5)]) (by kernel_rfl) (fun n => ⟨Zac.atl14 mref13Write n, ⟨Zac.atj13 mref13Write n, ⟨Zac.atj11 mref13Write n, ⟨Zac.atj5 mref13Write n, trivial⟩⟩⟩⟩) (fun n x => by kernel_rfl)
theorem Zac.soundM (m : Nat) : ZbP Try.prog globs 86 (Zac.conM m) := by
 induction m with
 | zero => intro n x r h; cases (show none = some r from h)
 | succ m ih => exact Zac.step m ih
theorem Zac.sound : ZbP Try.prog globs 86 Zac.con :=
 ZiW (ps := [.own (.int .u8), .dat (.tre kS6)]) (rs := [.own (.int .u8)]) (F := fun n m x => Zac n m x.1 x.2.1) (Zac.soundM)
noncomputable def ZbM (fu : Nat) (p : S7) : Option ((List Int) × Int × Unit) :=
 (ZaI fu p).bind fun r1 =>
 cond (r1.1 != (0 : Int)) (
  some ([], r1.1, ())) (
  (Zbq fu p.1).bind fun r2 =>
  (ZaH fu [] p.2.1).bind fun r3 =>
  (Zac fu fu r3.1.1 (Tr.mk r2.1.val r2.1.sub)).bind fun r4 =>
  some (r4.1.1, (0 : Int), ()))
noncomputable def ZbM.body : Code := Try.f44.body.getD .skip
noncomputable def ZbM.con : Con := { ps := [kS7], rs := [(.slice (.int .u8)), (.int .i64)], f := fun n x => ZbM n x.1 }
abbrev ZbM.R : Type := (Kd.struct ZbM.con.rs).T
noncomputable def ZbM.env : Env := { tys := [(68, ⟨kS7, 32⟩), (38, ⟨(.slice (.int .u8)), 24⟩), (3, ⟨(.int .i64), 8⟩), (5, ⟨(.int .u8), 1⟩), (66, ⟨(.slice kS6), 24⟩), (80, ⟨(.tre kS6), 120⟩), (51, ⟨(.int .u64), 8⟩)], elems := [(38, 5)], ptrs := [], cons := [(32, ZaI.con), (36, Zbq.con)], objs := [(62, [ZaH.con]), (86, [Zac.con])], loops := [], cuts := [], globs := globs, base := 0 }
noncomputable def ZbM.lp (n : Nat) : LP ZbM.R := fun lo κ body nm K s =>
 loops n ZbM.R lo κ body nm K s
theorem ZbM.sound : Zbi Try.prog globs 44 ZbM.con :=
 ZaS (E := ZbM.env) (c := ZbM.body) (Zbk (G := globs) (lc := [(32, ZaI.con), (36, Zbq.con)]) (lo := [(62, [ZaH.con]), (86, [Zac.con])]) (ZaA (by kernel_rfl)) rfl rfl ⟨.inl ⟨ZaI.sound, by kernel_rfl⟩, ⟨.inl ⟨Zbq.sound, by kernel_rfl⟩, trivial⟩⟩ rfl ⟨⟨⟨ZaH.sound, trivial⟩, by kernel_rfl⟩, ⟨⟨⟨Zac.sound, trivial⟩, by kernel_rfl⟩, trivial⟩⟩ (by kernel_rfl) (by kernel_rfl)) Try.func44 (by kernel_rfl) ZbM.lp (l := []) (by kernel_rfl) (fun n => trivial) (fun n x => by kernel_rfl)
noncomputable def Zaq.j50013 (fu : Nat) (k1 : Int → Int → Int → Option (Int × Int × Int × Unit)) (atv : Int) (n : Int) (i : Int) (v : Bool) : Option (Int × Int × Int × Unit) :=
 cond v (
  k1 (0 : Int) (0 : Int) (2 : Int)) (
  let t1 := IntKind.i64.wrap (atv + i)
  let t2 := IntKind.i64.wrap (t1 + (1 : Int))
  k1 n t2 (0 : Int))
noncomputable def Zaq.j9 (fu : Nat) (k0 : Int → Int → (List Int) → Int → Int → Option (Int × Int × Int × Unit)) (k1 : Int → Int → Int → Option (Int × Int × Int × Unit)) (atv : Int) (n : Int) (i : Int) (c : Int) (v : List Int) (vx2 : Int) (vx3 : Int) : Option (Int × Int × Int × Unit) :=
 let t1 := IntKind.u64.wrap (bAnd .u8 c (127 : Int))
 let t2 := IntKind.i64.wrap ((7 : Int) * i)
 chk (!decide (t2 < 0)) <|
 let t3 := bOr .u64 n (sShl .u64 t1 t2)
 cond (decide (c ≥ (128 : Int))) (
  k0 atv t3 v vx2 vx3) (
  cond (c == (0 : Int)) (
   Zaq.j50013 fu (fun vq5 vq5x2 vq5x3 =>
     k1 vq5 vq5x2 vq5x3) atv t3 i (decide (i > (0 : Int)))) (
   Zaq.j50013 fu (fun vq6 vq6x2 vq6x3 =>
     k1 vq6 vq6x2 vq6x3) atv t3 i false))
noncomputable def Zaq.b5 (fu : Nat) (next : Int → Int → (List Int) → Int → Int → Option (Int × Int × Int × Unit)) (k1 : Int → Int → Int → Option (Int × Int × Int × Unit)) (k2 : Unit → Option (Int × Int × Int × Unit)) (atv : Int) (n : Int) (v : List Int) (vx2 : Int) (vx3 : Int) : Option (Int × Int × Int × Unit) :=
 cond (decide (vx3 < vx2)) (
  chk (ixOk v vx3) <|
  let e1 := ixL (0 : Int) v vx3
  cond (vx3 == (9 : Int)) (
   cond (decide (e1 > (1 : Int))) (
    k1 (0 : Int) (0 : Int) (4 : Int)) (
    Zaq.j9 fu (fun atvq11 nq11 vq11 vq11x2 vq11x3 =>
      let t2 := IntKind.i64.wrap (vq11x3 + (1 : Int))
      next atvq11 nq11 vq11 vq11x2 t2) (fun vq12 vq12x2 vq12x3 =>
      k1 vq12 vq12x2 vq12x3) atv n vx3 e1 v vx2 vx3)) (
   Zaq.j9 fu (fun atvq13 nq13 vq13 vq13x2 vq13x3 =>
     let t3 := IntKind.i64.wrap (vq13x3 + (1 : Int))
     next atvq13 nq13 vq13 vq13x2 t3) (fun vq14 vq14x2 vq14x3 =>
     k1 vq14 vq14x2 vq14x3) atv n vx3 e1 v vx2 vx3)) (
  k2 ())
noncomputable def Zaq.l5 (fu : Nat) (k1 : Int → Int → Int → Option (Int × Int × Int × Unit)) (k2 : Unit → Option (Int × Int × Int × Unit)) : Nat → Int → Int → (List Int) → Int → Int → Option (Int × Int × Int × Unit)
 | 0, _, _, _, _, _ => none
 | m + 1, atv, n, v, vx2, vx3 => Zaq.b5 fu (Zaq.l5 fu k1 k2 m) k1 k2 atv n v vx2 vx3
noncomputable def Zaq (fu : Nat) (b : List Int) (atv : Int) : Option (Int × Int × Int × Unit) :=
 cond (decide (atv < (0 : Int))) (
  some ((0 : Int), (0 : Int), (3 : Int), ())) (
  let t1 := decide (atv > (b.length : Int))
  cond t1 (
   some ((0 : Int), (0 : Int), (3 : Int), ())) (
   chk (ZfE b atv (b.length : Int)) <|
   let t2 := cutL b atv (b.length : Int)
   Zaq.l5 fu (fun vq3 vq3x2 vq3x3 =>
     some (vq3, vq3x2, vq3x3, ())) (fun (_ : Unit) =>
     some ((0 : Int), (0 : Int), (3 : Int), ())) fu atv (0 : Int) t2 (t2.length : Int) (0 : Int)))
noncomputable def Zaq.body : Code := Try.f87.body.getD .skip
abbrev Zaq.shj50013 : Shp := ⟨.u :: .d (.int .i64) :: us 5 (.d (.int .u64) :: .d (.int .i64) :: us 40 (.d .bool :: us 7 [])), []⟩
abbrev Zaq.outj50013e1 : Shp := ⟨us 4 (.d (.int .u64) :: .d (.int .i64) :: .d (.int .i64) :: us 50 []), []⟩
noncomputable def Zaq.nmj50013 : Norm := ⟨Zaq.shj50013.cut [], [(1, Zaq.outj50013e1.cut [])]⟩
abbrev Zaq.shj9 : Shp := ⟨.u :: .d (.int .i64) :: us 5 (.d (.int .u64) :: .d (.int .i64) :: .d (.int .u8) :: us 10 (.d (.slice (.int .u8)) :: .d (.int .i64) :: .d (.int .i64) :: us 34 [])), []⟩
abbrev Zaq.outj9e0 : Shp := ⟨.u :: .d (.int .i64) :: us 5 (.d (.int .u64) :: us 12 (.d (.slice (.int .u8)) :: .d (.int .i64) :: .d (.int .i64) :: us 34 [])), []⟩
abbrev Zaq.outj9e1 : Shp := ⟨us 4 (.d (.int .u64) :: .d (.int .i64) :: .d (.int .i64) :: us 50 []), []⟩
noncomputable def Zaq.nmj9 : Norm := ⟨Zaq.shj9.cut [], [(0, Zaq.outj9e0.cut []), (1, Zaq.outj9e1.cut [])]⟩
abbrev Zaq.shl5 : Shp := ⟨.u :: .d (.int .i64) :: us 5 (.d (.int .u64) :: us 12 (.d (.slice (.int .u8)) :: .d (.int .i64) :: .d (.int .i64) :: us 34 [])), []⟩
abbrev Zaq.outl5e1 : Shp := ⟨us 4 (.d (.int .u64) :: .d (.int .i64) :: .d (.int .i64) :: us 50 []), []⟩
abbrev Zaq.outl5e2 : Shp := ⟨us 57 [], []⟩
noncomputable def Zaq.nml5 : Norm := ⟨Zaq.shl5.cut [], [(1, Zaq.outl5e1.cut []), (2, Zaq.outl5e2.cut [])]⟩
noncomputable def Zaq.con : Con := { ps := [(.slice (.int .u8)), (.int .i64)], rs := [(.int .u64), (.int .i64), (.int .i64)], f := fun n x => Zaq n x.1 x.2.1 }
abbrev Zaq.R : Type := (Kd.struct Zaq.con.rs).T
noncomputable def Zaq.env : Env := { tys := [(51, ⟨(.int .u64), 8⟩), (3, ⟨(.int .i64), 8⟩), (39, ⟨(.int .i64), 8⟩), (4, ⟨.bool, 1⟩), (5, ⟨(.int .u8), 1⟩)], elems := [(38, 5)], ptrs := [], cons := [], objs := [], loops := [(5, Zaq.nml5)], cuts := [(50013, Zaq.nmj50013), (9, Zaq.nmj9)], globs := globs, base := 0 }
noncomputable def Zaq.cj50013 (n : Nat) (K : Ex → St → Option Zaq.R) (v : Zaq.shj50013.T) : Option Zaq.R := Zaq.j50013 n (fun w0 w1 w2 => K .ret (Zaq.outj50013e1.enc (w0, w1, w2, ()))) v.1 v.2.1 v.2.2.1 v.2.2.2.1
noncomputable def Zaq.cj9 (n : Nat) (K : Ex → St → Option Zaq.R) (v : Zaq.shj9.T) : Option Zaq.R := Zaq.j9 n (fun w0 w1 w2 w3 w4 => K .normal (Zaq.outj9e0.enc (w0, w1, w2, w3, w4, ()))) (fun w0 w1 w2 => K .ret (Zaq.outj9e1.enc (w0, w1, w2, ()))) v.1 v.2.1 v.2.2.1 v.2.2.2.1 v.2.2.2.2.1 v.2.2.2.2.2.1 v.2.2.2.2.2.2.1
noncomputable def Zaq.cl5 (n : Nat) (K : Ex → St → Option Zaq.R) (m : Nat) (v : Zaq.shl5.T) : Option Zaq.R := Zaq.l5 n (fun w0 w1 w2 => K .ret (Zaq.outl5e1.enc (w0, w1, w2, ()))) (fun _ => K (.exit 0) (Zaq.outl5e2.enc (()))) m v.1 v.2.1 v.2.2.1 v.2.2.2.1 v.2.2.2.2.1
noncomputable def Zaq.lp (n : Nat) : LP Zaq.R := fun lo κ body nm K s =>
 cond (!lo && Nat.beq κ 50013) (pc Zaq.shj50013 (Zaq.cj50013 n K) (loops n Zaq.R lo κ body nm K) s) <|
  cond (!lo && Nat.beq κ 9) (pc Zaq.shj9 (Zaq.cj9 n K) (loops n Zaq.R lo κ body nm K) s) <|
  cond (lo && Nat.beq κ 5) (pc Zaq.shl5 (Zaq.cl5 n K n) (loops n Zaq.R lo κ body nm K) s) <|
  loops n Zaq.R lo κ body nm K s
noncomputable def Zaq.tj50013 (n : Nat) := evK (β := Zaq.R) Zaq.env (Zaq.lp n) n (sub [1, 1, 1, 0, 1, 0, 0, 1, 1, 0, 0, 1, 1, 1, 0, 1, 1, 1] Zaq.body)
theorem Zaq.atj50013 (n : Nat) : At n (Zaq.lp n) false 50013 (Zaq.tj50013 n) Zaq.nmj50013 := fun s K =>
 ZbR (sh := Zaq.shj50013) (F := (Zaq.cj50013 n K)) (B := loops n _ false 50013 (Zaq.tj50013 n) Zaq.nmj50013 K) (fun v => by kernel_rfl) s
noncomputable def Zaq.tj9 (n : Nat) := evK (β := Zaq.R) Zaq.env (Zaq.lp n) n (sub [1, 1, 1, 0, 1, 0, 0, 1, 1, 0, 0, 1, 1] Zaq.body)
theorem Zaq.atj9 (n : Nat) : At n (Zaq.lp n) false 9 (Zaq.tj9 n) Zaq.nmj9 := fun s K =>
 ZbR (sh := Zaq.shj9) (F := (Zaq.cj9 n K)) (B := loops n _ false 9 (Zaq.tj9 n) Zaq.nmj9 K) (fun v => by kernel_rfl) s
noncomputable def Zaq.tl5 (n : Nat) := evK (β := Zaq.R) Zaq.env (Zaq.lp n) n (sub [1, 1, 1, 0, 1, 0, 0] Zaq.body)
theorem Zaq.atl5 (n : Nat) : At n (Zaq.lp n) true 5 (Zaq.tl5 n) Zaq.nml5 := fun s K =>
 ZbR (sh := Zaq.shl5) (F := (Zaq.cl5 n K n)) (B := loops n _ true 5 (Zaq.tl5 n) Zaq.nml5 K) (fun v => (Zbc (sh := Zaq.shl5) (body := (Zaq.tl5 n)) (nm := Zaq.nml5) (b := fun nx v => Zaq.b5 n (fun x0 x1 x2 x3 x4 => nx (x0, x1, x2, x3, x4, ())) (fun w0 w1 w2 => K .ret (Zaq.outl5e1.enc (w0, w1, w2, ()))) (fun _ => K (.exit 0) (Zaq.outl5e2.enc (()))) v.1 v.2.1 v.2.2.1 v.2.2.2.1 v.2.2.2.2.1) (l := (Zaq.cl5 n K)) (fun _ => rfl) (fun _ _ => rfl) (fun m v => by kernel_rfl) n v).symm) s
theorem Zaq.sound : Zbi Try.prog globs 87 Zaq.con :=
 ZaS (E := Zaq.env) (c := Zaq.body) (Zbk (G := globs) (lc := []) (lo := []) (ZaA (by kernel_rfl)) rfl rfl trivial rfl trivial (by kernel_rfl) (by kernel_rfl)) Try.func87 (by kernel_rfl) Zaq.lp (l := [(false, sub [1, 1, 1, 0, 1, 0, 0, 1, 1, 0, 0, 1, 1, 1, 0, 1, 1, 1] Zaq.body, Zaq.nmj50013), (false, sub [1, 1, 1, 0, 1, 0, 0, 1, 1, 0, 0, 1, 1] Zaq.body, Zaq.nmj9), (true, sub [1, 1, 1, 0, 1, 0, 0] Zaq.body, Zaq.nml5)]) (by kernel_rfl) (fun n => ⟨Zaq.atj50013 n, ⟨Zaq.atj9 n, ⟨Zaq.atl5 n, trivial⟩⟩⟩) (fun n x => by kernel_rfl)
noncomputable def Zaz (fu : Nat) (rv : O11) (ev : Int) : Option ((Unit) × (O11 × Unit)) :=
 cond (rv.2.2.2.1 == (0 : Int)) (
  some ((()), ((rv.1, rv.2.1, rv.2.2.1, ev, ()), ()))) (
  some ((()), (rv, ())))
noncomputable def Zaz.body : Code := Try.f89.body.getD .skip
noncomputable def Zaz.con : OCon := { ps := [.obj kO11, .dat (.int .i64)], rs := [], f := fun n x => Zaz n x.1 x.2.1 }
abbrev Zaz.R : Type := (RT Zaz.con.rs × BT Zaz.con.ps)
noncomputable def Zaz.env : Env := { tys := [(148, ⟨kS14, 64⟩), (39, ⟨(.int .i64), 8⟩)], elems := [], ptrs := [], cons := [], objs := [], loops := [], cuts := [], globs := globs, base := 1 }
noncomputable def Zaz.lp (n : Nat) : LP Zaz.R := fun lo κ body nm K s =>
 loops n Zaz.R lo κ body nm K s
theorem Zaz.sound : ZbP Try.prog globs 89 Zaz.con :=
 Zbl (E := Zaz.env) (c := Zaz.body) (Zbk (G := globs) (lc := []) (lo := []) (ZaA (by kernel_rfl)) rfl rfl trivial rfl trivial (by kernel_rfl) (by kernel_rfl)) Try.func89 (by kernel_rfl) (by kernel_rfl) (by kernel_rfl) Zaz.lp (l := []) (by kernel_rfl) (fun n => trivial) (fun n x => by kernel_rfl)
end
end Go.Shal.Pr
