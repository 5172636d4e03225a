/- Prints of functions, and proofs that they are what the code computes. By an AI agent. -/
import Derived.Test.YtbhigcnmdobmoaaGen13a
set_option linter.unusedVariables false
set_option maxRecDepth 100000
namespace Go.Shal.Pr
open Go Go.Shal Go.Proofs
noncomputable section
noncomputable def Zak.j3 (fu : Nat) (k1 : Int → (List Int) → Int → (List S6) → Int → Option ((Int × Unit) × (O11 × Unit))) (c0 : List Int) (c0x2 : Int) (c0x3 : List S6) (c0x4 : Int) : Option ((Int × Unit) × (O11 × Unit)) :=
 cond (c0x4 != (0 : Int)) (
  k1 (0 : Int) c0 c0x2 c0x3 c0x4) (
  let t1 := IntKind.i64.wrap (c0x2 + (1 : Int))
  let t2 := IntKind.i64.wrap (t1 - (1 : Int))
  chk (ixOk c0 t2) <|
  let e3 := ixL (0 : Int) c0 t2
  k1 e3 c0 t1 c0x3 c0x4)
noncomputable def Zak (fu : Nat) (rv : O11) : Option ((Int × Unit) × (O11 × Unit)) :=
 let t1 := decide (rv.2.1 ≥ (rv.1.length : Int))
 cond t1 (
  (Zaz fu rv (3 : Int)).bind fun r2 =>
  Zak.j3 fu (fun vq1 c0q1 c0q1x2 c0q1x3 c0q1x4 =>
    some ((vq1, ()), ((c0q1, c0q1x2, c0q1x3, c0q1x4, ()), ()))) r2.2.1.1 r2.2.1.2.1 r2.2.1.2.2.1 r2.2.1.2.2.2.1) (
  Zak.j3 fu (fun vq2 c0q2 c0q2x2 c0q2x3 c0q2x4 =>
    some ((vq2, ()), ((c0q2, c0q2x2, c0q2x3, c0q2x4, ()), ()))) rv.1 rv.2.1 rv.2.2.1 rv.2.2.2.1)
noncomputable def Zak.body : Code := Try.f124.body.getD .skip
abbrev Zak.shj3 : Shp := ⟨.p 0 0 :: us 37 [], [.c [.d (.slice (.int .u8)), .d (.int .i64), .mo kS6, .d (.int .i64)]]⟩
abbrev Zak.outj3e1 : Shp := ⟨.u :: .u :: .d (.int .u8) :: us 35 [], [.c [.d (.slice (.int .u8)), .d (.int .i64), .mo kS6, .d (.int .i64)]]⟩
noncomputable def Zak.nmj3 : Norm := ⟨Zak.shj3.cut [], [(1, Zak.outj3e1.cut [])]⟩
noncomputable def Zak.con : OCon := { ps := [.obj kO11], rs := [.dat (.int .u8)], f := fun n x => Zak n x.1 }
abbrev Zak.R : Type := (RT Zak.con.rs × BT Zak.con.ps)
noncomputable def Zak.env : Env := { tys := [(5, ⟨(.int .u8), 1⟩), (148, ⟨kS14, 64⟩), (3, ⟨(.int .i64), 8⟩), (38, ⟨(.slice (.int .u8)), 24⟩), (39, ⟨(.int .i64), 8⟩)], elems := [(38, 5)], ptrs := [], cons := [], objs := [(89, [Zaz.con])], loops := [], cuts := [(3, Zak.nmj3)], globs := globs, base := 1 }
noncomputable def Zak.cj3 (n : Nat) (K : Ex → St → Option Zak.R) (v : Zak.shj3.T) : Option Zak.R := Zak.j3 n (fun w0 w1 w2 w3 w4 => K .ret (Zak.outj3e1.enc (w0, w1, w2, w3, w4, ()))) v.1 v.2.1 v.2.2.1 v.2.2.2.1
noncomputable def Zak.lp (n : Nat) : LP Zak.R := fun lo κ body nm K s =>
 cond (!lo && Nat.beq κ 3) (pc Zak.shj3 (Zak.cj3 n K) (loops n Zak.R lo κ body nm K) s) <|
  loops n Zak.R lo κ body nm K s
noncomputable def Zak.tj3 (n : Nat) := evK (β := Zak.R) Zak.env (Zak.lp n) n (sub [1, 1] Zak.body)
theorem Zak.atj3 (n : Nat) : At n (Zak.lp n) false 3 (Zak.tj3 n) Zak.nmj3 := fun s K =>
 ZbR (sh := Zak.shj3) (F := (Zak.cj3 n K)) (B := loops n _ false 3 (Zak.tj3 n) Zak.nmj3 K) (fun v => by kernel_rfl) s
theorem Zak.sound : ZbP Try.prog globs 124 Zak.con :=
 Zbl (E := Zak.env) (c := Zak.body) (Zbk (G := globs) (lc := []) (lo := [(89, [Zaz.con])]) (ZaA (by kernel_rfl)) rfl rfl trivial rfl ⟨⟨⟨Zaz.sound, trivial⟩, by kernel_rfl⟩, trivial⟩ (by kernel_rfl) (by kernel_rfl)) Try.func124 (by kernel_rfl) (by kernel_rfl) (by kernel_rfl) Zak.lp (l := [(false, sub [1, 1] Zak.body, Zak.nmj3)]) (by kernel_rfl) (fun n => ⟨Zak.atj3 n, trivial⟩) (fun n x => by kernel_rfl)
noncomputable def Zca (fu : Nat) (b : List Int) (atv : Int) : Option (S12 × Int × Int × Int × Unit) :=
 cond (decide (atv < (0 : Int))) (
  some ((false, (0 : Int), (), ()), (0 : Int), (0 : Int), (3 : Int), ())) (
  let t1 := decide (atv ≥ (b.length : Int))
  cond t1 (
   some ((false, (0 : Int), (), ()), (0 : Int), (0 : Int), (3 : Int), ())) (
   chk (ixOk b atv) <|
   let e2 := ixL (0 : Int) b atv
   let t3 := IntKind.u8.wrap (Int.tdiv e2 (16 : Int))
   let t4 := bAnd .u8 e2 (14 : Int) != (0 : Int)
   cond t4 (
    some ((false, (0 : Int), (), ()), (0 : Int), (0 : Int), (2 : Int), ())) (
    let t5 := decide (IntKind.i64.wrap t3 > (4 : Int))
    cond t5 (
     some ((false, (0 : Int), (), ()), (0 : Int), (0 : Int), (12 : Int), ())) (
     let t6 := bAnd .u8 e2 (1 : Int) == (1 : Int)
     cond t6 (
      let t7 := IntKind.i64.wrap (atv + (1 : Int))
      some ((true, (0 : Int), (), ()), IntKind.i64.wrap t3, t7, (0 : Int), ())) (
      let t8 := IntKind.i64.wrap (atv + (1 : Int))
      let t9 := decide (t8 ≥ (b.length : Int))
      cond t9 (
       some ((false, (0 : Int), (), ()), (0 : Int), (0 : Int), (3 : Int), ())) (
       let t10 := IntKind.i64.wrap (atv + (1 : Int))
       chk (ixOk b t10) <|
       let e11 := ixL (0 : Int) b t10
       let t12 := IntKind.i64.wrap (atv + (2 : Int))
       some ((false, e11, (), ()), IntKind.i64.wrap t3, t12, (0 : Int), ())))))))
noncomputable def Zca.body : Code := Try.f135.body.getD .skip
noncomputable def Zca.con : Con := { ps := [(.slice (.int .u8)), (.int .i64)], rs := [kS12, (.int .i64), (.int .i64), (.int .i64)], f := fun n x => Zca n x.1 x.2.1 }
abbrev Zca.R : Type := (Kd.struct Zca.con.rs).T
noncomputable def Zca.env : Env := { tys := [(75, ⟨kS3, 32⟩), (3, ⟨(.int .i64), 8⟩), (39, ⟨(.int .i64), 8⟩), (4, ⟨.bool, 1⟩), (5, ⟨(.int .u8), 1⟩)], elems := [(38, 5)], ptrs := [], cons := [], objs := [], loops := [], cuts := [], globs := globs, base := 0, parts := true }
noncomputable def Zca.lp (n : Nat) : LP Zca.R := fun lo κ body nm K s =>
 loops n Zca.R lo κ body nm K s
theorem Zca.sound : Zbi Try.prog globs 135 Zca.con :=
 ZaS (E := Zca.env) (c := Zca.body) (Zbk (G := globs) (lc := []) (lo := []) (ZaA (by kernel_rfl)) rfl rfl trivial rfl trivial (by kernel_rfl) (by kernel_rfl)) Try.func135 (by kernel_rfl) Zca.lp (l := []) (by kernel_rfl) (fun n => trivial) (fun n x => by kernel_rfl)
noncomputable def Zbv (fu : Nat) (b : List Int) (atv : Int) : Option (Int × Int × Int × Unit) :=
 (Zaq fu b atv).bind fun r1 =>
 let t2 := IntKind.i64.wrap (sShr .u64 r1.1 (1 : Int))
 let t3 := IntKind.i64.wrap (bAnd .u64 r1.1 (1 : Int))
 let t4 := IntKind.i64.wrap (0 - t3)
 some (bXor .i64 t2 t4, r1.2.1, r1.2.2.1, ())
noncomputable def Zbv.body : Code := Try.f96.body.getD .skip
noncomputable def Zbv.con : Con := { ps := [(.slice (.int .u8)), (.int .i64)], rs := [(.int .i64), (.int .i64), (.int .i64)], f := fun n x => Zbv n x.1 x.2.1 }
abbrev Zbv.R : Type := (Kd.struct Zbv.con.rs).T
noncomputable def Zbv.env : Env := { tys := [(2, ⟨(.int .i64), 8⟩), (3, ⟨(.int .i64), 8⟩), (39, ⟨(.int .i64), 8⟩), (51, ⟨(.int .u64), 8⟩)], elems := [], ptrs := [], cons := [(87, Zaq.con)], objs := [], loops := [], cuts := [], globs := globs, base := 0 }
noncomputable def Zbv.lp (n : Nat) : LP Zbv.R := fun lo κ body nm K s =>
 loops n Zbv.R lo κ body nm K s
theorem Zbv.sound : Zbi Try.prog globs 96 Zbv.con :=
 ZaS (E := Zbv.env) (c := Zbv.body) (Zbk (G := globs) (lc := [(87, Zaq.con)]) (lo := []) (ZaA (by kernel_rfl)) rfl rfl ⟨.inl ⟨Zaq.sound, by kernel_rfl⟩, trivial⟩ rfl trivial (by kernel_rfl) (by kernel_rfl)) Try.func96 (by kernel_rfl) Zbv.lp (l := []) (by kernel_rfl) (fun n => trivial) (fun n x => by kernel_rfl)
noncomputable def ZbU (fu : Nat) (bits : Int) : Option (Nat × Bool × Unit) :=
 (Zfc.f fu (bits, ())).bind fun r1 =>
 (ZbE fu r1.1).bind fun r2 =>
 cond (r2.1 != bits) (
  some ((0 : Nat), false, ())) (
  some (r1.1, true, ()))
noncomputable def ZbU.body : Code := Try.f128.body.getD .skip
noncomputable def ZbU.con : Con := { ps := [(.int .u64)], rs := [.flt, .bool], f := fun n x => ZbU n x.1 }
abbrev ZbU.R : Type := (Kd.struct ZbU.con.rs).T
noncomputable def ZbU.env : Env := { tys := [(32, ⟨.flt, 8⟩), (4, ⟨.bool, 1⟩)], elems := [], ptrs := [], cons := [(90, Zfc), (127, ZbE.con)], objs := [], loops := [], cuts := [], globs := globs, base := 0 }
noncomputable def ZbU.lp (n : Nat) : LP ZbU.R := fun lo κ body nm K s =>
 loops n ZbU.R lo κ body nm K s
theorem ZbU.sound : Zbi Try.prog globs 128 ZbU.con :=
 ZaS (E := ZbU.env) (c := ZbU.body) (Zbk (G := globs) (lc := [(90, Zfc), (127, ZbE.con)]) (lo := []) (ZaA (by kernel_rfl)) rfl rfl ⟨.inr (ZjH Try.func90 (by kernel_rfl) (by kernel_rfl) (by kernel_rfl) (by kernel_rfl)), ⟨.inl ⟨ZbE.sound, by kernel_rfl⟩, trivial⟩⟩ rfl trivial (by kernel_rfl) (by kernel_rfl)) Try.func128 (by kernel_rfl) ZbU.lp (l := []) (by kernel_rfl) (fun n => trivial) (fun n x => by kernel_rfl)
noncomputable def Zav.b5 (fu : Nat) (next : Int → Int → (List Int) → Int → Int → Option (Nat × Int × Int × Unit)) (k2 : Int → Int → Option (Nat × Int × Int × Unit)) (atv : Int) (n : Int) (v : List Int) (vx2 : Int) (vx3 : Int) : Option (Nat × Int × Int × Unit) :=
 cond (decide (vx3 < vx2)) (
  chk (ixOk v vx3) <|
  let e1 := ixL (0 : Int) v vx3
  let t2 := bOr .u64 (sShl .u64 n (8 : Int)) (IntKind.u64.wrap e1)
  let t3 := IntKind.i64.wrap (vx3 + (1 : Int))
  next atv t2 v vx2 t3) (
  k2 atv n)
noncomputable def Zav.l5 (fu : Nat) (k2 : Int → Int → Option (Nat × Int × Int × Unit)) : Nat → Int → Int → (List Int) → Int → Int → Option (Nat × Int × Int × Unit)
 | 0, _, _, _, _, _ => none
 | m + 1, atv, n, v, vx2, vx3 => Zav.b5 fu (Zav.l5 fu k2 m) k2 atv n v vx2 vx3
noncomputable def Zav (fu : Nat) (b : List Int) (atv : Int) : Option (Nat × Int × Int × Unit) :=
 cond (decide (atv < (0 : Int))) (
  some ((0 : Nat), (0 : Int), (3 : Int), ())) (
  let t1 := IntKind.i64.wrap ((b.length : Int) - (8 : Int))
  cond (decide (atv > t1)) (
   some ((0 : Nat), (0 : Int), (3 : Int), ())) (
   let t2 := IntKind.i64.wrap (atv + (8 : Int))
   chk (ZfE b atv t2) <|
   let t3 := ((cutL b atv t2).length : Int)
   Zav.l5 fu (fun atvq2 nq2 =>
     (ZbU fu nq2).bind fun r4 =>
     cond (!r4.2.1) (
      some ((0 : Nat), (0 : Int), (2 : Int), ())) (
      let t5 := IntKind.i64.wrap (atvq2 + (8 : Int))
      some (r4.1, t5, (0 : Int), ()))) fu atv (0 : Int) (cutL b atv t2) t3 (0 : Int)))
noncomputable def Zav.body : Code := Try.f97.body.getD .skip
abbrev Zav.shl5 : Shp := ⟨.u :: .d (.int .i64) :: us 5 (.d (.int .u64) :: us 17 (.d (.slice (.int .u8)) :: .d (.int .i64) :: .d (.int .i64) :: us 19 [])), []⟩
abbrev Zav.outl5e2 : Shp := ⟨.u :: .d (.int .i64) :: us 5 (.d (.int .u64) :: us 39 []), []⟩
noncomputable def Zav.nml5 : Norm := ⟨Zav.shl5.cut [], [(2, Zav.outl5e2.cut [])]⟩
noncomputable def Zav.con : Con := { ps := [(.slice (.int .u8)), (.int .i64)], rs := [.flt, (.int .i64), (.int .i64)], f := fun n x => Zav n x.1 x.2.1 }
abbrev Zav.R : Type := (Kd.struct Zav.con.rs).T
noncomputable def Zav.env : Env := { tys := [(32, ⟨.flt, 8⟩), (3, ⟨(.int .i64), 8⟩), (39, ⟨(.int .i64), 8⟩), (4, ⟨.bool, 1⟩), (5, ⟨(.int .u8), 1⟩), (51, ⟨(.int .u64), 8⟩)], elems := [(38, 5)], ptrs := [], cons := [(128, ZbU.con)], objs := [], loops := [(5, Zav.nml5)], cuts := [], globs := globs, base := 0 }
noncomputable def Zav.cl5 (n : Nat) (K : Ex → St → Option Zav.R) (m : Nat) (v : Zav.shl5.T) : Option Zav.R := Zav.l5 n (fun w0 w1 => K (.exit 0) (Zav.outl5e2.enc (w0, w1, ()))) m v.1 v.2.1 v.2.2.1 v.2.2.2.1 v.2.2.2.2.1
noncomputable def Zav.lp (n : Nat) : LP Zav.R := fun lo κ body nm K s =>
 cond (lo && Nat.beq κ 5) (pc Zav.shl5 (Zav.cl5 n K n) (loops n Zav.R lo κ body nm K) s) <|
  loops n Zav.R lo κ body nm K s
noncomputable def Zav.tl5 (n : Nat) := evK (β := Zav.R) Zav.env (Zav.lp n) n (sub [1, 1, 1, 0, 1, 0, 0] Zav.body)
theorem Zav.atl5 (n : Nat) : At n (Zav.lp n) true 5 (Zav.tl5 n) Zav.nml5 := fun s K =>
 ZbR (sh := Zav.shl5) (F := (Zav.cl5 n K n)) (B := loops n _ true 5 (Zav.tl5 n) Zav.nml5 K) (fun v => (Zbc (sh := Zav.shl5) (body := (Zav.tl5 n)) (nm := Zav.nml5) (b := fun nx v => Zav.b5 n (fun x0 x1 x2 x3 x4 => nx (x0, x1, x2, x3, x4, ())) (fun w0 w1 => K (.exit 0) (Zav.outl5e2.enc (w0, w1, ()))) v.1 v.2.1 v.2.2.1 v.2.2.2.1 v.2.2.2.2.1) (l := (Zav.cl5 n K)) (fun _ => rfl) (fun _ _ => rfl) (fun m v => by kernel_rfl) n v).symm) s
theorem Zav.sound : Zbi Try.prog globs 97 Zav.con :=
 ZaS (E := Zav.env) (c := Zav.body) (Zbk (G := globs) (lc := [(128, ZbU.con)]) (lo := []) (ZaA (by kernel_rfl)) rfl rfl ⟨.inl ⟨ZbU.sound, by kernel_rfl⟩, trivial⟩ rfl trivial (by kernel_rfl) (by kernel_rfl)) Try.func97 (by kernel_rfl) Zav.lp (l := [(true, sub [1, 1, 1, 0, 1, 0, 0] Zav.body, Zav.nml5)]) (by kernel_rfl) (fun n => ⟨Zav.atl5 n, trivial⟩) (fun n x => by kernel_rfl)
noncomputable def Zbj (fu : Nat) (b : List Int) (atv : Int) (most : Int) : Option ((List Int) × Int × Int × Unit) :=
 (Zaq fu b atv).bind fun r1 =>
 cond (r1.2.2.1 != (0 : Int)) (
  some (([] : List Int), (0 : Int), r1.2.2.1, ())) (
  let t2 := IntKind.u64.wrap (max2 most (0 : Int))
  cond (decide (r1.1 > t2)) (
   some (([] : List Int), (0 : Int), (4 : Int), ())) (
   let t3 := IntKind.i64.wrap ((b.length : Int) - r1.2.1)
   let t4 := decide (r1.1 > IntKind.u64.wrap t3)
   cond t4 (
    some (([] : List Int), (0 : Int), (3 : Int), ())) (
    let t5 := IntKind.i64.wrap (r1.2.1 + IntKind.i64.wrap r1.1)
    chk (ZfE b r1.2.1 t5) <|
    let t6 := IntKind.i64.wrap (r1.2.1 + IntKind.i64.wrap r1.1)
    some (cutL b r1.2.1 t5, t6, (0 : Int), ()))))
noncomputable def Zbj.body : Code := Try.f98.body.getD .skip
noncomputable def Zbj.con : Con := { ps := [(.slice (.int .u8)), (.int .i64), (.int .i64)], rs := [.str, (.int .i64), (.int .i64)], f := fun n x => Zbj n x.1 x.2.1 x.2.2.1 }
abbrev Zbj.R : Type := (Kd.struct Zbj.con.rs).T
noncomputable def Zbj.env : Env := { tys := [(9, ⟨.str, 16⟩), (3, ⟨(.int .i64), 8⟩), (39, ⟨(.int .i64), 8⟩), (51, ⟨(.int .u64), 8⟩), (5, ⟨(.int .u8), 1⟩), (38, ⟨(.slice (.int .u8)), 24⟩)], elems := [(38, 5)], ptrs := [], cons := [(87, Zaq.con)], objs := [], loops := [], cuts := [], globs := globs, base := 0 }
noncomputable def Zbj.lp (n : Nat) : LP Zbj.R := fun lo κ body nm K s =>
 loops n Zbj.R lo κ body nm K s
theorem Zbj.sound : Zbi Try.prog globs 98 Zbj.con :=
 ZaS (E := Zbj.env) (c := Zbj.body) (Zbk (G := globs) (lc := [(87, Zaq.con)]) (lo := []) (ZaA (by kernel_rfl)) rfl rfl ⟨.inl ⟨Zaq.sound, by kernel_rfl⟩, trivial⟩ rfl trivial (by kernel_rfl) (by kernel_rfl)) Try.func98 (by kernel_rfl) Zbj.lp (l := []) (by kernel_rfl) (fun n => trivial) (fun n x => by kernel_rfl)
noncomputable def ZaP.j14 (fu : Nat) (k1 : Int → Int → S1 → Option (S1 × Int × Int × Unit)) (endv : Int) (ev : Int) (b0 : S1) (b1 : S1) : Option (S1 × Int × Int × Unit) :=
 cond (ev != (0 : Int)) (
  k1 (0 : Int) ev ((0 : Int), (0 : Int), (0 : Nat), [], ())) (
  k1 endv (0 : Int) b1)
noncomputable def ZaP (fu : Nat) (b : List Int) (atv : Int) : Option (S1 × Int × Int × Unit) :=
 cond (decide (atv < (0 : Int))) (
  some (((0 : Int), (0 : Int), (0 : Nat), [], ()), (0 : Int), (3 : Int), ())) (
  let t1 := decide (atv ≥ (b.length : Int))
  cond t1 (
   some (((0 : Int), (0 : Int), (0 : Nat), [], ()), (0 : Int), (3 : Int), ())) (
   chk (ixOk b atv) <|
   let e2 := ixL (0 : Int) b atv
   let t3 := IntKind.i64.wrap (atv + (1 : Int))
   cond (e2 == (0 : Int)) (
    ZaP.j14 fu (fun vq1 vq1x2 b0q1 =>
      some (b0q1, vq1, vq1x2, ())) t3 (0 : Int) ((0 : Int), (0 : Int), (0 : Nat), [], ()) (e2, (0 : Int), (0 : Nat), [], ())) (
    cond (e2 == (1 : Int)) (
     let t4 := IntKind.i64.wrap (atv + (1 : Int))
     (Zbv fu b t4).bind fun r5 =>
     ZaP.j14 fu (fun vq2 vq2x2 b0q2 =>
       some (b0q2, vq2, vq2x2, ())) r5.2.1 r5.2.2.1 ((0 : Int), (0 : Int), (0 : Nat), [], ()) (e2, r5.1, (0 : Nat), [], ())) (
     cond (e2 == (2 : Int)) (
      let t6 := IntKind.i64.wrap (atv + (1 : Int))
      (Zav fu b t6).bind fun r7 =>
      ZaP.j14 fu (fun vq3 vq3x2 b0q3 =>
        some (b0q3, vq3, vq3x2, ())) r7.2.1 r7.2.2.1 ((0 : Int), (0 : Int), (0 : Nat), [], ()) (e2, (0 : Int), r7.1, [], ())) (
      cond (e2 == (3 : Int)) (
       let t8 := IntKind.i64.wrap (atv + (1 : Int))
       (Zbj fu b t8 (255 : Int)).bind fun r9 =>
       ZaP.j14 fu (fun vq4 vq4x2 b0q4 =>
         some (b0q4, vq4, vq4x2, ())) r9.2.1 r9.2.2.1 ((0 : Int), (0 : Int), (0 : Nat), [], ()) (e2, (0 : Int), (0 : Nat), r9.1, ())) (
       ZaP.j14 fu (fun vq5 vq5x2 b0q5 =>
         some (b0q5, vq5, vq5x2, ())) t3 (11 : Int) ((0 : Int), (0 : Int), (0 : Nat), [], ()) (e2, (0 : Int), (0 : Nat), [], ())))))))
noncomputable def ZaP.body : Code := Try.f52.body.getD .skip
abbrev ZaP.shj14 : Shp := ⟨us 4 (.p 0 0 :: .u :: .u :: .p 1 0 :: .d (.int .i64) :: .d (.int .i64) :: us 59 []), [.c [.g kS1], .c [.g kS1]]⟩
abbrev ZaP.outj14e1 : Shp := ⟨us 4 (.p 0 0 :: .d (.int .i64) :: .d (.int .i64) :: us 62 []), [.c [.g kS1]]⟩
noncomputable def ZaP.nmj14 : Norm := ⟨ZaP.shj14.cut [], [(1, ZaP.outj14e1.cut [])]⟩
noncomputable def ZaP.con : Con := { ps := [(.slice (.int .u8)), (.int .i64)], rs := [kS1, (.int .i64), (.int .i64)], f := fun n x => ZaP n x.1 x.2.1 }
abbrev ZaP.R : Type := (Kd.struct ZaP.con.rs).T
noncomputable def ZaP.env : Env := { tys := [(34, ⟨kS1, 40⟩), (3, ⟨(.int .i64), 8⟩), (39, ⟨(.int .i64), 8⟩), (4, ⟨.bool, 1⟩), (5, ⟨(.int .u8), 1⟩), (2, ⟨(.int .i64), 8⟩), (32, ⟨.flt, 8⟩), (9, ⟨.str, 16⟩)], elems := [(38, 5)], ptrs := [], cons := [(96, Zbv.con), (97, Zav.con), (98, Zbj.con)], objs := [], loops := [], cuts := [(14, ZaP.nmj14)], globs := globs, base := 0 }
noncomputable def ZaP.cj14 (n : Nat) (K : Ex → St → Option ZaP.R) (v : ZaP.shj14.T) : Option ZaP.R := ZaP.j14 n (fun w0 w1 w2 => K .ret (ZaP.outj14e1.enc (w0, w1, w2, ()))) v.1 v.2.1 v.2.2.1 v.2.2.2.1
noncomputable def ZaP.lp (n : Nat) : LP ZaP.R := fun lo κ body nm K s =>
 cond (!lo && Nat.beq κ 14) (pc ZaP.shj14 (ZaP.cj14 n K) (loops n ZaP.R lo κ body nm K) s) <|
  loops n ZaP.R lo κ body nm K s
noncomputable def ZaP.tj14 (n : Nat) := evK (β := ZaP.R) ZaP.env (ZaP.lp n) n (sub [1, 1, 1, 1, 1] ZaP.body)
theorem ZaP.atj14 (n : Nat) : At n (ZaP.lp n) false 14 (ZaP.tj14 n) ZaP.nmj14 := fun s K =>
 ZbR (sh := ZaP.shj14) (F := (ZaP.cj14 n K)) (B := loops n _ false 14 (ZaP.tj14 n) ZaP.nmj14 K) (fun v => by kernel_rfl) s
theorem ZaP.sound : Zbi Try.prog globs 52 ZaP.con :=
 ZaS (E := ZaP.env) (c := ZaP.body) (Zbk (G := globs) (lc := [(96, Zbv.con), (97, Zav.con), (98, Zbj.con)]) (lo := []) (ZaA (by kernel_rfl)) rfl rfl ⟨.inl ⟨Zbv.sound, by kernel_rfl⟩, ⟨.inl ⟨Zav.sound, by kernel_rfl⟩, ⟨.inl ⟨Zbj.sound, by kernel_rfl⟩, trivial⟩⟩⟩ rfl trivial (by kernel_rfl) (by kernel_rfl)) Try.func52 (by kernel_rfl) ZaP.lp (l := [(false, sub [1, 1, 1, 1, 1] ZaP.body, ZaP.nmj14)]) (by kernel_rfl) (fun n => ⟨ZaP.atj14 n, trivial⟩) (fun n x => by kernel_rfl)
noncomputable def ZaQ.b5 (fu : Nat) (next : (List Int) → Int → Int → Int → Bool → Int → (List S2) → Bool → Int → (List S2) → Option (S3 × Int × Int × Unit)) (k1 : Int → Int → Bool → Int → (List S2) → Option (S3 × Int × Int × Unit)) (k2 : Int → Bool → Int → (List S2) → Bool → Int → (List S2) → Option (S3 × Int × Int × Unit)) (b : List Int) (atv : Int) (v : Int) (vx2 : Int) (c0 : Bool) (c0x2 : Int) (c0x3 : List S2) (c1 : Bool) (c1x2 : Int) (c1x3 : List S2) : Option (S3 × Int × Int × Unit) :=
 cond (decide (vx2 < v)) (
  let t1 := IntKind.i64.wrap ((b.length : Int) - (2 : Int))
  cond (decide (atv > t1)) (
   k1 (0 : Int) (3 : Int) false (0 : Int) []) (
   let t2 := IntKind.i64.wrap (atv + (2 : Int))
   (ZaP fu b t2).bind fun r3 =>
   cond (r3.2.2.1 != (0 : Int)) (
    k1 (0 : Int) r3.2.2.1 false (0 : Int) []) (
    chk (ixOk b atv) <|
    let e4 := ixL (0 : Int) b atv
    let t5 := IntKind.i64.wrap (atv + (1 : Int))
    chk (ixOk b t5) <|
    let e6 := ixL (0 : Int) b t5
    (Zbt fu (e4, e6, r3.1, ())).bind fun r7 =>
    cond (!r7.1) (
     k1 (0 : Int) (1 : Int) false (0 : Int) []) (
     chk (apOk c1x3 ([(e4, e6, r3.1, ())]) 48) <|
     let t8 := c1x3 ++ ([(e4, e6, r3.1, ())])
     let t9 := IntKind.i64.wrap (vx2 + (1 : Int))
     next b r3.2.1 v t9 c0 c0x2 c0x3 c1 c1x2 t8)))) (
  k2 atv c0 c0x2 c0x3 c1 c1x2 c1x3)
noncomputable def ZaQ.l5 (fu : Nat) (k1 : Int → Int → Bool → Int → (List S2) → Option (S3 × Int × Int × Unit)) (k2 : Int → Bool → Int → (List S2) → Bool → Int → (List S2) → Option (S3 × Int × Int × Unit)) : Nat → (List Int) → Int → Int → Int → Bool → Int → (List S2) → Bool → Int → (List S2) → Option (S3 × Int × Int × Unit)
 | 0, _, _, _, _, _, _, _, _, _, _ => none
 | m + 1, b, atv, v, vx2, c0, c0x2, c0x3, c1, c1x2, c1x3 => ZaQ.b5 fu (ZaQ.l5 fu k1 k2 m) k1 k2 b atv v vx2 c0 c0x2 c0x3 c1 c1x2 c1x3
noncomputable def ZaQ (fu : Nat) (b : List Int) (atv : Int) : Option (S3 × Int × Int × Unit) :=
 (Zca fu b atv).bind fun r1 =>
 cond (r1.2.2.2.1 != (0 : Int)) (
  some ((false, (0 : Int), [], ()), (0 : Int), r1.2.2.2.1, ())) (
  ZaQ.l5 fu (fun vq3 vq3x2 c0q3 c0q3x2 c0q3x3 =>
    some ((c0q3, c0q3x2, c0q3x3, ()), vq3, vq3x2, ())) (fun atvq4 c0q4 c0q4x2 c0q4x3 c1q4 c1q4x2 c1q4x3 =>
    some ((c1q4, c1q4x2, c1q4x3, ()), atvq4, (0 : Int), ())) fu b r1.2.2.1 r1.2.1 (0 : Int) false (0 : Int) [] r1.1.1 r1.1.2.1 [])
noncomputable def ZaQ.body : Code := Try.f134.body.getD .skip
abbrev ZaQ.shl5 : Shp := ⟨.d (.slice (.int .u8)) :: .d (.int .i64) :: .u :: .u :: .p 0 0 :: .u :: .u :: .p 1 0 :: us 18 (.d (.int .i64) :: .d (.int .i64) :: us 44 []), [.c [.d .bool, .d (.int .u8), .o 1002 kS2], .c [.d .bool, .d (.int .u8), .o 1052 kS2]]⟩
abbrev ZaQ.outl5e1 : Shp := ⟨us 4 (.p 0 0 :: .d (.int .i64) :: .d (.int .i64) :: us 65 []), [.c [.d .bool, .d (.int .u8), .o 1002 kS2]]⟩
abbrev ZaQ.outl5e2 : Shp := ⟨.u :: .d (.int .i64) :: .u :: .u :: .p 0 0 :: .u :: .u :: .p 1 0 :: us 64 [], [.c [.d .bool, .d (.int .u8), .o 1002 kS2], .c [.d .bool, .d (.int .u8), .o 1052 kS2]]⟩
noncomputable def ZaQ.nml5 : Norm := ⟨ZaQ.shl5.cut [], [(1, ZaQ.outl5e1.cut []), (2, ZaQ.outl5e2.cut [])]⟩
noncomputable def ZaQ.con : Con := { ps := [(.slice (.int .u8)), (.int .i64)], rs := [kS3, (.int .i64), (.int .i64)], f := fun n x => ZaQ n x.1 x.2.1 }
abbrev ZaQ.R : Type := (Kd.struct ZaQ.con.rs).T
noncomputable def ZaQ.env : Env := { tys := [(75, ⟨kS3, 32⟩), (3, ⟨(.int .i64), 8⟩), (39, ⟨(.int .i64), 8⟩), (5, ⟨(.int .u8), 1⟩), (34, ⟨kS1, 40⟩), (88, ⟨kS2, 48⟩), (73, ⟨(.slice kS2), 24⟩)], elems := [(38, 5), (73, 88)], ptrs := [], cons := [(135, Zca.con), (52, ZaP.con), (115, Zbt.con)], objs := [], loops := [(5, ZaQ.nml5)], cuts := [], globs := globs, base := 0 }
noncomputable def ZaQ.cl5 (n : Nat) (K : Ex → St → Option ZaQ.R) (m : Nat) (v : ZaQ.shl5.T) : Option ZaQ.R := ZaQ.l5 n (fun w0 w1 w2 w3 w4 => K .ret (ZaQ.outl5e1.enc (w0, w1, w2, w3, w4, ()))) (fun w0 w1 w2 w3 w4 w5 w6 => K (.exit 0) (ZaQ.outl5e2.enc (w0, w1, w2, w3, w4, w5, w6, ()))) m v.1 v.2.1 v.2.2.1 v.2.2.2.1 v.2.2.2.2.1 v.2.2.2.2.2.1 v.2.2.2.2.2.2.1 v.2.2.2.2.2.2.2.1 v.2.2.2.2.2.2.2.2.1 v.2.2.2.2.2.2.2.2.2.1
noncomputable def ZaQ.lp (n : Nat) : LP ZaQ.R := fun lo κ body nm K s =>
 cond (lo && Nat.beq κ 5) (pc ZaQ.shl5 (ZaQ.cl5 n K n) (loops n ZaQ.R lo κ body nm K) s) <|
  loops n ZaQ.R lo κ body nm K s
noncomputable def ZaQ.tl5 (n : Nat) := evK (β := ZaQ.R) ZaQ.env (ZaQ.lp n) n (sub [1, 1, 1, 0, 1, 0, 0] ZaQ.body)
theorem ZaQ.atl5 (n : Nat) : At n (ZaQ.lp n) true 5 (ZaQ.tl5 n) ZaQ.nml5 := fun s K =>
 ZbR (sh := ZaQ.shl5) (F := (ZaQ.cl5 n K n)) (B := loops n _ true 5 (ZaQ.tl5 n) ZaQ.nml5 K) (fun v => (Zbc (sh := ZaQ.shl5) (body := (ZaQ.tl5 n)) (nm := ZaQ.nml5) (b := fun nx v => ZaQ.b5 n (fun x0 x1 x2 x3 x4 x5 x6 x7 x8 x9 => nx (x0, x1, x2, x3, x4, x5, x6, x7, x8, x9, ())) (fun w0 w1 w2 w3 w4 => K .ret (ZaQ.outl5e1.enc (w0, w1, w2, w3, w4, ()))) (fun w0 w1 w2 w3 w4 w5 w6 => K (.exit 0) (ZaQ.outl5e2.enc (w0, w1, w2, w3, w4, w5, w6, ()))) v.1 v.2.1 v.2.2.1 v.2.2.2.1 v.2.2.2.2.1 v.2.2.2.2.2.1 v.2.2.2.2.2.2.1 v.2.2.2.2.2.2.2.1 v.2.2.2.2.2.2.2.2.1 v.2.2.2.2.2.2.2.2.2.1) (l := (ZaQ.cl5 n K)) (fun _ => rfl) (fun _ _ => rfl) (fun m v => by kernel_rfl) n v).symm) s
theorem ZaQ.sound : Zbi Try.prog globs 134 ZaQ.con :=
 ZaS (E := ZaQ.env) (c := ZaQ.body) (Zbk (G := globs) (lc := [(135, Zca.con), (52, ZaP.con), (115, Zbt.con)]) (lo := []) (ZaA (by kernel_rfl)) rfl rfl ⟨.inl ⟨Zca.sound, by kernel_rfl⟩, ⟨.inl ⟨ZaP.sound, by kernel_rfl⟩, ⟨.inl ⟨Zbt.sound, by kernel_rfl⟩, trivial⟩⟩⟩ rfl trivial (by kernel_rfl) (by kernel_rfl)) Try.func134 (by kernel_rfl) ZaQ.lp (l := [(true, sub [1, 1, 1, 0, 1, 0, 0] ZaQ.body, ZaQ.nml5)]) (by kernel_rfl) (fun n => ⟨ZaQ.atl5 n, trivial⟩) (fun n x => by kernel_rfl)
noncomputable def ZaR (fu : Nat) (rv : O11) : Option ((S3 × Unit) × (O11 × Unit)) :=
 cond (rv.2.2.2.1 != (0 : Int)) (
  some (((false, (0 : Int), [], ()), ()), (rv, ()))) (
  (ZaQ fu rv.1 rv.2.1).bind fun r1 =>
  (Zaz fu rv r1.2.2.1).bind fun r2 =>
  some ((r1.1, ()), ((r2.2.1.1, r1.2.1, r2.2.1.2.2.1, r2.2.1.2.2.2.1, ()), ())))
noncomputable def ZaR.body : Code := Try.f126.body.getD .skip
noncomputable def ZaR.con : OCon := { ps := [.obj kO11], rs := [.dat kS3], f := fun n x => ZaR n x.1 }
abbrev ZaR.R : Type := (RT ZaR.con.rs × BT ZaR.con.ps)
noncomputable def ZaR.env : Env := { tys := [(75, ⟨kS3, 32⟩), (148, ⟨kS14, 64⟩), (39, ⟨(.int .i64), 8⟩), (38, ⟨(.slice (.int .u8)), 24⟩), (3, ⟨(.int .i64), 8⟩)], elems := [], ptrs := [], cons := [(134, ZaQ.con)], objs := [(89, [Zaz.con])], loops := [], cuts := [], globs := globs, base := 1 }
noncomputable def ZaR.lp (n : Nat) : LP ZaR.R := fun lo κ body nm K s =>
 loops n ZaR.R lo κ body nm K s
theorem ZaR.sound : ZbP Try.prog globs 126 ZaR.con :=
 Zbl (E := ZaR.env) (c := ZaR.body) (Zbk (G := globs) (lc := [(134, ZaQ.con)]) (lo := [(89, [Zaz.con])]) (ZaA (by kernel_rfl)) rfl rfl ⟨.inl ⟨ZaQ.sound, by kernel_rfl⟩, trivial⟩ rfl ⟨⟨⟨Zaz.sound, trivial⟩, by kernel_rfl⟩, trivial⟩ (by kernel_rfl) (by kernel_rfl)) Try.func126 (by kernel_rfl) (by kernel_rfl) (by kernel_rfl) ZaR.lp (l := []) (by kernel_rfl) (fun n => trivial) (fun n x => by kernel_rfl)
noncomputable def ZaW (fu : Nat) (rv : O11) (xv : O13) : Option ((Int × Unit) × (O11 × O13 × Unit)) :=
 cond (rv.2.2.2.1 != (0 : Int)) (
  some (((0 : Int), ()), (rv, xv, ()))) (
  cond (xv.1 == (1 : Int)) (
   (ZaR fu rv).bind fun r1 =>
   some (((0 : Int), ()), (r1.2.1, (xv.1, r1.1.1, xv.2.2.1, xv.2.2.2.1, xv.2.2.2.2.1, xv.2.2.2.2.2.1, xv.2.2.2.2.2.2.1, ()), ()))) (
   cond (xv.1 == (4 : Int)) (
    (Zak fu rv).bind fun r2 =>
    (Zak fu r2.2.1).bind fun r3 =>
    let t4 := decide (r2.1.1 < (1 : Int))
    cond t4 (
     (Zaz fu r3.2.1 (2 : Int)).bind fun r5 =>
     some (((1 : Int), ()), (r5.2.1, (xv.1, xv.2.1, xv.2.2.1, xv.2.2.2.1, r2.1.1, r3.1.1, xv.2.2.2.2.2.2.1, ()), ()))) (
     cond (decide (r2.1.1 > r3.1.1)) (
      (Zaz fu r3.2.1 (2 : Int)).bind fun r6 =>
      some (((1 : Int), ()), (r6.2.1, (xv.1, xv.2.1, xv.2.2.1, xv.2.2.2.1, r2.1.1, r3.1.1, xv.2.2.2.2.2.2.1, ()), ()))) (
      let t7 := decide (r3.1.1 > (8 : Int))
      cond t7 (
       (Zaz fu r3.2.1 (2 : Int)).bind fun r8 =>
       some (((1 : Int), ()), (r8.2.1, (xv.1, xv.2.1, xv.2.2.1, xv.2.2.2.1, r2.1.1, r3.1.1, xv.2.2.2.2.2.2.1, ()), ()))) (
       some (((1 : Int), ()), (r3.2.1, (xv.1, xv.2.1, xv.2.2.1, xv.2.2.2.1, r2.1.1, r3.1.1, xv.2.2.2.2.2.2.1, ()), ())))))) (
    (Zak fu rv).bind fun r9 =>
    let t10 := decide (IntKind.i64.wrap r9.1.1 < (2 : Int))
    cond t10 (
     (Zaz fu r9.2.1 (2 : Int)).bind fun r11 =>
     some ((IntKind.i64.wrap r9.1.1, ()), (r11.2.1, xv, ()))) (
     some ((IntKind.i64.wrap r9.1.1, ()), (r9.2.1, xv, ()))))))
noncomputable def ZaW.body : Code := Try.f125.body.getD .skip
noncomputable def ZaW.con : OCon := { ps := [.obj kO11, .obj kO13], rs := [.dat (.int .i64)], f := fun n x => ZaW n x.1 x.2.1 }
abbrev ZaW.R : Type := (RT ZaW.con.rs × BT ZaW.con.ps)
noncomputable def ZaW.env : Env := { tys := [(3, ⟨(.int .i64), 8⟩), (148, ⟨kS14, 64⟩), (39, ⟨(.int .i64), 8⟩), (77, ⟨kS6, 96⟩), (5, ⟨(.int .u8), 1⟩), (75, ⟨kS3, 32⟩), (4, ⟨.bool, 1⟩)], elems := [], ptrs := [], cons := [], objs := [(89, [Zaz.con]), (124, [Zak.con]), (126, [ZaR.con])], loops := [], cuts := [], globs := globs, base := 2 }
noncomputable def ZaW.lp (n : Nat) : LP ZaW.R := fun lo κ body nm K s =>
 loops n ZaW.R lo κ body nm K s
theorem ZaW.sound : ZbP Try.prog globs 125 ZaW.con :=
 Zbl (E := ZaW.env) (c := ZaW.body) (Zbk (G := globs) (lc := []) (lo := [(89, [Zaz.con]), (124, [Zak.con]), (126, [ZaR.con])]) (ZaA (by kernel_rfl)) rfl rfl trivial rfl ⟨⟨⟨Zaz.sound, trivial⟩, by kernel_rfl⟩, ⟨⟨⟨Zak.sound, trivial⟩, by kernel_rfl⟩, ⟨⟨⟨ZaR.sound, trivial⟩, by kernel_rfl⟩, trivial⟩⟩⟩ (by kernel_rfl) (by kernel_rfl)) Try.func125 (by kernel_rfl) (by kernel_rfl) (by kernel_rfl) ZaW.lp (l := []) (by kernel_rfl) (fun n => trivial) (fun n x => by kernel_rfl)
noncomputable def Zaa.b20 (fu : Nat) (ScodeReaderNode : O11 → Int → Option ((Unit) × (O11 × Unit))) (next : Int → Int → Int → Int → (List Int) → Int → (List S6) → Int → Option ((Unit) × (O11 × Unit))) (k1 : (List Int) → Int → (List S6) → Int → Option ((Unit) × (O11 × Unit))) (k3 : Int → (List Int) → Int → (List S6) → Int → Option ((Unit) × (O11 × Unit))) (depth : Int) (atv : Int) (v : Int) (vx2 : Int) (c0 : List Int) (c0x2 : Int) (c0x3 : List S6) (c0x4 : Int) : Option ((Unit) × (O11 × Unit)) :=
 cond (decide (vx2 < v)) (
  cond (c0x4 != (0 : Int)) (
   k1 c0 c0x2 c0x3 c0x4) (
   let t1 := IntKind.i64.wrap (depth + (1 : Int))
   (ScodeReaderNode (c0, c0x2, c0x3, c0x4, ()) t1).bind fun r2 =>
   let t3 := IntKind.i64.wrap (vx2 + (1 : Int))
   next depth atv v t3 r2.2.1.1 r2.2.1.2.1 r2.2.1.2.2.1 r2.2.1.2.2.2.1)) (
  k3 atv c0 c0x2 c0x3 c0x4)
noncomputable def Zaa.l20 (fu : Nat) (ScodeReaderNode : O11 → Int → Option ((Unit) × (O11 × Unit))) (k1 : (List Int) → Int → (List S6) → Int → Option ((Unit) × (O11 × Unit))) (k3 : Int → (List Int) → Int → (List S6) → Int → Option ((Unit) × (O11 × Unit))) : Nat → Int → Int → Int → Int → (List Int) → Int → (List S6) → Int → Option ((Unit) × (O11 × Unit))
 | 0, _, _, _, _, _, _, _, _ => none
 | m + 1, depth, atv, v, vx2, c0, c0x2, c0x3, c0x4 => Zaa.b20 fu ScodeReaderNode (Zaa.l20 fu ScodeReaderNode k1 k3 m) k1 k3 depth atv v vx2 c0 c0x2 c0x3 c0x4
noncomputable def Zaa.j17 (fu : Nat) (ScodeReaderNode : O11 → Int → Option ((Unit) × (O11 × Unit))) (k0 : (List Int) → Int → (List S6) → Int → Option ((Unit) × (O11 × Unit))) (k1 : (List Int) → Int → (List S6) → Int → Option ((Unit) × (O11 × Unit))) (depth : Int) (parts : Int) (c0 : List Int) (c0x2 : Int) (c0x3 : List S6) (c0x4 : Int) (c1 : Int) (b1 : S3) (c1x2 : Bool) (b1x2 : S3) (c1x3 : Int) (c1x4 : Int) (c1x5 : Int) : Option ((Unit) × (O11 × Unit)) :=
 let t1 := [(c1, b1, c1x2, b1x2, c1x3, c1x4, c1x5, ())]
 chk (apOk c0x3 t1 96) <|
 Zaa.l20 fu ScodeReaderNode (fun c0q7 c0q7x2 c0q7x3 c0q7x4 =>
   k1 c0q7 c0q7x2 c0q7x3 c0q7x4) (fun atvq8 c0q8 c0q8x2 c0q8x3 c0q8x4 =>
   let t2 := IntKind.i64.wrap ((c0q8x3.length : Int) - atvq8)
   let t3 := IntKind.i64.wrap (t2 - (1 : Int))
   chk (ixOk c0q8x3 atvq8) <|
   let w4 := modL c0q8x3 atvq8 (fun e => (e.1, (e.2.1, (e.2.2.1, (e.2.2.2.1, (e.2.2.2.2.1, (e.2.2.2.2.2.1, (t3, e.2.2.2.2.2.2.2))))))))
   k0 c0q8 c0q8x2 w4 c0q8x4) fu depth (c0x3.length : Int) parts (0 : Int) c0 c0x2 (c0x3 ++ t1) c0x4
noncomputable def Zaa.j14 (fu : Nat) (ScodeReaderNode : O11 → Int → Option ((Unit) × (O11 × Unit))) (k0 : (List Int) → Int → (List S6) → Int → Option ((Unit) × (O11 × Unit))) (k1 : (List Int) → Int → (List S6) → Int → Option ((Unit) × (O11 × Unit))) (depth : Int) (c0 : List Int) (c0x2 : Int) (c0x3 : List S6) (c0x4 : Int) (c1 : Int) (c1x2 : Bool) (c1x3 : Int) (c1x4 : List S2) (c1x5 : Bool) (c1x6 : Bool) (c1x7 : Int) (c1x8 : List S2) (c1x9 : Int) (c1x10 : Int) (c1x11 : Int) : Option ((Unit) × (O11 × Unit)) :=
 (ZaW fu (c0, c0x2, c0x3, c0x4, ()) (c1, (c1x2, c1x3, c1x4, ()), c1x5, (c1x6, c1x7, c1x8, ()), c1x9, c1x10, c1x11, ())).bind fun r1 =>
 cond r1.2.2.1.2.2.1 (
  (ZaR fu r1.2.1).bind fun r2 =>
  Zaa.j17 fu ScodeReaderNode (fun c0q9 c0q9x2 c0q9x3 c0q9x4 =>
    k0 c0q9 c0q9x2 c0q9x3 c0q9x4) (fun c0q10 c0q10x2 c0q10x3 c0q10x4 =>
    k1 c0q10 c0q10x2 c0q10x3 c0q10x4) depth r1.1.1 r2.2.1.1 r2.2.1.2.1 r2.2.1.2.2.1 r2.2.1.2.2.2.1 r1.2.2.1.1 r1.2.2.1.2.1 r1.2.2.1.2.2.1 r2.1.1 r1.2.2.1.2.2.2.2.1 r1.2.2.1.2.2.2.2.2.1 r1.2.2.1.2.2.2.2.2.2.1) (
  Zaa.j17 fu ScodeReaderNode (fun c0q11 c0q11x2 c0q11x3 c0q11x4 =>
    k0 c0q11 c0q11x2 c0q11x3 c0q11x4) (fun c0q12 c0q12x2 c0q12x3 c0q12x4 =>
    k1 c0q12 c0q12x2 c0q12x3 c0q12x4) depth r1.1.1 r1.2.1.1 r1.2.1.2.1 r1.2.1.2.2.1 r1.2.1.2.2.2.1 r1.2.2.1.1 r1.2.2.1.2.1 r1.2.2.1.2.2.1 r1.2.2.1.2.2.2.1 r1.2.2.1.2.2.2.2.1 r1.2.2.1.2.2.2.2.2.1 r1.2.2.1.2.2.2.2.2.2.1)
noncomputable def Zaa.j12 (fu : Nat) (ScodeReaderNode : O11 → Int → Option ((Unit) × (O11 × Unit))) (k0 : (List Int) → Int → (List S6) → Int → Option ((Unit) × (O11 × Unit))) (k1 : (List Int) → Int → (List S6) → Int → Option ((Unit) × (O11 × Unit))) (depth : Int) (c0 : List Int) (c0x2 : Int) (c0x3 : List S6) (c0x4 : Int) (c1 : Int) (c1x2 : Bool) (c1x3 : Int) (c1x4 : List S2) (c1x5 : Bool) (c1x6 : Bool) (c1x7 : Int) (c1x8 : List S2) (c1x9 : Int) (c1x10 : Int) (c1x11 : Int) : Option ((Unit) × (O11 × Unit)) :=
 cond (c1 != (1 : Int)) (
  cond (depth == (8 : Int)) (
   (Zaz fu (c0, c0x2, c0x3, c0x4, ()) (16 : Int)).bind fun r1 =>
   Zaa.j14 fu ScodeReaderNode (fun c0q13 c0q13x2 c0q13x3 c0q13x4 =>
     k0 c0q13 c0q13x2 c0q13x3 c0q13x4) (fun c0q14 c0q14x2 c0q14x3 c0q14x4 =>
     k1 c0q14 c0q14x2 c0q14x3 c0q14x4) depth r1.2.1.1 r1.2.1.2.1 r1.2.1.2.2.1 r1.2.1.2.2.2.1 c1 c1x2 c1x3 c1x4 c1x5 c1x6 c1x7 c1x8 c1x9 c1x10 c1x11) (
   Zaa.j14 fu ScodeReaderNode (fun c0q15 c0q15x2 c0q15x3 c0q15x4 =>
     k0 c0q15 c0q15x2 c0q15x3 c0q15x4) (fun c0q16 c0q16x2 c0q16x3 c0q16x4 =>
     k1 c0q16 c0q16x2 c0q16x3 c0q16x4) depth c0 c0x2 c0x3 c0x4 c1 c1x2 c1x3 c1x4 c1x5 c1x6 c1x7 c1x8 c1x9 c1x10 c1x11)) (
  Zaa.j14 fu ScodeReaderNode (fun c0q17 c0q17x2 c0q17x3 c0q17x4 =>
    k0 c0q17 c0q17x2 c0q17x3 c0q17x4) (fun c0q18 c0q18x2 c0q18x3 c0q18x4 =>
    k1 c0q18 c0q18x2 c0q18x3 c0q18x4) depth c0 c0x2 c0x3 c0x4 c1 c1x2 c1x3 c1x4 c1x5 c1x6 c1x7 c1x8 c1x9 c1x10 c1x11)
noncomputable def Zaa.j2 (fu : Nat) (ScodeReaderNode : O11 → Int → Option ((Unit) × (O11 × Unit))) (k0 : (List Int) → Int → (List S6) → Int → Option ((Unit) × (O11 × Unit))) (k1 : (List Int) → Int → (List S6) → Int → Option ((Unit) × (O11 × Unit))) (depth : Int) (c0 : List Int) (c0x2 : Int) (c0x3 : List S6) (c0x4 : Int) : Option ((Unit) × (O11 × Unit)) :=
 (Zak fu (c0, c0x2, c0x3, c0x4, ())).bind fun r1 =>
 let t2 := Int.tmod r1.1.1 (16 : Int)
 let t3 := decide (r1.1.1 ≥ (16 : Int))
 cond (r1.1.1 == (1 : Int)) (
  cond (r1.1.1 == (1 : Int)) (
   Zaa.j12 fu ScodeReaderNode (fun c0q19 c0q19x2 c0q19x3 c0q19x4 =>
     k0 c0q19 c0q19x2 c0q19x3 c0q19x4) (fun c0q20 c0q20x2 c0q20x3 c0q20x4 =>
     k1 c0q20 c0q20x2 c0q20x3 c0q20x4) depth r1.2.1.1 r1.2.1.2.1 r1.2.1.2.2.1 r1.2.1.2.2.2.1 t2 false (0 : Int) [] t3 false (0 : Int) [] (0 : Int) (0 : Int) (0 : Int)) (
   (Zaz fu r1.2.1 (11 : Int)).bind fun r4 =>
   Zaa.j12 fu ScodeReaderNode (fun c0q21 c0q21x2 c0q21x3 c0q21x4 =>
     k0 c0q21 c0q21x2 c0q21x3 c0q21x4) (fun c0q22 c0q22x2 c0q22x3 c0q22x4 =>
     k1 c0q22 c0q22x2 c0q22x3 c0q22x4) depth r4.2.1.1 r4.2.1.2.1 r4.2.1.2.2.1 r4.2.1.2.2.2.1 t2 false (0 : Int) [] t3 false (0 : Int) [] (0 : Int) (0 : Int) (0 : Int))) (
  cond (r1.1.1 == (2 : Int)) (
   cond (r1.1.1 == (2 : Int)) (
    Zaa.j12 fu ScodeReaderNode (fun c0q23 c0q23x2 c0q23x3 c0q23x4 =>
      k0 c0q23 c0q23x2 c0q23x3 c0q23x4) (fun c0q24 c0q24x2 c0q24x3 c0q24x4 =>
      k1 c0q24 c0q24x2 c0q24x3 c0q24x4) depth r1.2.1.1 r1.2.1.2.1 r1.2.1.2.2.1 r1.2.1.2.2.2.1 t2 false (0 : Int) [] t3 false (0 : Int) [] (0 : Int) (0 : Int) (0 : Int)) (
    (Zaz fu r1.2.1 (11 : Int)).bind fun r5 =>
    Zaa.j12 fu ScodeReaderNode (fun c0q25 c0q25x2 c0q25x3 c0q25x4 =>
      k0 c0q25 c0q25x2 c0q25x3 c0q25x4) (fun c0q26 c0q26x2 c0q26x3 c0q26x4 =>
      k1 c0q26 c0q26x2 c0q26x3 c0q26x4) depth r5.2.1.1 r5.2.1.2.1 r5.2.1.2.2.1 r5.2.1.2.2.2.1 t2 false (0 : Int) [] t3 false (0 : Int) [] (0 : Int) (0 : Int) (0 : Int))) (
   cond (r1.1.1 == (3 : Int)) (
    cond (r1.1.1 == (3 : Int)) (
     Zaa.j12 fu ScodeReaderNode (fun c0q27 c0q27x2 c0q27x3 c0q27x4 =>
       k0 c0q27 c0q27x2 c0q27x3 c0q27x4) (fun c0q28 c0q28x2 c0q28x3 c0q28x4 =>
       k1 c0q28 c0q28x2 c0q28x3 c0q28x4) depth r1.2.1.1 r1.2.1.2.1 r1.2.1.2.2.1 r1.2.1.2.2.2.1 t2 false (0 : Int) [] t3 false (0 : Int) [] (0 : Int) (0 : Int) (0 : Int)) (
     (Zaz fu r1.2.1 (11 : Int)).bind fun r6 =>
     Zaa.j12 fu ScodeReaderNode (fun c0q29 c0q29x2 c0q29x3 c0q29x4 =>
       k0 c0q29 c0q29x2 c0q29x3 c0q29x4) (fun c0q30 c0q30x2 c0q30x3 c0q30x4 =>
       k1 c0q30 c0q30x2 c0q30x3 c0q30x4) depth r6.2.1.1 r6.2.1.2.1 r6.2.1.2.2.1 r6.2.1.2.2.2.1 t2 false (0 : Int) [] t3 false (0 : Int) [] (0 : Int) (0 : Int) (0 : Int))) (
    cond (r1.1.1 == (4 : Int)) (
     cond (r1.1.1 == (4 : Int)) (
      Zaa.j12 fu ScodeReaderNode (fun c0q31 c0q31x2 c0q31x3 c0q31x4 =>
        k0 c0q31 c0q31x2 c0q31x3 c0q31x4) (fun c0q32 c0q32x2 c0q32x3 c0q32x4 =>
        k1 c0q32 c0q32x2 c0q32x3 c0q32x4) depth r1.2.1.1 r1.2.1.2.1 r1.2.1.2.2.1 r1.2.1.2.2.2.1 t2 false (0 : Int) [] t3 false (0 : Int) [] (0 : Int) (0 : Int) (0 : Int)) (
      (Zaz fu r1.2.1 (11 : Int)).bind fun r7 =>
      Zaa.j12 fu ScodeReaderNode (fun c0q33 c0q33x2 c0q33x3 c0q33x4 =>
        k0 c0q33 c0q33x2 c0q33x3 c0q33x4) (fun c0q34 c0q34x2 c0q34x3 c0q34x4 =>
        k1 c0q34 c0q34x2 c0q34x3 c0q34x4) depth r7.2.1.1 r7.2.1.2.1 r7.2.1.2.2.1 r7.2.1.2.2.2.1 t2 false (0 : Int) [] t3 false (0 : Int) [] (0 : Int) (0 : Int) (0 : Int))) (
     cond (r1.1.1 == (18 : Int)) (
      cond (r1.1.1 == (18 : Int)) (
       Zaa.j12 fu ScodeReaderNode (fun c0q35 c0q35x2 c0q35x3 c0q35x4 =>
         k0 c0q35 c0q35x2 c0q35x3 c0q35x4) (fun c0q36 c0q36x2 c0q36x3 c0q36x4 =>
         k1 c0q36 c0q36x2 c0q36x3 c0q36x4) depth r1.2.1.1 r1.2.1.2.1 r1.2.1.2.2.1 r1.2.1.2.2.2.1 t2 false (0 : Int) [] t3 false (0 : Int) [] (0 : Int) (0 : Int) (0 : Int)) (
       (Zaz fu r1.2.1 (11 : Int)).bind fun r8 =>
       Zaa.j12 fu ScodeReaderNode (fun c0q37 c0q37x2 c0q37x3 c0q37x4 =>
         k0 c0q37 c0q37x2 c0q37x3 c0q37x4) (fun c0q38 c0q38x2 c0q38x3 c0q38x4 =>
         k1 c0q38 c0q38x2 c0q38x3 c0q38x4) depth r8.2.1.1 r8.2.1.2.1 r8.2.1.2.2.1 r8.2.1.2.2.2.1 t2 false (0 : Int) [] t3 false (0 : Int) [] (0 : Int) (0 : Int) (0 : Int))) (
      cond (r1.1.1 == (20 : Int)) (
       Zaa.j12 fu ScodeReaderNode (fun c0q39 c0q39x2 c0q39x3 c0q39x4 =>
         k0 c0q39 c0q39x2 c0q39x3 c0q39x4) (fun c0q40 c0q40x2 c0q40x3 c0q40x4 =>
         k1 c0q40 c0q40x2 c0q40x3 c0q40x4) depth r1.2.1.1 r1.2.1.2.1 r1.2.1.2.2.1 r1.2.1.2.2.2.1 t2 false (0 : Int) [] t3 false (0 : Int) [] (0 : Int) (0 : Int) (0 : Int)) (
       (Zaz fu r1.2.1 (11 : Int)).bind fun r9 =>
       Zaa.j12 fu ScodeReaderNode (fun c0q41 c0q41x2 c0q41x3 c0q41x4 =>
         k0 c0q41 c0q41x2 c0q41x3 c0q41x4) (fun c0q42 c0q42x2 c0q42x3 c0q42x4 =>
         k1 c0q42 c0q42x2 c0q42x3 c0q42x4) depth r9.2.1.1 r9.2.1.2.1 r9.2.1.2.2.1 r9.2.1.2.2.2.1 t2 false (0 : Int) [] t3 false (0 : Int) [] (0 : Int) (0 : Int) (0 : Int)))))))
noncomputable def Zaa.bd (fu : Nat) (ScodeReaderNode : O11 → Int → Option ((Unit) × (O11 × Unit))) (rv : O11) (depth : Int) : Option ((Unit) × (O11 × Unit)) :=
 let t1 := (rv.2.2.1.length : Int) == (32 : Int)
 cond t1 (
  (Zaz fu rv (12 : Int)).bind fun r2 =>
  Zaa.j2 fu ScodeReaderNode (fun c0q1 c0q1x2 c0q1x3 c0q1x4 =>
    some ((()), ((c0q1, c0q1x2, c0q1x3, c0q1x4, ()), ()))) (fun c0q2 c0q2x2 c0q2x3 c0q2x4 =>
    some ((()), ((c0q2, c0q2x2, c0q2x3, c0q2x4, ()), ()))) depth r2.2.1.1 r2.2.1.2.1 r2.2.1.2.2.1 r2.2.1.2.2.2.1) (
  Zaa.j2 fu ScodeReaderNode (fun c0q3 c0q3x2 c0q3x3 c0q3x4 =>
    some ((()), ((c0q3, c0q3x2, c0q3x3, c0q3x4, ()), ()))) (fun c0q4 c0q4x2 c0q4x3 c0q4x4 =>
    some ((()), ((c0q4, c0q4x2, c0q4x3, c0q4x4, ()), ()))) depth rv.1 rv.2.1 rv.2.2.1 rv.2.2.2.1)
noncomputable def Zaa (fu : Nat) (m : Nat) : O11 → Int → Option ((Unit) × (O11 × Unit)) :=
 Nat.rec (fun _ _ => none) (fun _ ScodeReaderNode => Zaa.bd fu ScodeReaderNode) m
noncomputable def Zaa.conM (m : Nat) : OCon := { ps := [.obj kO11, .dat (.int .i64)], rs := [], f := fun n x => Zaa n m x.1 x.2.1 }
noncomputable def Zaa.con : OCon := { ps := [.obj kO11, .dat (.int .i64)], rs := [], f := fun n x => Zaa n n x.1 x.2.1 }
noncomputable def Zaa.body : Code := Try.f88.body.getD .skip
abbrev Zaa.shl20 : Shp := ⟨.p 0 0 :: .d (.int .i64) :: us 5 (.d (.int .i64) :: us 56 (.d (.int .i64) :: .d (.int .i64) :: us 26 [])), [.c [.d (.slice (.int .u8)), .d (.int .i64), .mo kS6, .d (.int .i64)]]⟩
abbrev Zaa.outl20e1 : Shp := ⟨us 92 [], [.c [.d (.slice (.int .u8)), .d (.int .i64), .mo kS6, .d (.int .i64)]]⟩
abbrev Zaa.outl20e3 : Shp := ⟨.p 0 0 :: us 6 (.d (.int .i64) :: us 84 []), [.c [.d (.slice (.int .u8)), .d (.int .i64), .mo kS6, .d (.int .i64)]]⟩
noncomputable def Zaa.nml20 : Norm := ⟨Zaa.shl20.cut [], [(1, Zaa.outl20e1.cut []), (3, Zaa.outl20e3.cut [])]⟩
abbrev Zaa.shj17 : Shp := ⟨.p 0 0 :: .d (.int .i64) :: us 3 (.p 1 0 :: .d (.int .i64) :: us 85 []), [.c [.d (.slice (.int .u8)), .d (.int .i64), .mo kS6, .d (.int .i64)], .c [.d (.int .u8), .g kS3, .d .bool, .g kS3, .d (.int .u8), .d (.int .u8), .d (.int .i64)]]⟩
abbrev Zaa.outj17e0 : Shp := ⟨us 92 [], [.c [.d (.slice (.int .u8)), .d (.int .i64), .mo kS6, .d (.int .i64)]]⟩
abbrev Zaa.outj17e1 : Shp := ⟨us 92 [], [.c [.d (.slice (.int .u8)), .d (.int .i64), .mo kS6, .d (.int .i64)]]⟩
noncomputable def Zaa.nmj17 : Norm := ⟨Zaa.shj17.cut [], [(0, Zaa.outj17e0.cut []), (1, Zaa.outj17e1.cut [])]⟩
abbrev Zaa.shj14 : Shp := ⟨.p 0 0 :: .d (.int .i64) :: us 3 (.p 1 0 :: us 86 []), [.c [.d (.slice (.int .u8)), .d (.int .i64), .mo kS6, .d (.int .i64)], .c [.d (.int .u8), .d .bool, .d (.int .u8), .o 1053 kS2, .d .bool, .d .bool, .d (.int .u8), .o 1057 kS2, .d (.int .u8), .d (.int .u8), .d (.int .i64)]]⟩
abbrev Zaa.outj14e0 : Shp := ⟨us 92 [], [.c [.d (.slice (.int .u8)), .d (.int .i64), .mo kS6, .d (.int .i64)]]⟩
abbrev Zaa.outj14e1 : Shp := ⟨us 92 [], [.c [.d (.slice (.int .u8)), .d (.int .i64), .mo kS6, .d (.int .i64)]]⟩
noncomputable def Zaa.nmj14 : Norm := ⟨Zaa.shj14.cut [], [(0, Zaa.outj14e0.cut []), (1, Zaa.outj14e1.cut [])]⟩
abbrev Zaa.shj12 : Shp := ⟨.p 0 0 :: .d (.int .i64) :: us 3 (.p 1 0 :: us 86 []), [.c [.d (.slice (.int .u8)), .d (.int .i64), .mo kS6, .d (.int .i64)], .c [.d (.int .u8), .d .bool, .d (.int .u8), .o 1053 kS2, .d .bool, .d .bool, .d (.int .u8), .o 1057 kS2, .d (.int .u8), .d (.int .u8), .d (.int .i64)]]⟩
abbrev Zaa.outj12e0 : Shp := ⟨us 92 [], [.c [.d (.slice (.int .u8)), .d (.int .i64), .mo kS6, .d (.int .i64)]]⟩
abbrev Zaa.outj12e1 : Shp := ⟨us 92 [], [.c [.d (.slice (.int .u8)), .d (.int .i64), .mo kS6, .d (.int .i64)]]⟩
noncomputable def Zaa.nmj12 : Norm := ⟨Zaa.shj12.cut [], [(0, Zaa.outj12e0.cut []), (1, Zaa.outj12e1.cut [])]⟩
abbrev Zaa.shj2 : Shp := ⟨.p 0 0 :: .d (.int .i64) :: us 90 [], [.c [.d (.slice (.int .u8)), .d (.int .i64), .mo kS6, .d (.int .i64)]]⟩
abbrev Zaa.outj2e0 : Shp := ⟨us 92 [], [.c [.d (.slice (.int .u8)), .d (.int .i64), .mo kS6, .d (.int .i64)]]⟩
abbrev Zaa.outj2e1 : Shp := ⟨us 92 [], [.c [.d (.slice (.int .u8)), .d (.int .i64), .mo kS6, .d (.int .i64)]]⟩
noncomputable def Zaa.nmj2 : Norm := ⟨Zaa.shj2.cut [], [(0, Zaa.outj2e0.cut []), (1, Zaa.outj2e1.cut [])]⟩
abbrev Zaa.R (mcodeReaderNode : Nat) : Type := (RT (Zaa.conM (Nat.succ mcodeReaderNode)).rs × BT (Zaa.conM (Nat.succ mcodeReaderNode)).ps)
noncomputable def Zaa.env (mcodeReaderNode : Nat) : Env := { tys := [(148, ⟨kS14, 64⟩), (66, ⟨(.slice kS6), 24⟩), (77, ⟨kS6, 96⟩), (5, ⟨(.int .u8), 1⟩), (4, ⟨.bool, 1⟩), (75, ⟨kS3, 32⟩), (3, ⟨(.int .i64), 8⟩), (39, ⟨(.int .i64), 8⟩)], elems := [(66, 77)], ptrs := [], cons := [], objs := [(88, [(Zaa.conM mcodeReaderNode)]), (89, [Zaz.con]), (124, [Zak.con]), (125, [ZaW.con]), (126, [ZaR.con])], loops := [(20, Zaa.nml20)], cuts := [(17, Zaa.nmj17), (14, Zaa.nmj14), (12, Zaa.nmj12), (2, Zaa.nmj2)], globs := globs, base := 1, grows := true }
noncomputable def Zaa.cl20 (mcodeReaderNode : Nat) (n : Nat) (K : Ex → St → Option (Zaa.R mcodeReaderNode)) (m : Nat) (v : Zaa.shl20.T) : Option (Zaa.R mcodeReaderNode) := Zaa.l20 n (Zaa n mcodeReaderNode) (fun w0 w1 w2 w3 => K .ret (Zaa.outl20e1.enc (w0, w1, w2, w3, ()))) (fun w0 w1 w2 w3 w4 => K (.exit 1) (Zaa.outl20e3.enc (w0, w1, w2, w3, w4, ()))) m v.1 v.2.1 v.2.2.1 v.2.2.2.1 v.2.2.2.2.1 v.2.2.2.2.2.1 v.2.2.2.2.2.2.1 v.2.2.2.2.2.2.2.1
noncomputable def Zaa.cj17 (mcodeReaderNode : Nat) (n : Nat) (K : Ex → St → Option (Zaa.R mcodeReaderNode)) (v : Zaa.shj17.T) : Option (Zaa.R mcodeReaderNode) := Zaa.j17 n (Zaa n mcodeReaderNode) (fun w0 w1 w2 w3 => K .normal (Zaa.outj17e0.enc (w0, w1, w2, w3, ()))) (fun w0 w1 w2 w3 => K .ret (Zaa.outj17e1.enc (w0, w1, w2, w3, ()))) v.1 v.2.1 v.2.2.1 v.2.2.2.1 v.2.2.2.2.1 v.2.2.2.2.2.1 v.2.2.2.2.2.2.1 v.2.2.2.2.2.2.2.1 v.2.2.2.2.2.2.2.2.1 v.2.2.2.2.2.2.2.2.2.1 v.2.2.2.2.2.2.2.2.2.2.1 v.2.2.2.2.2.2.2.2.2.2.2.1 v.2.2.2.2.2.2.2.2.2.2.2.2.1
noncomputable def Zaa.cj14 (mcodeReaderNode : Nat) (n : Nat) (K : Ex → St → Option (Zaa.R mcodeReaderNode)) (v : Zaa.shj14.T) : Option (Zaa.R mcodeReaderNode) := Zaa.j14 n (Zaa n mcodeReaderNode) (fun w0 w1 w2 w3 => K .normal (Zaa.outj14e0.enc (w0, w1, w2, w3, ()))) (fun w0 w1 w2 w3 => K .ret (Zaa.outj14e1.enc (w0, w1, w2, w3, ()))) v.1 v.2.1 v.2.2.1 v.2.2.2.1 v.2.2.2.2.1 v.2.2.2.2.2.1 v.2.2.2.2.2.2.1 v.2.2.2.2.2.2.2.1 v.2.2.2.2.2.2.2.2.1 v.2.2.2.2.2.2.2.2.2.1 v.2.2.2.2.2.2.2.2.2.2.1 v.2.2.2.2.2.2.2.2.2.2.2.1 v.2.2.2.2.2.2.2.2.2.2.2.2.1 v.2.2.2.2.2.2.2.2.2.2.2.2.2.1 v.2.2.2.2.2.2.2.2.2.2.2.2.2.2.1 v.2.2.2.2.2.2.2.2.2.2.2.2.2.2.2.1
noncomputable def Zaa.cj12 (mcodeReaderNode : Nat) (n : Nat) (K : Ex → St → Option (Zaa.R mcodeReaderNode)) (v : Zaa.shj12.T) : Option (Zaa.R mcodeReaderNode) := Zaa.j12 n (Zaa n mcodeReaderNode) (fun w0 w1 w2 w3 => K .normal (Zaa.outj12e0.enc (w0, w1, w2, w3, ()))) (fun w0 w1 w2 w3 => K .ret (Zaa.outj12e1.enc (w0, w1, w2, w3, ()))) v.1 v.2.1 v.2.2.1 v.2.2.2.1 v.2.2.2.2.1 v.2.2.2.2.2.1 v.2.2.2.2.2.2.1 v.2.2.2.2.2.2.2.1 v.2.2.2.2.2.2.2.2.1 v.2.2.2.2.2.2.2.2.2.1 v.2.2.2.2.2.2.2.2.2.2.1 v.2.2.2.2.2.2.2.2.2.2.2.1 v.2.2.2.2.2.2.2.2.2.2.2.2.1 v.2.2.2.2.2.2.2.2.2.2.2.2.2.1 v.2.2.2.2.2.2.2.2.2.2.2.2.2.2.1 v.2.2.2.2.2.2.2.2.2.2.2.2.2.2.2.1
noncomputable def Zaa.cj2 (mcodeReaderNode : Nat) (n : Nat) (K : Ex → St → Option (Zaa.R mcodeReaderNode)) (v : Zaa.shj2.T) : Option (Zaa.R mcodeReaderNode) := Zaa.j2 n (Zaa n mcodeReaderNode) (fun w0 w1 w2 w3 => K .normal (Zaa.outj2e0.enc (w0, w1, w2, w3, ()))) (fun w0 w1 w2 w3 => K .ret (Zaa.outj2e1.enc (w0, w1, w2, w3, ()))) v.1 v.2.1 v.2.2.1 v.2.2.2.1 v.2.2.2.2.1
noncomputable def Zaa.lp (mcodeReaderNode : Nat) (n : Nat) : LP (Zaa.R mcodeReaderNode) := fun lo κ body nm K s =>
 cond (lo && Nat.beq κ 20) (pc Zaa.shl20 (Zaa.cl20 mcodeReaderNode n K n) (loops n (Zaa.R mcodeReaderNode) lo κ body nm K) s) <|
  cond (!lo && Nat.beq κ 17) (pc Zaa.shj17 (Zaa.cj17 mcodeReaderNode n K) (loops n (Zaa.R mcodeReaderNode) lo κ body nm K) s) <|
  cond (!lo && Nat.beq κ 14) (pc Zaa.shj14 (Zaa.cj14 mcodeReaderNode n K) (loops n (Zaa.R mcodeReaderNode) lo κ body nm K) s) <|
  cond (!lo && Nat.beq κ 12) (pc Zaa.shj12 (Zaa.cj12 mcodeReaderNode n K) (loops n (Zaa.R mcodeReaderNode) lo κ body nm K) s) <|
  cond (!lo && Nat.beq κ 2) (pc Zaa.shj2 (Zaa.cj2 mcodeReaderNode n K) (loops n (Zaa.R mcodeReaderNode) lo κ body nm K) s) <|
  loops n (Zaa.R mcodeReaderNode) lo κ body nm K s
noncomputable def Zaa.tl20 (mcodeReaderNode : Nat) (n : Nat) := evK (β := (Zaa.R mcodeReaderNode)) (Zaa.env mcodeReaderNode) (Zaa.lp mcodeReaderNode n) n (sub [1, 1, 1, 1, 1, 1, 1, 1, 1, 0, 1, 0, 0] Zaa.body)
theorem Zaa.atl20 (mcodeReaderNode : Nat) (n : Nat) : At n (Zaa.lp mcodeReaderNode n) true 20 (Zaa.tl20 mcodeReaderNode n) Zaa.nml20 := fun s K =>
 ZbR (sh := Zaa.shl20) (F := (Zaa.cl20 mcodeReaderNode n K n)) (B := loops n _ true 20 (Zaa.tl20 mcodeReaderNode n) Zaa.nml20 K) (fun v => (Zbc (sh := Zaa.shl20) (body := (Zaa.tl20 mcodeReaderNode n)) (nm := Zaa.nml20) (b := fun nx v => Zaa.b20 n (Zaa n mcodeReaderNode) (fun x0 x1 x2 x3 x4 x5 x6 x7 => nx (x0, x1, x2, x3, x4, x5, x6, x7, ())) (fun w0 w1 w2 w3 => K .ret (Zaa.outl20e1.enc (w0, w1, w2, w3, ()))) (fun w0 w1 w2 w3 w4 => K (.exit 1) (Zaa.outl20e3.enc (w0, w1, w2, w3, w4, ()))) v.1 v.2.1 v.2.2.1 v.2.2.2.1 v.2.2.2.2.1 v.2.2.2.2.2.1 v.2.2.2.2.2.2.1 v.2.2.2.2.2.2.2.1) (l := (Zaa.cl20 mcodeReaderNode n K)) (fun _ => rfl) (fun _ _ => rfl) (fun m v => by kernel_rfl) n v).symm) s
noncomputable def Zaa.tj17 (mcodeReaderNode : Nat) (n : Nat) := evK (β := (Zaa.R mcodeReaderNode)) (Zaa.env mcodeReaderNode) (Zaa.lp mcodeReaderNode n) n (sub [1, 1, 1, 1, 1, 1, 1] Zaa.body)
theorem Zaa.atj17 (mcodeReaderNode : Nat) (n : Nat) : At n (Zaa.lp mcodeReaderNode n) false 17 (Zaa.tj17 mcodeReaderNode n) Zaa.nmj17 := fun s K =>
 ZbR (sh := Zaa.shj17) (F := (Zaa.cj17 mcodeReaderNode n K)) (B := loops n _ false 17 (Zaa.tj17 mcodeReaderNode n) Zaa.nmj17 K) (fun v => by kernel_rfl) s
noncomputable def Zaa.tj14 (mcodeReaderNode : Nat) (n : Nat) := evK (β := (Zaa.R mcodeReaderNode)) (Zaa.env mcodeReaderNode) (Zaa.lp mcodeReaderNode n) n (sub [1, 1, 1, 1, 1] Zaa.body)
theorem Zaa.atj14 (mcodeReaderNode : Nat) (n : Nat) : At n (Zaa.lp mcodeReaderNode n) false 14 (Zaa.tj14 mcodeReaderNode n) Zaa.nmj14 := fun s K =>
 ZbR (sh := Zaa.shj14) (F := (Zaa.cj14 mcodeReaderNode n K)) (B := loops n _ false 14 (Zaa.tj14 mcodeReaderNode n) Zaa.nmj14 K) (fun v => by kernel_rfl) s
noncomputable def Zaa.tj12 (mcodeReaderNode : Nat) (n : Nat) := evK (β := (Zaa.R mcodeReaderNode)) (Zaa.env mcodeReaderNode) (Zaa.lp mcodeReaderNode n) n (sub [1, 1, 1, 1] Zaa.body)
theorem Zaa.atj12 (mcodeReaderNode : Nat) (n : Nat) : At n (Zaa.lp mcodeReaderNode n) false 12 (Zaa.tj12 mcodeReaderNode n) Zaa.nmj12 := fun s K =>
 ZbR (sh := Zaa.shj12) (F := (Zaa.cj12 mcodeReaderNode n K)) (B := loops n _ false 12 (Zaa.tj12 mcodeReaderNode n) Zaa.nmj12 K) (fun v => by kernel_rfl) s
noncomputable def Zaa.tj2 (mcodeReaderNode : Nat) (n : Nat) := evK (β := (Zaa.R mcodeReaderNode)) (Zaa.env mcodeReaderNode) (Zaa.lp mcodeReaderNode n) n (sub [1] Zaa.body)
theorem Zaa.atj2 (mcodeReaderNode : Nat) (n : Nat) : At n (Zaa.lp mcodeReaderNode n) false 2 (Zaa.tj2 mcodeReaderNode n) Zaa.nmj2 := fun s K =>
 ZbR (sh := Zaa.shj2) (F := (Zaa.cj2 mcodeReaderNode n K)) (B := loops n _ false 2 (Zaa.tj2 mcodeReaderNode n) Zaa.nmj2 K) (fun v => by kernel_rfl) s
theorem Zaa.step (mcodeReaderNode : Nat) (ihcodeReaderNode : ZbP Try.prog globs 88 (Zaa.conM mcodeReaderNode)) : ZbP Try.prog globs 88 (Zaa.conM (Nat.succ mcodeReaderNode)) :=
 Zbl (E := (Zaa.env mcodeReaderNode)) (c := Zaa.body) (Zbk (G := globs) (lc := []) (lo := [(88, [(Zaa.conM mcodeReaderNode)]), (89, [Zaz.con]), (124, [Zak.con]), (125, [ZaW.con]), (126, [ZaR.con])]) (ZaA (by kernel_rfl)) rfl rfl trivial rfl ⟨⟨⟨ihcodeReaderNode, trivial⟩, by kernel_rfl⟩, ⟨⟨⟨Zaz.sound, trivial⟩, by kernel_rfl⟩, ⟨⟨⟨Zak.sound, trivial⟩, by kernel_rfl⟩, ⟨⟨⟨ZaW.sound, trivial⟩, by kernel_rfl⟩, ⟨⟨⟨ZaR.sound, trivial⟩, by kernel_rfl⟩, trivial⟩⟩⟩⟩⟩ (by kernel_rfl) (by kernel_rfl)) Try.func88 (by kernel_rfl) (by kernel_rfl) (by kernel_rfl) (Zaa.lp mcodeReaderNode) (l := [(true, sub [1, 1, 1, 1, 1, 1, 1, 1, 1, 0, 1, 0, 0] Zaa.body, Zaa.nml20), (false, sub [1, 1, 1, 1, 1, 1, 1] Zaa.body, Zaa.nmj17), (false, sub [1, 1, 1, 1, 1] Zaa.body, Zaa.nmj14), (false, sub [1, 1, 1, 1] Zaa.body, Zaa.nmj12), (false, sub [1] Zaa.body, Zaa.nmj2)]) (by kernel_rfl) (fun n => ⟨Zaa.atl20 mcodeReaderNode n, ⟨Zaa.atj17 mcodeReaderNode n, ⟨Zaa.atj14 mcodeReaderNode n, ⟨Zaa.atj12 mcodeReaderNode n, ⟨Zaa.atj2 mcodeReaderNode n, trivial⟩⟩⟩⟩⟩) (fun n x => by kernel_rfl)
theorem Zaa.soundM (m : Nat) : ZbP Try.prog globs 88 (Zaa.conM m) := by
 induction m with
 | zero => intro n x r h; cases (show none = some r from h)
 | succ m ih => exact Zaa.step m ih
theorem Zaa.sound : ZbP Try.prog globs 88 Zaa.con :=
 ZiW (ps := [.obj kO11, .dat (.int .i64)]) (rs := []) (F := fun n m x => Zaa n m x.1 x.2.1) (Zaa.soundM)
noncomputable def ZaK.j11 (fu : Nat) (k1 : Int → (List S6) → Int → Option (S7 × Int × Unit)) (c0 : List S6) (c0x2 : Int) (c1 : List Int) (c1x2 : Int) (c1x3 : Int) (b2 : S7) : Option (S7 × Int × Unit) :=
 cond (c1x3 != (0 : Int)) (
  k1 c1x3 [] (0 : Int)) (
  k1 (0 : Int) b2.1 b2.2.1)
noncomputable def ZaK.j8 (fu : Nat) (k1 : Int → (List S6) → Int → Option (S7 × Int × Unit)) (w : Int) (c0 : List S6) (c0x2 : Int) (c1 : List Int) (c1x2 : Int) (c1x3 : List S6) (c1x4 : Int) : Option (S7 × Int × Unit) :=
 cond (c1x4 == (0 : Int)) (
  (ZaT fu (c1x3, w, ())).bind fun r1 =>
  ZaK.j11 fu (fun vq3 c0q3 c0q3x2 =>
    k1 vq3 c0q3 c0q3x2) c0 c0x2 c1 c1x2 r1.1 (c1x3, w, ())) (
  ZaK.j11 fu (fun vq4 c0q4 c0q4x2 =>
    k1 vq4 c0q4 c0q4x2) c0 c0x2 c1 c1x2 c1x4 (c1x3, w, ()))
noncomputable def ZaK (fu : Nat) (b : List Int) : Option (S7 × Int × Unit) :=
 (Zaq fu b (0 : Int)).bind fun r1 =>
 cond (r1.2.2.1 != (0 : Int)) (
  some (([], (0 : Int), ()), r1.2.2.1, ())) (
  (Zaa fu fu (b, r1.2.1, [], (0 : Int), ()) (0 : Int)).bind fun r2 =>
  let t3 := decide (r2.2.1.2.1 < (b.length : Int))
  cond t3 (
   (Zaz fu r2.2.1 (2 : Int)).bind fun r4 =>
   ZaK.j8 fu (fun vq1 c0q1 c0q1x2 =>
     some ((c0q1, c0q1x2, ()), vq1, ())) r1.1 [] (0 : Int) r4.2.1.1 r4.2.1.2.1 r4.2.1.2.2.1 r4.2.1.2.2.2.1) (
   ZaK.j8 fu (fun vq2 c0q2 c0q2x2 =>
     some ((c0q2, c0q2x2, ()), vq2, ())) r1.1 [] (0 : Int) r2.2.1.1 r2.2.1.2.1 r2.2.1.2.2.1 r2.2.1.2.2.2.1))
noncomputable def ZaK.body : Code := Try.f45.body.getD .skip
abbrev ZaK.shj11 : Shp := ⟨.u :: .u :: .p 0 0 :: us 4 (.p 1 0 :: .p 2 0 :: us 52 []), [.c [.o 1000 kS6, .d (.int .u64)], .c [.d (.slice (.int .u8)), .d (.int .i64), .u, .d (.int .i64)], .c [.g kS7]]⟩
abbrev ZaK.outj11e1 : Shp := ⟨.u :: .u :: .p 0 0 :: .d (.int .i64) :: us 57 [], [.c [.d (.slice kS6), .d (.int .u64)]]⟩
noncomputable def ZaK.nmj11 : Norm := ⟨ZaK.shj11.cut [], [(1, ZaK.outj11e1.cut [])]⟩
abbrev ZaK.shj8 : Shp := ⟨.u :: .u :: .p 0 0 :: .u :: .d (.int .u64) :: .u :: .u :: .p 1 0 :: us 53 [], [.c [.o 1000 kS6, .d (.int .u64)], .c [.d (.slice (.int .u8)), .d (.int .i64), .mo kS6, .d (.int .i64)]]⟩
abbrev ZaK.outj8e1 : Shp := ⟨.u :: .u :: .p 0 0 :: .d (.int .i64) :: us 57 [], [.c [.d (.slice kS6), .d (.int .u64)]]⟩
noncomputable def ZaK.nmj8 : Norm := ⟨ZaK.shj8.cut [], [(1, ZaK.outj8e1.cut [])]⟩
noncomputable def ZaK.con : Con := { ps := [(.slice (.int .u8))], rs := [kS7, (.int .i64)], f := fun n x => ZaK n x.1 }
abbrev ZaK.R : Type := (Kd.struct ZaK.con.rs).T
noncomputable def ZaK.env : Env := { tys := [(68, ⟨kS7, 32⟩), (39, ⟨(.int .i64), 8⟩), (148, ⟨kS14, 64⟩), (3, ⟨(.int .i64), 8⟩), (5, ⟨(.int .u8), 1⟩), (66, ⟨(.slice kS6), 24⟩)], elems := [(38, 5)], ptrs := [], cons := [(87, Zaq.con), (33, ZaT.con)], objs := [(88, [Zaa.con]), (89, [Zaz.con])], loops := [], cuts := [(11, ZaK.nmj11), (8, ZaK.nmj8)], globs := globs, base := 0, rooms := [999999], shuts := [37] }
noncomputable def ZaK.cj11 (n : Nat) (K : Ex → St → Option ZaK.R) (v : ZaK.shj11.T) : Option ZaK.R := ZaK.j11 n (fun w0 w1 w2 => K .ret (ZaK.outj11e1.enc (w0, w1, w2, ()))) v.1 v.2.1 v.2.2.1 v.2.2.2.1 v.2.2.2.2.1 v.2.2.2.2.2.1
noncomputable def ZaK.cj8 (n : Nat) (K : Ex → St → Option ZaK.R) (v : ZaK.shj8.T) : Option ZaK.R := ZaK.j8 n (fun w0 w1 w2 => K .ret (ZaK.outj8e1.enc (w0, w1, w2, ()))) v.1 v.2.1 v.2.2.1 v.2.2.2.1 v.2.2.2.2.1 v.2.2.2.2.2.1 v.2.2.2.2.2.2.1
noncomputable def ZaK.lp (n : Nat) : LP ZaK.R := fun lo κ body nm K s =>
 cond (!lo && Nat.beq κ 11) (pc ZaK.shj11 (ZaK.cj11 n K) (loops n ZaK.R lo κ body nm K) s) <|
  cond (!lo && Nat.beq κ 8) (pc ZaK.shj8 (ZaK.cj8 n K) (loops n ZaK.R lo κ body nm K) s) <|
  loops n ZaK.R lo κ body nm K s
noncomputable def ZaK.tj11 (n : Nat) := evK (β := ZaK.R) ZaK.env (ZaK.lp n) n (sub [1, 1, 1, 1, 1, 1, 1, 1] ZaK.body)
theorem ZaK.atj11 (n : Nat) : At n (ZaK.lp n) false 11 (ZaK.tj11 n) ZaK.nmj11 := fun s K =>
 ZbR (sh := ZaK.shj11) (F := (ZaK.cj11 n K)) (B := loops n _ false 11 (ZaK.tj11 n) ZaK.nmj11 K) (fun v => by kernel_rfl) s
noncomputable def ZaK.tj8 (n : Nat) := evK (β := ZaK.R) ZaK.env (ZaK.lp n) n (sub [1, 1, 1, 1, 1, 1] ZaK.body)
theorem ZaK.atj8 (n : Nat) : At n (ZaK.lp n) false 8 (ZaK.tj8 n) ZaK.nmj8 := fun s K =>
 ZbR (sh := ZaK.shj8) (F := (ZaK.cj8 n K)) (B := loops n _ false 8 (ZaK.tj8 n) ZaK.nmj8 K) (fun v => by kernel_rfl) s
theorem ZaK.sound : Zbi Try.prog globs 45 ZaK.con :=
 ZaS (E := ZaK.env) (c := ZaK.body) (Zbk (G := globs) (lc := [(87, Zaq.con), (33, ZaT.con)]) (lo := [(88, [Zaa.con]), (89, [Zaz.con])]) (ZaA (by kernel_rfl)) rfl rfl ⟨.inl ⟨Zaq.sound, by kernel_rfl⟩, ⟨.inl ⟨ZaT.sound, by kernel_rfl⟩, trivial⟩⟩ rfl ⟨⟨⟨Zaa.sound, trivial⟩, by kernel_rfl⟩, ⟨⟨⟨Zaz.sound, trivial⟩, by kernel_rfl⟩, trivial⟩⟩ (by kernel_rfl) (by kernel_rfl)) Try.func45 (by kernel_rfl) ZaK.lp (l := [(false, sub [1, 1, 1, 1, 1, 1, 1, 1] ZaK.body, ZaK.nmj11), (false, sub [1, 1, 1, 1, 1, 1] ZaK.body, ZaK.nmj8)]) (by kernel_rfl) (fun n => ⟨ZaK.atj11 n, ⟨ZaK.atj8 n, trivial⟩⟩) (fun n x => by kernel_rfl)
noncomputable def ZbG (fu : Nat) (a : S1) (b : S1) : Option (Bool × Unit) :=
 cond (a.1 != b.1) (
  some (false, ())) (
  cond (a.1 == (1 : Int)) (
   some (a.2.1 == b.2.1, ())) (
   cond (a.1 == (2 : Int)) (
    (Zcf fu a.2.2.1).bind fun r1 =>
    (ZaO fu r1.1).bind fun r2 =>
    (Zcf fu b.2.2.1).bind fun r3 =>
    (ZaO fu r3.1).bind fun r4 =>
    some (r2.1 == r4.1, ())) (
    cond (a.1 == (3 : Int)) (
     some (a.2.2.2.1 == b.2.2.2.1, ())) (
     some (true, ())))))
noncomputable def ZbG.body : Code := Try.f15.body.getD .skip
noncomputable def ZbG.con : Con := { ps := [kS1, kS1], rs := [.bool], f := fun n x => ZbG n x.1 x.2.1 }
abbrev ZbG.R : Type := (Kd.struct ZbG.con.rs).T
noncomputable def ZbG.env : Env := { tys := [(34, ⟨kS1, 40⟩), (4, ⟨.bool, 1⟩), (5, ⟨(.int .u8), 1⟩), (2, ⟨(.int .i64), 8⟩), (32, ⟨.flt, 8⟩), (9, ⟨.str, 16⟩)], elems := [], ptrs := [], cons := [(48, Zcf.con), (49, ZaO.con)], objs := [], loops := [], cuts := [], globs := globs, base := 0 }
noncomputable def ZbG.lp (n : Nat) : LP ZbG.R := fun lo κ body nm K s =>
 loops n ZbG.R lo κ body nm K s
theorem ZbG.sound : Zbi Try.prog globs 15 ZbG.con :=
 ZaS (E := ZbG.env) (c := ZbG.body) (Zbk (G := globs) (lc := [(48, Zcf.con), (49, ZaO.con)]) (lo := []) (ZaA (by kernel_rfl)) rfl rfl ⟨.inl ⟨Zcf.sound, by kernel_rfl⟩, ⟨.inl ⟨ZaO.sound, by kernel_rfl⟩, trivial⟩⟩ rfl trivial (by kernel_rfl) (by kernel_rfl)) Try.func15 (by kernel_rfl) ZbG.lp (l := []) (by kernel_rfl) (fun n => trivial) (fun n x => by kernel_rfl)
noncomputable def ZaD.b4 (fu : Nat) (next : Int → Int → S3 → S3 → Option (Bool × Unit)) (k1 : Bool → Option (Bool × Unit)) (k2 : Unit → Option (Bool × Unit)) (v : Int) (vx2 : Int) (b0 : S3) (b1 : S3) : Option (Bool × Unit) :=
 cond (decide (vx2 < v)) (
  chk (ixOk b0.2.2.1 vx2) <|
  let e1 := ixL ((0 : Int), (0 : Int), ((0 : Int), (0 : Int), (0 : Nat), [], ()), ()) b0.2.2.1 vx2
  chk (ixOk b1.2.2.1 vx2) <|
  let e2 := ixL ((0 : Int), (0 : Int), ((0 : Int), (0 : Int), (0 : Nat), [], ()), ()) b1.2.2.1 vx2
  cond (e1.1 != e2.1) (
   k1 false) (
   chk (ixOk b0.2.2.1 vx2) <|
   let e3 := ixL ((0 : Int), (0 : Int), ((0 : Int), (0 : Int), (0 : Nat), [], ()), ()) b0.2.2.1 vx2
   chk (ixOk b1.2.2.1 vx2) <|
   let e4 := ixL ((0 : Int), (0 : Int), ((0 : Int), (0 : Int), (0 : Nat), [], ()), ()) b1.2.2.1 vx2
   cond (e3.2.1 != e4.2.1) (
    k1 false) (
    chk (ixOk b0.2.2.1 vx2) <|
    let e5 := ixL ((0 : Int), (0 : Int), ((0 : Int), (0 : Int), (0 : Nat), [], ()), ()) b0.2.2.1 vx2
    chk (ixOk b1.2.2.1 vx2) <|
    let e6 := ixL ((0 : Int), (0 : Int), ((0 : Int), (0 : Int), (0 : Nat), [], ()), ()) b1.2.2.1 vx2
    (ZbG fu e5.2.2.1 e6.2.2.1).bind fun r7 =>
    cond (!r7.1) (
     k1 false) (
     let t8 := IntKind.i64.wrap (vx2 + (1 : Int))
     next v t8 b0 b1)))) (
  k2 ())
noncomputable def ZaD.l4 (fu : Nat) (k1 : Bool → Option (Bool × Unit)) (k2 : Unit → Option (Bool × Unit)) : Nat → Int → Int → S3 → S3 → Option (Bool × Unit)
 | 0, _, _, _, _ => none
 | m + 1, v, vx2, b0, b1 => ZaD.b4 fu (ZaD.l4 fu k1 k2 m) k1 k2 v vx2 b0 b1
noncomputable def ZaD (fu : Nat) (a : S3) (b : S3) : Option (Bool × Unit) :=
 cond (!(a.1 == b.1)) (
  some (false, ())) (
  cond (a.2.1 != b.2.1) (
   some (false, ())) (
   let t1 := (a.2.2.1.length : Int) != (b.2.2.1.length : Int)
   cond t1 (
    some (false, ())) (
    ZaD.l4 fu (fun vq3 =>
      some (vq3, ())) (fun (_ : Unit) =>
      some (true, ())) fu (a.2.2.1.length : Int) (0 : Int) a b)))
noncomputable def ZaD.body : Code := Try.f133.body.getD .skip
abbrev ZaD.shl4 : Shp := ⟨.u :: .u :: .p 0 0 :: .p 1 0 :: us 25 (.d (.int .i64) :: .d (.int .i64) :: us 47 []), [.c [.g kS3], .c [.g kS3]]⟩
abbrev ZaD.outl4e1 : Shp := ⟨us 4 (.d .bool :: us 73 []), []⟩
abbrev ZaD.outl4e2 : Shp := ⟨us 78 [], []⟩
noncomputable def ZaD.nml4 : Norm := ⟨ZaD.shl4.cut [], [(1, ZaD.outl4e1.cut []), (2, ZaD.outl4e2.cut [])]⟩
noncomputable def ZaD.con : Con := { ps := [kS3, kS3], rs := [.bool], f := fun n x => ZaD n x.1 x.2.1 }
abbrev ZaD.R : Type := (Kd.struct ZaD.con.rs).T
noncomputable def ZaD.env : Env := { tys := [(75, ⟨kS3, 32⟩), (4, ⟨.bool, 1⟩), (5, ⟨(.int .u8), 1⟩), (73, ⟨(.slice kS2), 24⟩), (88, ⟨kS2, 48⟩), (3, ⟨(.int .i64), 8⟩), (34, ⟨kS1, 40⟩)], elems := [(73, 88)], ptrs := [], cons := [(15, ZbG.con)], objs := [], loops := [(4, ZaD.nml4)], cuts := [], globs := globs, base := 0 }
noncomputable def ZaD.cl4 (n : Nat) (K : Ex → St → Option ZaD.R) (m : Nat) (v : ZaD.shl4.T) : Option ZaD.R := ZaD.l4 n (fun w0 => K .ret (ZaD.outl4e1.enc (w0, ()))) (fun _ => K (.exit 0) (ZaD.outl4e2.enc (()))) m v.1 v.2.1 v.2.2.1 v.2.2.2.1
noncomputable def ZaD.lp (n : Nat) : LP ZaD.R := fun lo κ body nm K s =>
 cond (lo && Nat.beq κ 4) (pc ZaD.shl4 (ZaD.cl4 n K n) (loops n ZaD.R lo κ body nm K) s) <|
  loops n ZaD.R lo κ body nm K s
noncomputable def ZaD.tl4 (n : Nat) := evK (β := ZaD.R) ZaD.env (ZaD.lp n) n (sub [1, 1, 0, 1, 0, 0] ZaD.body)
theorem ZaD.atl4 (n : Nat) : At n (ZaD.lp n) true 4 (ZaD.tl4 n) ZaD.nml4 := fun s K =>
 ZbR (sh := ZaD.shl4) (F := (ZaD.cl4 n K n)) (B := loops n _ true 4 (ZaD.tl4 n) ZaD.nml4 K) (fun v => (Zbc (sh := ZaD.shl4) (body := (ZaD.tl4 n)) (nm := ZaD.nml4) (b := fun nx v => ZaD.b4 n (fun x0 x1 x2 x3 => nx (x0, x1, x2, x3, ())) (fun w0 => K .ret (ZaD.outl4e1.enc (w0, ()))) (fun _ => K (.exit 0) (ZaD.outl4e2.enc (()))) v.1 v.2.1 v.2.2.1 v.2.2.2.1) (l := (ZaD.cl4 n K)) (fun _ => rfl) (fun _ _ => rfl) (fun m v => by kernel_rfl) n v).symm) s
theorem ZaD.sound : Zbi Try.prog globs 133 ZaD.con :=
 ZaS (E := ZaD.env) (c := ZaD.body) (Zbk (G := globs) (lc := [(15, ZbG.con)]) (lo := []) (ZaA (by kernel_rfl)) rfl rfl ⟨.inl ⟨ZbG.sound, by kernel_rfl⟩, trivial⟩ rfl trivial (by kernel_rfl) (by kernel_rfl)) Try.func133 (by kernel_rfl) ZaD.lp (l := [(true, sub [1, 1, 0, 1, 0, 0] ZaD.body, ZaD.nml4)]) (by kernel_rfl) (fun n => ⟨ZaD.atl4 n, trivial⟩) (fun n x => by kernel_rfl)
noncomputable def ZaX (fu : Nat) (xv : S6) (yv : S6) : Option (Bool × Unit) :=
 cond (xv.1 == yv.1) (
  cond (xv.2.2.1 == yv.2.2.1) (
   let t1 := xv.2.2.2.2.1 == yv.2.2.2.2.1
   cond t1 (
    let t2 := xv.2.2.2.2.2.1 == yv.2.2.2.2.2.1
    cond t2 (
     let t3 := xv.2.2.2.2.2.2.1 == yv.2.2.2.2.2.2.1
     cond t3 (
      (ZaD fu xv.2.1 yv.2.1).bind fun r4 =>
      cond r4.1 (
       (ZaD fu xv.2.2.2.1 yv.2.2.2.1).bind fun r5 =>
       some (r5.1, ())) (
       some (false, ()))) (
      some (false, ()))) (
     some (false, ()))) (
    some (false, ()))) (
   some (false, ()))) (
  some (false, ()))
noncomputable def ZaX.body : Code := Try.f120.body.getD .skip
noncomputable def ZaX.con : Con := { ps := [kS6, kS6], rs := [.bool], f := fun n x => ZaX n x.1 x.2.1 }
abbrev ZaX.R : Type := (Kd.struct ZaX.con.rs).T
noncomputable def ZaX.env : Env := { tys := [(77, ⟨kS6, 96⟩), (4, ⟨.bool, 1⟩), (5, ⟨(.int .u8), 1⟩), (3, ⟨(.int .i64), 8⟩), (75, ⟨kS3, 32⟩)], elems := [], ptrs := [], cons := [(133, ZaD.con)], objs := [], loops := [], cuts := [], globs := globs, base := 0 }
noncomputable def ZaX.lp (n : Nat) : LP ZaX.R := fun lo κ body nm K s =>
 loops n ZaX.R lo κ body nm K s
theorem ZaX.sound : Zbi Try.prog globs 120 ZaX.con :=
 ZaS (E := ZaX.env) (c := ZaX.body) (Zbk (G := globs) (lc := [(133, ZaD.con)]) (lo := []) (ZaA (by kernel_rfl)) rfl rfl ⟨.inl ⟨ZaD.sound, by kernel_rfl⟩, trivial⟩ rfl trivial (by kernel_rfl) (by kernel_rfl)) Try.func120 (by kernel_rfl) ZaX.lp (l := []) (by kernel_rfl) (fun n => trivial) (fun n x => by kernel_rfl)
noncomputable def Zah.b4 (fu : Nat) (next : (List S6) → (List S6) → Int → Int → Option (Bool × Unit)) (k1 : Bool → Option (Bool × Unit)) (k2 : Unit → Option (Bool × Unit)) (a : List S6) (b : List S6) (v : Int) (vx2 : Int) : Option (Bool × Unit) :=
 cond (decide (vx2 < v)) (
  chk (ixOk a vx2) <|
  let e1 := ixL ((0 : Int), (false, (0 : Int), [], ()), false, (false, (0 : Int), [], ()), (0 : Int), (0 : Int), (0 : Int), ()) a vx2
  chk (ixOk b vx2) <|
  let e2 := ixL ((0 : Int), (false, (0 : Int), [], ()), false, (false, (0 : Int), [], ()), (0 : Int), (0 : Int), (0 : Int), ()) b vx2
  (ZaX fu e1 e2).bind fun r3 =>
  cond (!r3.1) (
   k1 false) (
   let t4 := IntKind.i64.wrap (vx2 + (1 : Int))
   next a b v t4)) (
  k2 ())
noncomputable def Zah.l4 (fu : Nat) (k1 : Bool → Option (Bool × Unit)) (k2 : Unit → Option (Bool × Unit)) : Nat → (List S6) → (List S6) → Int → Int → Option (Bool × Unit)
 | 0, _, _, _, _ => none
 | m + 1, a, b, v, vx2 => Zah.b4 fu (Zah.l4 fu k1 k2 m) k1 k2 a b v vx2
noncomputable def Zah (fu : Nat) (a : List S6) (b : List S6) : Option (Bool × Unit) :=
 let t1 := (a.length : Int) != (b.length : Int)
 cond t1 (
  some (false, ())) (
  Zah.l4 fu (fun vq3 =>
    some (vq3, ())) (fun (_ : Unit) =>
    some (true, ())) fu a b (a.length : Int) (0 : Int))
noncomputable def Zah.body : Code := Try.f79.body.getD .skip
abbrev Zah.shl4 : Shp := ⟨.d (.slice kS6) :: .d (.slice kS6) :: us 10 (.d (.int .i64) :: .d (.int .i64) :: us 13 []), []⟩
abbrev Zah.outl4e1 : Shp := ⟨us 4 (.d .bool :: us 22 []), []⟩
abbrev Zah.outl4e2 : Shp := ⟨us 27 [], []⟩
noncomputable def Zah.nml4 : Norm := ⟨Zah.shl4.cut [], [(1, Zah.outl4e1.cut []), (2, Zah.outl4e2.cut [])]⟩
noncomputable def Zah.con : Con := { ps := [(.slice kS6), (.slice kS6)], rs := [.bool], f := fun n x => Zah n x.1 x.2.1 }
abbrev Zah.R : Type := (Kd.struct Zah.con.rs).T
noncomputable def Zah.env : Env := { tys := [(4, ⟨.bool, 1⟩), (77, ⟨kS6, 96⟩), (3, ⟨(.int .i64), 8⟩)], elems := [(66, 77)], ptrs := [], cons := [(120, ZaX.con)], objs := [], loops := [(4, Zah.nml4)], cuts := [], globs := globs, base := 0 }
noncomputable def Zah.cl4 (n : Nat) (K : Ex → St → Option Zah.R) (m : Nat) (v : Zah.shl4.T) : Option Zah.R := Zah.l4 n (fun w0 => K .ret (Zah.outl4e1.enc (w0, ()))) (fun _ => K (.exit 0) (Zah.outl4e2.enc (()))) m v.1 v.2.1 v.2.2.1 v.2.2.2.1
noncomputable def Zah.lp (n : Nat) : LP Zah.R := fun lo κ body nm K s =>
 cond (lo && Nat.beq κ 4) (pc Zah.shl4 (Zah.cl4 n K n) (loops n Zah.R lo κ body nm K) s) <|
  loops n Zah.R lo κ body nm K s
noncomputable def Zah.tl4 (n : Nat) := evK (β := Zah.R) Zah.env (Zah.lp n) n (sub [1, 1, 0, 1, 0, 0] Zah.body)
theorem Zah.atl4 (n : Nat) : At n (Zah.lp n) true 4 (Zah.tl4 n) Zah.nml4 := fun s K =>
 ZbR (sh := Zah.shl4) (F := (Zah.cl4 n K n)) (B := loops n _ true 4 (Zah.tl4 n) Zah.nml4 K) (fun v => (Zbc (sh := Zah.shl4) (body := (Zah.tl4 n)) (nm := Zah.nml4) (b := fun nx v => Zah.b4 n (fun x0 x1 x2 x3 => nx (x0, x1, x2, x3, ())) (fun w0 => K .ret (Zah.outl4e1.enc (w0, ()))) (fun _ => K (.exit 0) (Zah.outl4e2.enc (()))) v.1 v.2.1 v.2.2.1 v.2.2.2.1) (l := (Zah.cl4 n K)) (fun _ => rfl) (fun _ _ => rfl) (fun m v => by kernel_rfl) n v).symm) s
theorem Zah.sound : Zbi Try.prog globs 79 Zah.con :=
 ZaS (E := Zah.env) (c := Zah.body) (Zbk (G := globs) (lc := [(120, ZaX.con)]) (lo := []) (ZaA (by kernel_rfl)) rfl rfl ⟨.inl ⟨ZaX.sound, by kernel_rfl⟩, trivial⟩ rfl trivial (by kernel_rfl) (by kernel_rfl)) Try.func79 (by kernel_rfl) Zah.lp (l := [(true, sub [1, 1, 0, 1, 0, 0] Zah.body, Zah.nml4)]) (by kernel_rfl) (fun n => ⟨Zah.atl4 n, trivial⟩) (fun n x => by kernel_rfl)
noncomputable def ZbC (fu : Nat) (a : S7) (b : S7) : Option (Bool × Unit) :=
 cond (a.2.1 == b.2.1) (
  (Zah fu a.1 b.1).bind fun r1 =>
  some (r1.1, ())) (
  some (false, ()))
noncomputable def ZbC.body : Code := Try.f40.body.getD .skip
noncomputable def ZbC.con : Con := { ps := [kS7, kS7], rs := [.bool], f := fun n x => ZbC n x.1 x.2.1 }
abbrev ZbC.R : Type := (Kd.struct ZbC.con.rs).T
noncomputable def ZbC.env : Env := { tys := [(68, ⟨kS7, 32⟩), (4, ⟨.bool, 1⟩), (51, ⟨(.int .u64), 8⟩), (66, ⟨(.slice kS6), 24⟩)], elems := [], ptrs := [], cons := [(79, Zah.con)], objs := [], loops := [], cuts := [], globs := globs, base := 0 }
noncomputable def ZbC.lp (n : Nat) : LP ZbC.R := fun lo κ body nm K s =>
 loops n ZbC.R lo κ body nm K s
theorem ZbC.sound : Zbi Try.prog globs 40 ZbC.con :=
 ZaS (E := ZbC.env) (c := ZbC.body) (Zbk (G := globs) (lc := [(79, Zah.con)]) (lo := []) (ZaA (by kernel_rfl)) rfl rfl ⟨.inl ⟨Zah.sound, by kernel_rfl⟩, trivial⟩ rfl trivial (by kernel_rfl) (by kernel_rfl)) Try.func40 (by kernel_rfl) ZbC.lp (l := []) (by kernel_rfl) (fun n => trivial) (fun n x => by kernel_rfl)
noncomputable def law13CodePuts (fu : Nat) (xv : S9) : Option (Bool × Unit) :=
 (Zag fu xv).bind fun r1 =>
 (Zay fu r1.1).bind fun r2 =>
 cond r2.1 (
  (Zbu fu).bind fun r3 =>
  some (r3.1, ())) (
  (Zar fu r1.1).bind fun r4 =>
  (ZbM fu r1.1).bind fun r5 =>
  (Zbu fu).bind fun r6 =>
  cond (!r6.1) (
   some (false, ())) (
   cond (r4.1 != r5.1) (
    some (false, ())) (
    cond (r4.2.1 != r5.2.1) (
     some (false, ())) (
     cond (r4.2.1 != (0 : Int)) (
      some (true, ())) (
      (ZaK fu r4.1).bind fun r7 =>
      cond (r7.2.1 == (0 : Int)) (
       (ZbC fu r7.1 r1.1).bind fun r8 =>
       some (r8.1, ())) (
       some (false, ())))))))
noncomputable def law13CodePuts.body : Code := Try.f10.body.getD .skip
noncomputable def law13CodePuts.con : Con := { ps := [kS9], rs := [.bool], f := fun n x => law13CodePuts n x.1 }
abbrev law13CodePuts.R : Type := (Kd.struct law13CodePuts.con.rs).T
noncomputable def law13CodePuts.env : Env := { tys := [(65, ⟨kS9, 32⟩), (4, ⟨.bool, 1⟩), (68, ⟨kS7, 32⟩), (9, ⟨.str, 16⟩), (38, ⟨(.slice (.int .u8)), 24⟩), (5, ⟨(.int .u8), 1⟩)], elems := [(38, 5)], ptrs := [], cons := [(29, Zag.con), (30, Zay.con), (42, Zbu.con), (43, Zar.con), (44, ZbM.con), (45, ZaK.con), (40, ZbC.con)], objs := [], loops := [], cuts := [], globs := globs, base := 0 }
noncomputable def law13CodePuts.lp (n : Nat) : LP law13CodePuts.R := fun lo κ body nm K s =>
 loops n law13CodePuts.R lo κ body nm K s
theorem law13CodePuts.sound : Zbi Try.prog globs 10 law13CodePuts.con :=
 ZaS (E := law13CodePuts.env) (c := law13CodePuts.body) (Zbk (G := globs) (lc := [(29, Zag.con), (30, Zay.con), (42, Zbu.con), (43, Zar.con), (44, ZbM.con), (45, ZaK.con), (40, ZbC.con)]) (lo := []) (ZaA (by kernel_rfl)) rfl rfl ⟨.inl ⟨Zag.sound, by kernel_rfl⟩, ⟨.inl ⟨Zay.sound, by kernel_rfl⟩, ⟨.inl ⟨Zbu.sound, by kernel_rfl⟩, ⟨.inl ⟨Zar.sound, by kernel_rfl⟩, ⟨.inl ⟨ZbM.sound, by kernel_rfl⟩, ⟨.inl ⟨ZaK.sound, by kernel_rfl⟩, ⟨.inl ⟨ZbC.sound, by kernel_rfl⟩, trivial⟩⟩⟩⟩⟩⟩⟩ rfl trivial (by kernel_rfl) (by kernel_rfl)) Try.func10 (by kernel_rfl) law13CodePuts.lp (l := []) (by kernel_rfl) (fun n => trivial) (fun n x => by kernel_rfl)
end
end Go.Shal.Pr
