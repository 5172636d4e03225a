/- Prints of functions, and proofs that they are what the code computes. By an AI agent. -/
import Derived.Test.YtfnhgbonlbemhaaShC
import Derived.Test.YtfnhgbonlbemhaaProg
set_option linter.unusedVariables false
set_option maxRecDepth 100000
namespace Go.Shal.Pr
open Go Go.Shal Go.Proofs
noncomputable section
def globs : Globs := []
abbrev kS0 : Kd := .struct [(.int .u8), (.int .i64), (.int .u64), .str]
abbrev S0 : Type := Int × Int × Int × (List Int) × Unit
abbrev kS1 : Kd := .struct [(.int .u8), (.int .i64), .flt, .str]
abbrev S1 : Type := Int × Int × Nat × (List Int) × Unit
noncomputable def law04Great.b2 (fu : Nat) (next : (List S0) → Int → Int → Option (Bool × Unit)) (k1 : Bool → Option (Bool × Unit)) (k2 : Unit → Option (Bool × Unit)) (v : List S0) (vx2 : Int) (vx3 : Int) : Option (Bool × Unit) :=
  cond (decide (vx3 < vx2)) (
    chk (ixOk v vx3) <|
    let e1 := ixL ((0 : Int), (0 : Int), (0 : Int), [], ()) v vx3
    let t2 := (e1.2.2.2.1.length : Int)
    let t3 := decide (t2 > (2000 : Int))
    cond t3 (
      k1 true) (
      let t4 := IntKind.i64.wrap (vx3 + (1 : Int))
      next v vx2 t4)) (
    k2 ())
noncomputable def law04Great.l2 (fu : Nat) (k1 : Bool → Option (Bool × Unit)) (k2 : Unit → Option (Bool × Unit)) : Nat → (List S0) → Int → Int → Option (Bool × Unit)
  | 0, _, _, _ => none
  | m + 1, v, vx2, vx3 => law04Great.b2 fu (law04Great.l2 fu k1 k2 m) k1 k2 v vx2 vx3
noncomputable def law04Great (fu : Nat) (l : List S0) : Option (Bool × Unit) :=
  law04Great.l2 fu (fun vq3 => 
      some (vq3, ())) (fun (_ : Unit) => 
      some (false, ())) fu l (l.length : Int) (0 : Int)

noncomputable def law04Great.body : Code := Try.f33.body.getD .skip
abbrev law04Great.shl2 : Shp := ⟨[.u, .u, .u, .u, .u, .d (.slice kS0), .d (.int .i64), .d (.int .i64), .u, .u, .u, .u, .u, .u, .u, .u], []⟩
abbrev law04Great.outl2e1 : Shp := ⟨[.u, .u, .d .bool, .u, .u, .u, .u, .u, .u, .u, .u, .u, .u, .u, .u, .u], []⟩
abbrev law04Great.outl2e2 : Shp := ⟨[.u, .u, .u, .u, .u, .u, .u, .u, .u, .u, .u, .u, .u, .u, .u, .u], []⟩
noncomputable def law04Great.nml2 : Norm := ⟨{ keep := [5, 6, 7], shut := [(5, (.slice kS0)), (6, (.int .i64)), (7, (.int .i64))], retag := [], heap := 0, dead := [], cshut := [], cretag := [] }, [(1, { keep := [2], shut := [(2, .bool)], retag := [], heap := 0, dead := [], cshut := [], cretag := [] }), (2, { keep := [], shut := [], retag := [], heap := 0, dead := [], cshut := [], cretag := [] })]⟩
noncomputable def law04Great.con : Con := { ps := [(.slice kS0)], rs := [.bool], f := fun n x => law04Great n x.1 }
noncomputable def law04Great.env : Env := { tys := [(4, ⟨.bool, 1⟩), (54, ⟨kS0, 40⟩), (3, ⟨(.int .i64), 8⟩), (9, ⟨.str, 16⟩)], elems := [(82, 54)], ptrs := [], cons := [], objs := [], loops := [(2, law04Great.nml2)], cuts := [], globs := globs, base := 0 }
noncomputable def law04Great.lp (n : Nat) : LP (Kd.struct law04Great.con.rs).T := fun lo κ body nm K s =>
  cond (lo && Nat.beq κ 2)
    (match law04Great.shl2.dec s with
    | some v => law04Great.l2 n (fun w0 => K .ret (law04Great.outl2e1.enc (w0, ()))) (fun _ => K (.exit 0) (law04Great.outl2e2.enc (()))) n v.1 v.2.1 v.2.2.1
    | none => loops n (Kd.struct law04Great.con.rs).T lo κ body nm K s)
    (loops n (Kd.struct law04Great.con.rs).T lo κ body nm K s)
theorem law04Great.atl2 (n : Nat) (s : St) (K : Ex → St → Option (Kd.struct law04Great.con.rs).T) : law04Great.lp n true 2 (evK law04Great.env (law04Great.lp n) n (sub [1, 0, 1, 0, 0] law04Great.body)) law04Great.nml2 K s = loops n (Kd.struct law04Great.con.rs).T true 2 (evK law04Great.env (law04Great.lp n) n (sub [1, 0, 1, 0, 0] law04Great.body)) law04Great.nml2 K s := by
  show (match law04Great.shl2.dec s with | some v => law04Great.l2 n (fun w0 => K .ret (law04Great.outl2e1.enc (w0, ()))) (fun _ => K (.exit 0) (law04Great.outl2e2.enc (()))) n v.1 v.2.1 v.2.2.1 | none => loops n (Kd.struct law04Great.con.rs).T true 2 (evK law04Great.env (law04Great.lp n) n (sub [1, 0, 1, 0, 0] law04Great.body)) law04Great.nml2 K s) = _
  cases h : law04Great.shl2.dec s with
  | none => rfl
  | some v =>
    rw [Shp.dec_enc h]
    exact (evLoop_eq (sh := law04Great.shl2) (body := evK law04Great.env (law04Great.lp n) n (sub [1, 0, 1, 0, 0] law04Great.body)) (nm := law04Great.nml2) (K := K) (b := fun nx v => law04Great.b2 n (fun x0 x1 x2 => nx (x0, x1, x2, ())) (fun w0 => K .ret (law04Great.outl2e1.enc (w0, ()))) (fun _ => K (.exit 0) (law04Great.outl2e2.enc (()))) v.1 v.2.1 v.2.2.1) (l := fun m v => law04Great.l2 n (fun w0 => K .ret (law04Great.outl2e1.enc (w0, ()))) (fun _ => K (.exit 0) (law04Great.outl2e2.enc (()))) m v.1 v.2.1 v.2.2.1) (fun _ => rfl) (fun _ _ => rfl) (fun m v => by kernel_rfl) n v).symm
theorem law04Great.eq (n : Nat) (x : (Kd.struct law04Great.con.ps).T) : evFunc law04Great.env Try.f33 law04Great.body law04Great.con.ps law04Great.con.rs (law04Great.lp n) n x = law04Great.con.f n x := by kernel_rfl
theorem law04Great.sound : Sound Try.prog globs 33 law04Great.con :=
  sound_by (E := law04Great.env) (c := law04Great.body) (envOk (G := globs) (lc := []) (lo := []) (envB_spec (by kernel_rfl)) rfl rfl trivial rfl trivial (by kernel_rfl) (by kernel_rfl)) Try.func33 (by kernel_rfl) law04Great.lp (l := [(true, sub [1, 0, 1, 0, 0] law04Great.body, law04Great.nml2)]) (by kernel_rfl) (fun n => ⟨law04Great.atl2 n, trivial⟩) law04Great.eq
noncomputable def valueHeld (fu : Nat) (v : S1) : Option (S1 × Unit) :=
  cond (v.1 == (1 : Int)) (
    some ((v.1, v.2.1, (0 : Nat), [], ()), ())) (
    cond (v.1 == (2 : Int)) (
      some ((v.1, (0 : Int), v.2.2.1, [], ()), ())) (
      cond (v.1 == (3 : Int)) (
        some ((v.1, (0 : Int), (0 : Nat), v.2.2.2.1, ()), ())) (
        some ((v.1, (0 : Int), (0 : Nat), [], ()), ()))))

noncomputable def valueHeld.body : Code := Try.f59.body.getD .skip
noncomputable def valueHeld.con : Con := { ps := [kS1], rs := [kS1], f := fun n x => valueHeld n x.1 }
noncomputable def valueHeld.env : Env := { tys := [(58, ⟨kS1, 40⟩), (5, ⟨(.int .u8), 1⟩), (2, ⟨(.int .i64), 8⟩), (25, ⟨.flt, 8⟩), (9, ⟨.str, 16⟩)], elems := [], ptrs := [], cons := [], objs := [], loops := [], cuts := [], globs := globs, base := 0 }
noncomputable def valueHeld.lp (n : Nat) : LP (Kd.struct valueHeld.con.rs).T := fun lo κ body nm K s =>
  loops n (Kd.struct valueHeld.con.rs).T lo κ body nm K s
theorem valueHeld.eq (n : Nat) (x : (Kd.struct valueHeld.con.ps).T) : evFunc valueHeld.env Try.f59 valueHeld.body valueHeld.con.ps valueHeld.con.rs (valueHeld.lp n) n x = valueHeld.con.f n x := by kernel_rfl
theorem valueHeld.sound : Sound Try.prog globs 59 valueHeld.con :=
  sound_by (E := valueHeld.env) (c := valueHeld.body) (envOk (G := globs) (lc := []) (lo := []) (envB_spec (by kernel_rfl)) rfl rfl trivial rfl trivial (by kernel_rfl) (by kernel_rfl)) Try.func59 (by kernel_rfl) valueHeld.lp (l := []) (by kernel_rfl) (fun n => trivial) valueHeld.eq
noncomputable def valueMay (fu : Nat) (v : S1) : Option (Bool × Unit) :=
  (valueHeld fu v).bind fun r1 =>
  cond (decide (v.1 ≤ (3 : Int))) (
    let t2 := decide ((v.2.2.2.1.length : Int) ≤ (255 : Int))
    cond t2 (
      cond (r1.1.2.1 == v.2.1) (
        let t3 := r1.1.2.2.2.1 == v.2.2.2.1
        cond t3 (
          (extBits.f fu (r1.1.2.2.1, ())).bind fun r4 =>
          (extBits.f fu (v.2.2.1, ())).bind fun r5 =>
          some (r4.1 == r5.1, ())) (
          some (false, ()))) (
        some (false, ()))) (
      some (false, ()))) (
    some (false, ()))

noncomputable def valueMay.body : Code := Try.f38.body.getD .skip
noncomputable def valueMay.con : Con := { ps := [kS1], rs := [.bool], f := fun n x => valueMay n x.1 }
noncomputable def valueMay.env : Env := { tys := [(58, ⟨kS1, 40⟩), (4, ⟨.bool, 1⟩), (5, ⟨(.int .u8), 1⟩), (9, ⟨.str, 16⟩), (2, ⟨(.int .i64), 8⟩), (25, ⟨.flt, 8⟩)], elems := [], ptrs := [], cons := [(59, valueHeld.con), (26, extBits)], objs := [], loops := [], cuts := [], globs := globs, base := 0 }
noncomputable def valueMay.lp (n : Nat) : LP (Kd.struct valueMay.con.rs).T := fun lo κ body nm K s =>
  loops n (Kd.struct valueMay.con.rs).T lo κ body nm K s
theorem valueMay.eq (n : Nat) (x : (Kd.struct valueMay.con.ps).T) : evFunc valueMay.env Try.f38 valueMay.body valueMay.con.ps valueMay.con.rs (valueMay.lp n) n x = valueMay.con.f n x := by kernel_rfl
theorem valueMay.sound : Sound Try.prog globs 38 valueMay.con :=
  sound_by (E := valueMay.env) (c := valueMay.body) (envOk (G := globs) (lc := [(59, valueHeld.con), (26, extBits)]) (lo := []) (envB_spec (by kernel_rfl)) rfl rfl ⟨.inl ⟨valueHeld.sound, by kernel_rfl⟩, ⟨.inr (extBits_ok Try.func26 (by kernel_rfl) (by kernel_rfl) (by kernel_rfl) (by kernel_rfl)), trivial⟩⟩ rfl trivial (by kernel_rfl) (by kernel_rfl)) Try.func38 (by kernel_rfl) valueMay.lp (l := []) (by kernel_rfl) (fun n => trivial) valueMay.eq
noncomputable def bytealgCompareString (fu : Nat) (a : List Int) (b : List Int) : Option (Int × Unit) :=
  (extCmp.f fu (a, b, ())).bind fun r1 =>
  some (r1.1, ())

noncomputable def bytealgCompareString.body : Code := Try.f79.body.getD .skip
noncomputable def bytealgCompareString.con : Con := { ps := [.str, .str], rs := [(.int .i64)], f := fun n x => bytealgCompareString n x.1 x.2.1 }
noncomputable def bytealgCompareString.env : Env := { tys := [(3, ⟨(.int .i64), 8⟩)], elems := [], ptrs := [], cons := [(89, extCmp)], objs := [], loops := [], cuts := [], globs := globs, base := 0 }
noncomputable def bytealgCompareString.lp (n : Nat) : LP (Kd.struct bytealgCompareString.con.rs).T := fun lo κ body nm K s =>
  loops n (Kd.struct bytealgCompareString.con.rs).T lo κ body nm K s
theorem bytealgCompareString.eq (n : Nat) (x : (Kd.struct bytealgCompareString.con.ps).T) : evFunc bytealgCompareString.env Try.f79 bytealgCompareString.body bytealgCompareString.con.ps bytealgCompareString.con.rs (bytealgCompareString.lp n) n x = bytealgCompareString.con.f n x := by kernel_rfl
theorem bytealgCompareString.sound : Sound Try.prog globs 79 bytealgCompareString.con :=
  sound_by (E := bytealgCompareString.env) (c := bytealgCompareString.body) (envOk (G := globs) (lc := [(89, extCmp)]) (lo := []) (envB_spec (by kernel_rfl)) rfl rfl ⟨.inr (extCmp_ok Try.func89 (by kernel_rfl) (by kernel_rfl) (by kernel_rfl) (by kernel_rfl)), trivial⟩ rfl trivial (by kernel_rfl) (by kernel_rfl)) Try.func79 (by kernel_rfl) bytealgCompareString.lp (l := []) (by kernel_rfl) (fun n => trivial) bytealgCompareString.eq
noncomputable def stringsCompare (fu : Nat) (a : List Int) (b : List Int) : Option (Int × Unit) :=
  (bytealgCompareString fu a b).bind fun r1 =>
  some (r1.1, ())

noncomputable def stringsCompare.body : Code := Try.f56.body.getD .skip
noncomputable def stringsCompare.con : Con := { ps := [.str, .str], rs := [(.int .i64)], f := fun n x => stringsCompare n x.1 x.2.1 }
noncomputable def stringsCompare.env : Env := { tys := [(3, ⟨(.int .i64), 8⟩)], elems := [], ptrs := [], cons := [(79, bytealgCompareString.con)], objs := [], loops := [], cuts := [], globs := globs, base := 0 }
noncomputable def stringsCompare.lp (n : Nat) : LP (Kd.struct stringsCompare.con.rs).T := fun lo κ body nm K s =>
  loops n (Kd.struct stringsCompare.con.rs).T lo κ body nm K s
theorem stringsCompare.eq (n : Nat) (x : (Kd.struct stringsCompare.con.ps).T) : evFunc stringsCompare.env Try.f56 stringsCompare.body stringsCompare.con.ps stringsCompare.con.rs (stringsCompare.lp n) n x = stringsCompare.con.f n x := by kernel_rfl
theorem stringsCompare.sound : Sound Try.prog globs 56 stringsCompare.con :=
  sound_by (E := stringsCompare.env) (c := stringsCompare.body) (envOk (G := globs) (lc := [(79, bytealgCompareString.con)]) (lo := []) (envB_spec (by kernel_rfl)) rfl rfl ⟨.inl ⟨bytealgCompareString.sound, by kernel_rfl⟩, trivial⟩ rfl trivial (by kernel_rfl) (by kernel_rfl)) Try.func56 (by kernel_rfl) stringsCompare.lp (l := []) (by kernel_rfl) (fun n => trivial) stringsCompare.eq
noncomputable def realCompare (fu : Nat) (a : Nat) (b : Nat) : Option (Int × Bool × Unit) :=
  cond (fLss a b) (
    some ((-1 : Int), true, ())) (
    cond (fGtr a b) (
      some ((1 : Int), true, ())) (
      some ((0 : Int), fEql a b, ())))

noncomputable def realCompare.body : Code := Try.f18.body.getD .skip
noncomputable def realCompare.con : Con := { ps := [.flt, .flt], rs := [(.int .i64), .bool], f := fun n x => realCompare n x.1 x.2.1 }
noncomputable def realCompare.env : Env := { tys := [(3, ⟨(.int .i64), 8⟩), (4, ⟨.bool, 1⟩)], elems := [], ptrs := [], cons := [], objs := [], loops := [], cuts := [], globs := globs, base := 0 }
noncomputable def realCompare.lp (n : Nat) : LP (Kd.struct realCompare.con.rs).T := fun lo κ body nm K s =>
  loops n (Kd.struct realCompare.con.rs).T lo κ body nm K s
theorem realCompare.eq (n : Nat) (x : (Kd.struct realCompare.con.ps).T) : evFunc realCompare.env Try.f18 realCompare.body realCompare.con.ps realCompare.con.rs (realCompare.lp n) n x = realCompare.con.f n x := by kernel_rfl
theorem realCompare.sound : Sound Try.prog globs 18 realCompare.con :=
  sound_by (E := realCompare.env) (c := realCompare.body) (envOk (G := globs) (lc := []) (lo := []) (envB_spec (by kernel_rfl)) rfl rfl trivial rfl trivial (by kernel_rfl) (by kernel_rfl)) Try.func18 (by kernel_rfl) realCompare.lp (l := []) (by kernel_rfl) (fun n => trivial) realCompare.eq
noncomputable def mathFloor (fu : Nat) (xv : Nat) : Option (Nat × Unit) :=
  (extFloor.f fu (xv, ())).bind fun r1 =>
  some (r1.1, ())

noncomputable def mathFloor.body : Code := Try.f46.body.getD .skip
noncomputable def mathFloor.con : Con := { ps := [.flt], rs := [.flt], f := fun n x => mathFloor n x.1 }
noncomputable def mathFloor.env : Env := { tys := [(25, ⟨.flt, 8⟩)], elems := [], ptrs := [], cons := [(72, extFloor)], objs := [], loops := [], cuts := [], globs := globs, base := 0 }
noncomputable def mathFloor.lp (n : Nat) : LP (Kd.struct mathFloor.con.rs).T := fun lo κ body nm K s =>
  loops n (Kd.struct mathFloor.con.rs).T lo κ body nm K s
theorem mathFloor.eq (n : Nat) (x : (Kd.struct mathFloor.con.ps).T) : evFunc mathFloor.env Try.f46 mathFloor.body mathFloor.con.ps mathFloor.con.rs (mathFloor.lp n) n x = mathFloor.con.f n x := by kernel_rfl
theorem mathFloor.sound : Sound Try.prog globs 46 mathFloor.con :=
  sound_by (E := mathFloor.env) (c := mathFloor.body) (envOk (G := globs) (lc := [(72, extFloor)]) (lo := []) (envB_spec (by kernel_rfl)) rfl rfl ⟨.inr (extFloor_ok Try.func72 (by kernel_rfl) (by kernel_rfl) (by kernel_rfl) (by kernel_rfl)), trivial⟩ rfl trivial (by kernel_rfl) (by kernel_rfl)) Try.func46 (by kernel_rfl) mathFloor.lp (l := []) (by kernel_rfl) (fun n => trivial) mathFloor.eq
noncomputable def cmpIsNaN (fu : Nat) (xv : Int) : Option (Bool × Unit) :=
  some (xv != xv, ())

noncomputable def cmpIsNaN.body : Code := Try.f74.body.getD .skip
noncomputable def cmpIsNaN.con : Con := { ps := [(.int .i64)], rs := [.bool], f := fun n x => cmpIsNaN n x.1 }
noncomputable def cmpIsNaN.env : Env := { tys := [(4, ⟨.bool, 1⟩)], elems := [], ptrs := [], cons := [], objs := [], loops := [], cuts := [], globs := globs, base := 0 }
noncomputable def cmpIsNaN.lp (n : Nat) : LP (Kd.struct cmpIsNaN.con.rs).T := fun lo κ body nm K s =>
  loops n (Kd.struct cmpIsNaN.con.rs).T lo κ body nm K s
theorem cmpIsNaN.eq (n : Nat) (x : (Kd.struct cmpIsNaN.con.ps).T) : evFunc cmpIsNaN.env Try.f74 cmpIsNaN.body cmpIsNaN.con.ps cmpIsNaN.con.rs (cmpIsNaN.lp n) n x = cmpIsNaN.con.f n x := by kernel_rfl
theorem cmpIsNaN.sound : Sound Try.prog globs 74 cmpIsNaN.con :=
  sound_by (E := cmpIsNaN.env) (c := cmpIsNaN.body) (envOk (G := globs) (lc := []) (lo := []) (envB_spec (by kernel_rfl)) rfl rfl trivial rfl trivial (by kernel_rfl) (by kernel_rfl)) Try.func74 (by kernel_rfl) cmpIsNaN.lp (l := []) (by kernel_rfl) (fun n => trivial) cmpIsNaN.eq
noncomputable def cmpCompare (fu : Nat) (xv : Int) (yv : Int) : Option (Int × Unit) :=
  (cmpIsNaN fu xv).bind fun r1 =>
  (cmpIsNaN fu yv).bind fun r2 =>
  cond r1.1 (
    cond r2.1 (
      some ((0 : Int), ())) (
      some ((-1 : Int), ()))) (
    cond r2.1 (
      some ((1 : Int), ())) (
      cond (decide (xv < yv)) (
        some ((-1 : Int), ())) (
        cond (decide (xv > yv)) (
          some ((1 : Int), ())) (
          some ((0 : Int), ())))))

noncomputable def cmpCompare.body : Code := Try.f47.body.getD .skip
noncomputable def cmpCompare.con : Con := { ps := [(.int .i64), (.int .i64)], rs := [(.int .i64)], f := fun n x => cmpCompare n x.1 x.2.1 }
noncomputable def cmpCompare.env : Env := { tys := [(3, ⟨(.int .i64), 8⟩)], elems := [], ptrs := [], cons := [(74, cmpIsNaN.con)], objs := [], loops := [], cuts := [], globs := globs, base := 0 }
noncomputable def cmpCompare.lp (n : Nat) : LP (Kd.struct cmpCompare.con.rs).T := fun lo κ body nm K s =>
  loops n (Kd.struct cmpCompare.con.rs).T lo κ body nm K s
theorem cmpCompare.eq (n : Nat) (x : (Kd.struct cmpCompare.con.ps).T) : evFunc cmpCompare.env Try.f47 cmpCompare.body cmpCompare.con.ps cmpCompare.con.rs (cmpCompare.lp n) n x = cmpCompare.con.f n x := by kernel_rfl
theorem cmpCompare.sound : Sound Try.prog globs 47 cmpCompare.con :=
  sound_by (E := cmpCompare.env) (c := cmpCompare.body) (envOk (G := globs) (lc := [(74, cmpIsNaN.con)]) (lo := []) (envB_spec (by kernel_rfl)) rfl rfl ⟨.inl ⟨cmpIsNaN.sound, by kernel_rfl⟩, trivial⟩ rfl trivial (by kernel_rfl) (by kernel_rfl)) Try.func47 (by kernel_rfl) cmpCompare.lp (l := []) (by kernel_rfl) (fun n => trivial) cmpCompare.eq
noncomputable def realAgainst (fu : Nat) (n : Int) (xv : Nat) : Option (Int × Bool × Unit) :=
  cond (fNeq xv xv) (
    some ((0 : Int), false, ())) (
    let t1 := fGeq xv (4890909195324358656 : Nat)
    cond t1 (
      some ((-1 : Int), true, ())) (
      let t2 := fLss xv (14114281232179134464 : Nat)
      cond t2 (
        some ((1 : Int), true, ())) (
        (mathFloor fu xv).bind fun r3 =>
        chk (fIntOk .i64 r3.1) <|
        (cmpCompare fu n (fInt .i64 r3.1)).bind fun r4 =>
        cond (r4.1 == (0 : Int)) (
          cond (fGtr xv r3.1) (
            some ((-1 : Int), true, ())) (
            some (r4.1, true, ()))) (
          some (r4.1, true, ())))))

noncomputable def realAgainst.body : Code := Try.f13.body.getD .skip
noncomputable def realAgainst.con : Con := { ps := [(.int .i64), .flt], rs := [(.int .i64), .bool], f := fun n x => realAgainst n x.1 x.2.1 }
noncomputable def realAgainst.env : Env := { tys := [(3, ⟨(.int .i64), 8⟩), (4, ⟨.bool, 1⟩), (2, ⟨(.int .i64), 8⟩), (25, ⟨.flt, 8⟩)], elems := [], ptrs := [], cons := [(46, mathFloor.con), (47, cmpCompare.con)], objs := [], loops := [], cuts := [], globs := globs, base := 0 }
noncomputable def realAgainst.lp (n : Nat) : LP (Kd.struct realAgainst.con.rs).T := fun lo κ body nm K s =>
  loops n (Kd.struct realAgainst.con.rs).T lo κ body nm K s
theorem realAgainst.eq (n : Nat) (x : (Kd.struct realAgainst.con.ps).T) : evFunc realAgainst.env Try.f13 realAgainst.body realAgainst.con.ps realAgainst.con.rs (realAgainst.lp n) n x = realAgainst.con.f n x := by kernel_rfl
theorem realAgainst.sound : Sound Try.prog globs 13 realAgainst.con :=
  sound_by (E := realAgainst.env) (c := realAgainst.body) (envOk (G := globs) (lc := [(46, mathFloor.con), (47, cmpCompare.con)]) (lo := []) (envB_spec (by kernel_rfl)) rfl rfl ⟨.inl ⟨mathFloor.sound, by kernel_rfl⟩, ⟨.inl ⟨cmpCompare.sound, by kernel_rfl⟩, trivial⟩⟩ rfl trivial (by kernel_rfl) (by kernel_rfl)) Try.func13 (by kernel_rfl) realAgainst.lp (l := []) (by kernel_rfl) (fun n => trivial) realAgainst.eq
noncomputable def valueCompare (fu : Nat) (a : S1) (b : S1) : Option (Int × Bool × Unit) :=
  (valueMay fu a).bind fun r1 =>
  cond (!r1.1) (
    some ((0 : Int), false, ())) (
    (valueMay fu b).bind fun r2 =>
    cond (!r2.1) (
      some ((0 : Int), false, ())) (
      let t3 := [List.getD ([a.1, b.1]) 0 (0 : Int), List.getD ([a.1, b.1]) 1 (0 : Int)]
      let t4 := t3 == ([(3 : Int), (3 : Int)])
      cond t4 (
        (stringsCompare fu a.2.2.2.1 b.2.2.2.1).bind fun r5 =>
        some (r5.1, true, ())) (
        let t6 := [List.getD ([a.1, b.1]) 0 (0 : Int), List.getD ([a.1, b.1]) 1 (0 : Int)]
        let t7 := t6 == ([(2 : Int), (2 : Int)])
        cond t7 (
          (realCompare fu a.2.2.1 b.2.2.1).bind fun r8 =>
          some (r8.1, r8.2.1, ())) (
          let t9 := [List.getD ([a.1, b.1]) 0 (0 : Int), List.getD ([a.1, b.1]) 1 (0 : Int)]
          let t10 := t9 == ([(1 : Int), (2 : Int)])
          cond t10 (
            (realAgainst fu a.2.1 b.2.2.1).bind fun r11 =>
            some (r11.1, r11.2.1, ())) (
            let t12 := [List.getD ([a.1, b.1]) 0 (0 : Int), List.getD ([a.1, b.1]) 1 (0 : Int)]
            let t13 := t12 == ([(2 : Int), (1 : Int)])
            cond t13 (
              (realAgainst fu b.2.1 a.2.2.1).bind fun r14 =>
              let t15 := IntKind.i64.wrap (0 - r14.1)
              some (t15, r14.2.1, ())) (
              let t16 := [List.getD ([a.1, b.1]) 0 (0 : Int), List.getD ([a.1, b.1]) 1 (0 : Int)]
              let t17 := t16 == ([(1 : Int), (1 : Int)])
              cond t17 (
                cond (decide (a.2.1 < b.2.1)) (
                  some ((-1 : Int), true, ())) (
                  cond (decide (a.2.1 > b.2.1)) (
                    some ((1 : Int), true, ())) (
                    some ((0 : Int), true, ())))) (
                some ((0 : Int), false, ()))))))))

noncomputable def valueCompare.body : Code := Try.f35.body.getD .skip
noncomputable def valueCompare.con : Con := { ps := [kS1, kS1], rs := [(.int .i64), .bool], f := fun n x => valueCompare n x.1 x.2.1 }
noncomputable def valueCompare.env : Env := { tys := [(58, ⟨kS1, 40⟩), (3, ⟨(.int .i64), 8⟩), (4, ⟨.bool, 1⟩), (5, ⟨(.int .u8), 1⟩), (83, ⟨(.arr 2 (.int .u8)), 2⟩), (9, ⟨.str, 16⟩), (25, ⟨.flt, 8⟩), (2, ⟨(.int .i64), 8⟩)], elems := [], ptrs := [], cons := [(38, valueMay.con), (56, stringsCompare.con), (18, realCompare.con), (13, realAgainst.con)], objs := [], loops := [], cuts := [], globs := globs, base := 0 }
noncomputable def valueCompare.lp (n : Nat) : LP (Kd.struct valueCompare.con.rs).T := fun lo κ body nm K s =>
  loops n (Kd.struct valueCompare.con.rs).T lo κ body nm K s
theorem valueCompare.eq (n : Nat) (x : (Kd.struct valueCompare.con.ps).T) : evFunc valueCompare.env Try.f35 valueCompare.body valueCompare.con.ps valueCompare.con.rs (valueCompare.lp n) n x = valueCompare.con.f n x := by kernel_rfl
theorem valueCompare.sound : Sound Try.prog globs 35 valueCompare.con :=
  sound_by (E := valueCompare.env) (c := valueCompare.body) (envOk (G := globs) (lc := [(38, valueMay.con), (56, stringsCompare.con), (18, realCompare.con), (13, realAgainst.con)]) (lo := []) (envB_spec (by kernel_rfl)) rfl rfl ⟨.inl ⟨valueMay.sound, by kernel_rfl⟩, ⟨.inl ⟨stringsCompare.sound, by kernel_rfl⟩, ⟨.inl ⟨realCompare.sound, by kernel_rfl⟩, ⟨.inl ⟨realAgainst.sound, by kernel_rfl⟩, trivial⟩⟩⟩⟩ rfl trivial (by kernel_rfl) (by kernel_rfl)) Try.func35 (by kernel_rfl) valueCompare.lp (l := []) (by kernel_rfl) (fun n => trivial) valueCompare.eq
noncomputable def law04Fixed (fu : Nat) : Option (Bool × Unit) :=
  (valueCompare fu ((1 : Int), (2 : Int), (0 : Nat), [], ()) ((2 : Int), (0 : Int), (4612811918334230528 : Nat), [], ())).bind fun r1 =>
  (extFrom.f fu ((9223372036854775808 : Int), ())).bind fun r2 =>
  (valueCompare fu ((2 : Int), (0 : Int), r2.1, [], ()) ((1 : Int), (0 : Int), (0 : Nat), [], ())).bind fun r3 =>
  cond (r1.1 == (-1 : Int)) (
    cond r1.2.1 (
      cond (r3.1 == (0 : Int)) (
        cond r3.2.1 (
          (valueMay fu ((0 : Int), (0 : Int), (0 : Nat), [], ())).bind fun r4 =>
          some (r4.1, ())) (
          some (false, ()))) (
        some (false, ()))) (
      some (false, ()))) (
    some (false, ()))

noncomputable def law04Fixed.body : Code := Try.f34.body.getD .skip
noncomputable def law04Fixed.con : Con := { ps := [], rs := [.bool], f := fun n x => law04Fixed n }
noncomputable def law04Fixed.env : Env := { tys := [(4, ⟨.bool, 1⟩), (58, ⟨kS1, 40⟩)], elems := [], ptrs := [], cons := [(35, valueCompare.con), (14, extFrom), (38, valueMay.con)], objs := [], loops := [], cuts := [], globs := globs, base := 0 }
noncomputable def law04Fixed.lp (n : Nat) : LP (Kd.struct law04Fixed.con.rs).T := fun lo κ body nm K s =>
  loops n (Kd.struct law04Fixed.con.rs).T lo κ body nm K s
theorem law04Fixed.eq (n : Nat) (x : (Kd.struct law04Fixed.con.ps).T) : evFunc law04Fixed.env Try.f34 law04Fixed.body law04Fixed.con.ps law04Fixed.con.rs (law04Fixed.lp n) n x = law04Fixed.con.f n x := by kernel_rfl
theorem law04Fixed.sound : Sound Try.prog globs 34 law04Fixed.con :=
  sound_by (E := law04Fixed.env) (c := law04Fixed.body) (envOk (G := globs) (lc := [(35, valueCompare.con), (14, extFrom), (38, valueMay.con)]) (lo := []) (envB_spec (by kernel_rfl)) rfl rfl ⟨.inl ⟨valueCompare.sound, by kernel_rfl⟩, ⟨.inr (extFrom_ok Try.func14 (by kernel_rfl) (by kernel_rfl) (by kernel_rfl) (by kernel_rfl)), ⟨.inl ⟨valueMay.sound, by kernel_rfl⟩, trivial⟩⟩⟩ rfl trivial (by kernel_rfl) (by kernel_rfl)) Try.func34 (by kernel_rfl) law04Fixed.lp (l := []) (by kernel_rfl) (fun n => trivial) law04Fixed.eq
noncomputable def law04RawValue (fu : Nat) (rv : S0) : Option (S1 × Unit) :=
  (extFrom.f fu (rv.2.2.1, ())).bind fun r1 =>
  some ((rv.1, rv.2.1, r1.1, rv.2.2.2.1, ()), ())

noncomputable def law04RawValue.body : Code := Try.f36.body.getD .skip
noncomputable def law04RawValue.con : Con := { ps := [kS0], rs := [kS1], f := fun n x => law04RawValue n x.1 }
noncomputable def law04RawValue.env : Env := { tys := [(54, ⟨kS0, 40⟩), (58, ⟨kS1, 40⟩), (5, ⟨(.int .u8), 1⟩), (2, ⟨(.int .i64), 8⟩), (22, ⟨(.int .u64), 8⟩), (9, ⟨.str, 16⟩)], elems := [], ptrs := [], cons := [(14, extFrom)], objs := [], loops := [], cuts := [], globs := globs, base := 0 }
noncomputable def law04RawValue.lp (n : Nat) : LP (Kd.struct law04RawValue.con.rs).T := fun lo κ body nm K s =>
  loops n (Kd.struct law04RawValue.con.rs).T lo κ body nm K s
theorem law04RawValue.eq (n : Nat) (x : (Kd.struct law04RawValue.con.ps).T) : evFunc law04RawValue.env Try.f36 law04RawValue.body law04RawValue.con.ps law04RawValue.con.rs (law04RawValue.lp n) n x = law04RawValue.con.f n x := by kernel_rfl
theorem law04RawValue.sound : Sound Try.prog globs 36 law04RawValue.con :=
  sound_by (E := law04RawValue.env) (c := law04RawValue.body) (envOk (G := globs) (lc := [(14, extFrom)]) (lo := []) (envB_spec (by kernel_rfl)) rfl rfl ⟨.inr (extFrom_ok Try.func14 (by kernel_rfl) (by kernel_rfl) (by kernel_rfl) (by kernel_rfl)), trivial⟩ rfl trivial (by kernel_rfl) (by kernel_rfl)) Try.func36 (by kernel_rfl) law04RawValue.lp (l := []) (by kernel_rfl) (fun n => trivial) law04RawValue.eq
noncomputable def law04ValueOrder.j106010 (fu : Nat) (k0 : Unit → Option (Bool × Unit)) (k1 : Bool → Option (Bool × Unit)) (v : Bool) : Option (Bool × Unit) :=
  cond v (
    k1 false) (
    k0 ())
noncomputable def law04ValueOrder.j11 (fu : Nat) (k1 : Bool → Option (Bool × Unit)) : Option (Bool × Unit) :=
  (law04Fixed fu).bind fun r1 =>
  k1 r1.1
noncomputable def law04ValueOrder (fu : Nat) (xv : S0) (yv : S0) (z : S0) : Option (Bool × Unit) :=
  (law04Great fu ([xv, yv, z])).bind fun r1 =>
  cond r1.1 (
    (law04Fixed fu).bind fun r2 =>
    some (r2.1, ())) (
    (law04RawValue fu xv).bind fun r3 =>
    (law04RawValue fu yv).bind fun r4 =>
    (valueCompare fu r3.1 r4.1).bind fun r5 =>
    (law04RawValue fu yv).bind fun r6 =>
    (law04RawValue fu xv).bind fun r7 =>
    (valueCompare fu r6.1 r7.1).bind fun r8 =>
    (law04RawValue fu yv).bind fun r9 =>
    (law04RawValue fu z).bind fun r10 =>
    (valueCompare fu r9.1 r10.1).bind fun r11 =>
    (law04RawValue fu xv).bind fun r12 =>
    (law04RawValue fu z).bind fun r13 =>
    (valueCompare fu r12.1 r13.1).bind fun r14 =>
    let t15 := IntKind.i64.wrap (0 - r8.1)
    cond (r5.1 != t15) (
      some (false, ())) (
      cond (!(r5.2.1 == r8.2.1)) (
        some (false, ())) (
        cond r5.2.1 (
          cond r11.2.1 (
            cond (!r14.2.1) (
              law04ValueOrder.j106010 fu (fun (_ : Unit) => 
                  law04ValueOrder.j11 fu (fun vq2 => 
                      some (vq2, ()))) (fun vq3 => 
                  some (vq3, ())) true) (
              let t16 := decide (r5.1 ≤ (0 : Int))
              cond t16 (
                let t17 := decide (r11.1 ≤ (0 : Int))
                cond t17 (
                  let t18 := decide (r14.1 > (0 : Int))
                  cond t18 (
                    law04ValueOrder.j106010 fu (fun (_ : Unit) => 
                        law04ValueOrder.j11 fu (fun vq5 => 
                            some (vq5, ()))) (fun vq6 => 
                        some (vq6, ())) true) (
                    cond (r5.1 == (0 : Int)) (
                      cond (r11.1 == (0 : Int)) (
                        cond (r14.1 != (0 : Int)) (
                          law04ValueOrder.j106010 fu (fun (_ : Unit) => 
                              law04ValueOrder.j11 fu (fun vq8 => 
                                  some (vq8, ()))) (fun vq9 => 
                              some (vq9, ())) true) (
                          let t19 := decide (r5.1 < (0 : Int))
                          cond t19 (
                            let t20 := decide (r11.1 ≤ (0 : Int))
                            cond t20 (
                              let t21 := decide (r14.1 ≥ (0 : Int))
                              law04ValueOrder.j106010 fu (fun (_ : Unit) => 
                                  law04ValueOrder.j11 fu (fun vq11 => 
                                      some (vq11, ()))) (fun vq12 => 
                                  some (vq12, ())) t21) (
                              law04ValueOrder.j106010 fu (fun (_ : Unit) => 
                                  law04ValueOrder.j11 fu (fun vq14 => 
                                      some (vq14, ()))) (fun vq15 => 
                                  some (vq15, ())) false)) (
                            law04ValueOrder.j106010 fu (fun (_ : Unit) => 
                                law04ValueOrder.j11 fu (fun vq17 => 
                                    some (vq17, ()))) (fun vq18 => 
                                some (vq18, ())) false))) (
                        let t22 := decide (r5.1 < (0 : Int))
                        cond t22 (
                          let t23 := decide (r11.1 ≤ (0 : Int))
                          cond t23 (
                            let t24 := decide (r14.1 ≥ (0 : Int))
                            law04ValueOrder.j106010 fu (fun (_ : Unit) => 
                                law04ValueOrder.j11 fu (fun vq20 => 
                                    some (vq20, ()))) (fun vq21 => 
                                some (vq21, ())) t24) (
                            law04ValueOrder.j106010 fu (fun (_ : Unit) => 
                                law04ValueOrder.j11 fu (fun vq23 => 
                                    some (vq23, ()))) (fun vq24 => 
                                some (vq24, ())) false)) (
                          law04ValueOrder.j106010 fu (fun (_ : Unit) => 
                              law04ValueOrder.j11 fu (fun vq26 => 
                                  some (vq26, ()))) (fun vq27 => 
                              some (vq27, ())) false))) (
                      let t25 := decide (r5.1 < (0 : Int))
                      cond t25 (
                        let t26 := decide (r11.1 ≤ (0 : Int))
                        cond t26 (
                          let t27 := decide (r14.1 ≥ (0 : Int))
                          law04ValueOrder.j106010 fu (fun (_ : Unit) => 
                              law04ValueOrder.j11 fu (fun vq29 => 
                                  some (vq29, ()))) (fun vq30 => 
                              some (vq30, ())) t27) (
                          law04ValueOrder.j106010 fu (fun (_ : Unit) => 
                              law04ValueOrder.j11 fu (fun vq32 => 
                                  some (vq32, ()))) (fun vq33 => 
                              some (vq33, ())) false)) (
                        law04ValueOrder.j106010 fu (fun (_ : Unit) => 
                            law04ValueOrder.j11 fu (fun vq35 => 
                                some (vq35, ()))) (fun vq36 => 
                            some (vq36, ())) false)))) (
                  cond (r5.1 == (0 : Int)) (
                    cond (r11.1 == (0 : Int)) (
                      cond (r14.1 != (0 : Int)) (
                        law04ValueOrder.j106010 fu (fun (_ : Unit) => 
                            law04ValueOrder.j11 fu (fun vq38 => 
                                some (vq38, ()))) (fun vq39 => 
                            some (vq39, ())) true) (
                        let t28 := decide (r5.1 < (0 : Int))
                        cond t28 (
                          let t29 := decide (r11.1 ≤ (0 : Int))
                          cond t29 (
                            let t30 := decide (r14.1 ≥ (0 : Int))
                            law04ValueOrder.j106010 fu (fun (_ : Unit) => 
                                law04ValueOrder.j11 fu (fun vq41 => 
                                    some (vq41, ()))) (fun vq42 => 
                                some (vq42, ())) t30) (
                            law04ValueOrder.j106010 fu (fun (_ : Unit) => 
                                law04ValueOrder.j11 fu (fun vq44 => 
                                    some (vq44, ()))) (fun vq45 => 
                                some (vq45, ())) false)) (
                          law04ValueOrder.j106010 fu (fun (_ : Unit) => 
                              law04ValueOrder.j11 fu (fun vq47 => 
                                  some (vq47, ()))) (fun vq48 => 
                              some (vq48, ())) false))) (
                      let t31 := decide (r5.1 < (0 : Int))
                      cond t31 (
                        let t32 := decide (r11.1 ≤ (0 : Int))
                        cond t32 (
                          let t33 := decide (r14.1 ≥ (0 : Int))
                          law04ValueOrder.j106010 fu (fun (_ : Unit) => 
                              law04ValueOrder.j11 fu (fun vq50 => 
                                  some (vq50, ()))) (fun vq51 => 
                              some (vq51, ())) t33) (
                          law04ValueOrder.j106010 fu (fun (_ : Unit) => 
                              law04ValueOrder.j11 fu (fun vq53 => 
                                  some (vq53, ()))) (fun vq54 => 
                              some (vq54, ())) false)) (
                        law04ValueOrder.j106010 fu (fun (_ : Unit) => 
                            law04ValueOrder.j11 fu (fun vq56 => 
                                some (vq56, ()))) (fun vq57 => 
                            some (vq57, ())) false))) (
                    let t34 := decide (r5.1 < (0 : Int))
                    cond t34 (
                      let t35 := decide (r11.1 ≤ (0 : Int))
                      cond t35 (
                        let t36 := decide (r14.1 ≥ (0 : Int))
                        law04ValueOrder.j106010 fu (fun (_ : Unit) => 
                            law04ValueOrder.j11 fu (fun vq59 => 
                                some (vq59, ()))) (fun vq60 => 
                            some (vq60, ())) t36) (
                        law04ValueOrder.j106010 fu (fun (_ : Unit) => 
                            law04ValueOrder.j11 fu (fun vq62 => 
                                some (vq62, ()))) (fun vq63 => 
                            some (vq63, ())) false)) (
                      law04ValueOrder.j106010 fu (fun (_ : Unit) => 
                          law04ValueOrder.j11 fu (fun vq65 => 
                              some (vq65, ()))) (fun vq66 => 
                          some (vq66, ())) false)))) (
                cond (r5.1 == (0 : Int)) (
                  cond (r11.1 == (0 : Int)) (
                    cond (r14.1 != (0 : Int)) (
                      law04ValueOrder.j106010 fu (fun (_ : Unit) => 
                          law04ValueOrder.j11 fu (fun vq68 => 
                              some (vq68, ()))) (fun vq69 => 
                          some (vq69, ())) true) (
                      let t37 := decide (r5.1 < (0 : Int))
                      cond t37 (
                        let t38 := decide (r11.1 ≤ (0 : Int))
                        cond t38 (
                          let t39 := decide (r14.1 ≥ (0 : Int))
                          law04ValueOrder.j106010 fu (fun (_ : Unit) => 
                              law04ValueOrder.j11 fu (fun vq71 => 
                                  some (vq71, ()))) (fun vq72 => 
                              some (vq72, ())) t39) (
                          law04ValueOrder.j106010 fu (fun (_ : Unit) => 
                              law04ValueOrder.j11 fu (fun vq74 => 
                                  some (vq74, ()))) (fun vq75 => 
                              some (vq75, ())) false)) (
                        law04ValueOrder.j106010 fu (fun (_ : Unit) => 
                            law04ValueOrder.j11 fu (fun vq77 => 
                                some (vq77, ()))) (fun vq78 => 
                            some (vq78, ())) false))) (
                    let t40 := decide (r5.1 < (0 : Int))
                    cond t40 (
                      let t41 := decide (r11.1 ≤ (0 : Int))
                      cond t41 (
                        let t42 := decide (r14.1 ≥ (0 : Int))
                        law04ValueOrder.j106010 fu (fun (_ : Unit) => 
                            law04ValueOrder.j11 fu (fun vq80 => 
                                some (vq80, ()))) (fun vq81 => 
                            some (vq81, ())) t42) (
                        law04ValueOrder.j106010 fu (fun (_ : Unit) => 
                            law04ValueOrder.j11 fu (fun vq83 => 
                                some (vq83, ()))) (fun vq84 => 
                            some (vq84, ())) false)) (
                      law04ValueOrder.j106010 fu (fun (_ : Unit) => 
                          law04ValueOrder.j11 fu (fun vq86 => 
                              some (vq86, ()))) (fun vq87 => 
                          some (vq87, ())) false))) (
                  let t43 := decide (r5.1 < (0 : Int))
                  cond t43 (
                    let t44 := decide (r11.1 ≤ (0 : Int))
                    cond t44 (
                      let t45 := decide (r14.1 ≥ (0 : Int))
                      law04ValueOrder.j106010 fu (fun (_ : Unit) => 
                          law04ValueOrder.j11 fu (fun vq89 => 
                              some (vq89, ()))) (fun vq90 => 
                          some (vq90, ())) t45) (
                      law04ValueOrder.j106010 fu (fun (_ : Unit) => 
                          law04ValueOrder.j11 fu (fun vq92 => 
                              some (vq92, ()))) (fun vq93 => 
                          some (vq93, ())) false)) (
                    law04ValueOrder.j106010 fu (fun (_ : Unit) => 
                        law04ValueOrder.j11 fu (fun vq95 => 
                            some (vq95, ()))) (fun vq96 => 
                        some (vq96, ())) false))))) (
            law04ValueOrder.j106010 fu (fun (_ : Unit) => 
                law04ValueOrder.j11 fu (fun vq98 => 
                    some (vq98, ()))) (fun vq99 => 
                some (vq99, ())) false)) (
          law04ValueOrder.j106010 fu (fun (_ : Unit) => 
              law04ValueOrder.j11 fu (fun vq101 => 
                  some (vq101, ()))) (fun vq102 => 
              some (vq102, ())) false))))

noncomputable def law04ValueOrder.body : Code := Try.f9.body.getD .skip
abbrev law04ValueOrder.shj106010 : Shp := ⟨[.u, .u, .u, .u, .u, .u, .u, .u, .u, .u, .u, .u, .u, .u, .u, .u, .u, .u, .u, .u, .u, .u, .u, .u, .u, .u, .u, .u, .u, .u, .u, .u, .u, .u, .u, .u, .u, .u, .u, .u, .u, .u, .u, .u, .u, .u, .u, .u, .u, .u, .u, .u, .u, .u, .u, .u, .u, .u, .u, .u, .u, .u, .u, .u, .u, .u, .u, .u, .u, .u, .u, .u, .u, .u, .u, .u, .u, .u, .u, .u, .u, .u, .u, .u, .u, .u, .u, .u, .u, .u, .u, .u, .u, .u, .u, .u, .u, .u, .u, .u, .u, .u, .u, .u, .u, .d .bool, .u], []⟩
abbrev law04ValueOrder.outj106010e0 : Shp := ⟨[.u, .u, .u, .u, .u, .u, .u, .u, .u, .u, .u, .u, .u, .u, .u, .u, .u, .u, .u, .u, .u, .u, .u, .u, .u, .u, .u, .u, .u, .u, .u, .u, .u, .u, .u, .u, .u, .u, .u, .u, .u, .u, .u, .u, .u, .u, .u, .u, .u, .u, .u, .u, .u, .u, .u, .u, .u, .u, .u, .u, .u, .u, .u, .u, .u, .u, .u, .u, .u, .u, .u, .u, .u, .u, .u, .u, .u, .u, .u, .u, .u, .u, .u, .u, .u, .u, .u, .u, .u, .u, .u, .u, .u, .u, .u, .u, .u, .u, .u, .u, .u, .u, .u, .u, .u, .u, .u], []⟩
abbrev law04ValueOrder.outj106010e1 : Shp := ⟨[.u, .u, .u, .u, .u, .u, .d .bool, .u, .u, .u, .u, .u, .u, .u, .u, .u, .u, .u, .u, .u, .u, .u, .u, .u, .u, .u, .u, .u, .u, .u, .u, .u, .u, .u, .u, .u, .u, .u, .u, .u, .u, .u, .u, .u, .u, .u, .u, .u, .u, .u, .u, .u, .u, .u, .u, .u, .u, .u, .u, .u, .u, .u, .u, .u, .u, .u, .u, .u, .u, .u, .u, .u, .u, .u, .u, .u, .u, .u, .u, .u, .u, .u, .u, .u, .u, .u, .u, .u, .u, .u, .u, .u, .u, .u, .u, .u, .u, .u, .u, .u, .u, .u, .u, .u, .u, .u, .u], []⟩
noncomputable def law04ValueOrder.nmj106010 : Norm := ⟨{ keep := [105], shut := [(105, .bool)], retag := [], heap := 0, dead := [], cshut := [], cretag := [] }, [(0, { keep := [], shut := [], retag := [], heap := 0, dead := [], cshut := [], cretag := [] }), (1, { keep := [6], shut := [(6, .bool)], retag := [], heap := 0, dead := [], cshut := [], cretag := [] })]⟩
abbrev law04ValueOrder.shj11 : Shp := ⟨[.u, .u, .u, .u, .u, .u, .u, .u, .u, .u, .u, .u, .u, .u, .u, .u, .u, .u, .u, .u, .u, .u, .u, .u, .u, .u, .u, .u, .u, .u, .u, .u, .u, .u, .u, .u, .u, .u, .u, .u, .u, .u, .u, .u, .u, .u, .u, .u, .u, .u, .u, .u, .u, .u, .u, .u, .u, .u, .u, .u, .u, .u, .u, .u, .u, .u, .u, .u, .u, .u, .u, .u, .u, .u, .u, .u, .u, .u, .u, .u, .u, .u, .u, .u, .u, .u, .u, .u, .u, .u, .u, .u, .u, .u, .u, .u, .u, .u, .u, .u, .u, .u, .u, .u, .u, .u, .u], []⟩
abbrev law04ValueOrder.outj11e1 : Shp := ⟨[.u, .u, .u, .u, .u, .u, .d .bool, .u, .u, .u, .u, .u, .u, .u, .u, .u, .u, .u, .u, .u, .u, .u, .u, .u, .u, .u, .u, .u, .u, .u, .u, .u, .u, .u, .u, .u, .u, .u, .u, .u, .u, .u, .u, .u, .u, .u, .u, .u, .u, .u, .u, .u, .u, .u, .u, .u, .u, .u, .u, .u, .u, .u, .u, .u, .u, .u, .u, .u, .u, .u, .u, .u, .u, .u, .u, .u, .u, .u, .u, .u, .u, .u, .u, .u, .u, .u, .u, .u, .u, .u, .u, .u, .u, .u, .u, .u, .u, .u, .u, .u, .u, .u, .u, .u, .u, .u, .u], []⟩
noncomputable def law04ValueOrder.nmj11 : Norm := ⟨{ keep := [], shut := [], retag := [], heap := 0, dead := [], cshut := [], cretag := [] }, [(1, { keep := [6], shut := [(6, .bool)], retag := [], heap := 0, dead := [], cshut := [], cretag := [] })]⟩
noncomputable def law04ValueOrder.con : Con := { ps := [kS0, kS0, kS0], rs := [.bool], f := fun n x => law04ValueOrder n x.1 x.2.1 x.2.2.1 }
noncomputable def law04ValueOrder.env : Env := { tys := [(54, ⟨kS0, 40⟩), (4, ⟨.bool, 1⟩)], elems := [(82, 54)], ptrs := [], cons := [(33, law04Great.con), (34, law04Fixed.con), (36, law04RawValue.con), (35, valueCompare.con)], objs := [], loops := [], cuts := [(106010, law04ValueOrder.nmj106010), (11, law04ValueOrder.nmj11)], globs := globs, base := 0 }
noncomputable def law04ValueOrder.lp (n : Nat) : LP (Kd.struct law04ValueOrder.con.rs).T := fun lo κ body nm K s =>
  cond (!lo && Nat.beq κ 106010)
    (match law04ValueOrder.shj106010.dec s with
    | some v => law04ValueOrder.j106010 n (fun _ => K .normal (law04ValueOrder.outj106010e0.enc (()))) (fun w0 => K .ret (law04ValueOrder.outj106010e1.enc (w0, ()))) v.1
    | none => loops n (Kd.struct law04ValueOrder.con.rs).T lo κ body nm K s)
    (cond (!lo && Nat.beq κ 11)
    (match law04ValueOrder.shj11.dec s with
    | some v => law04ValueOrder.j11 n (fun w0 => K .ret (law04ValueOrder.outj11e1.enc (w0, ())))
    | none => loops n (Kd.struct law04ValueOrder.con.rs).T lo κ body nm K s)
    (loops n (Kd.struct law04ValueOrder.con.rs).T lo κ body nm K s))
theorem law04ValueOrder.atj106010 (n : Nat) (s : St) (K : Ex → St → Option (Kd.struct law04ValueOrder.con.rs).T) : law04ValueOrder.lp n false 106010 (evK law04ValueOrder.env (law04ValueOrder.lp n) n (sub [1, 1, 1, 1, 1, 1, 1, 0, 1] law04ValueOrder.body)) law04ValueOrder.nmj106010 K s = loops n (Kd.struct law04ValueOrder.con.rs).T false 106010 (evK law04ValueOrder.env (law04ValueOrder.lp n) n (sub [1, 1, 1, 1, 1, 1, 1, 0, 1] law04ValueOrder.body)) law04ValueOrder.nmj106010 K s := by
  show (match law04ValueOrder.shj106010.dec s with | some v => law04ValueOrder.j106010 n (fun _ => K .normal (law04ValueOrder.outj106010e0.enc (()))) (fun w0 => K .ret (law04ValueOrder.outj106010e1.enc (w0, ()))) v.1 | none => loops n (Kd.struct law04ValueOrder.con.rs).T false 106010 (evK law04ValueOrder.env (law04ValueOrder.lp n) n (sub [1, 1, 1, 1, 1, 1, 1, 0, 1] law04ValueOrder.body)) law04ValueOrder.nmj106010 K s) = _
  cases h : law04ValueOrder.shj106010.dec s with
  | none => rfl
  | some v =>
    rw [Shp.dec_enc h]
    kernel_rfl
theorem law04ValueOrder.atj11 (n : Nat) (s : St) (K : Ex → St → Option (Kd.struct law04ValueOrder.con.rs).T) : law04ValueOrder.lp n false 11 (evK law04ValueOrder.env (law04ValueOrder.lp n) n (sub [1, 1, 1, 1, 1, 1, 1, 1] law04ValueOrder.body)) law04ValueOrder.nmj11 K s = loops n (Kd.struct law04ValueOrder.con.rs).T false 11 (evK law04ValueOrder.env (law04ValueOrder.lp n) n (sub [1, 1, 1, 1, 1, 1, 1, 1] law04ValueOrder.body)) law04ValueOrder.nmj11 K s := by
  show (match law04ValueOrder.shj11.dec s with | some v => law04ValueOrder.j11 n (fun w0 => K .ret (law04ValueOrder.outj11e1.enc (w0, ()))) | none => loops n (Kd.struct law04ValueOrder.con.rs).T false 11 (evK law04ValueOrder.env (law04ValueOrder.lp n) n (sub [1, 1, 1, 1, 1, 1, 1, 1] law04ValueOrder.body)) law04ValueOrder.nmj11 K s) = _
  cases h : law04ValueOrder.shj11.dec s with
  | none => rfl
  | some v =>
    rw [Shp.dec_enc h]
    kernel_rfl
theorem law04ValueOrder.eq (n : Nat) (x : (Kd.struct law04ValueOrder.con.ps).T) : evFunc law04ValueOrder.env Try.f9 law04ValueOrder.body law04ValueOrder.con.ps law04ValueOrder.con.rs (law04ValueOrder.lp n) n x = law04ValueOrder.con.f n x := by kernel_rfl
theorem law04ValueOrder.sound : Sound Try.prog globs 9 law04ValueOrder.con :=
  sound_by (E := law04ValueOrder.env) (c := law04ValueOrder.body) (envOk (G := globs) (lc := [(33, law04Great.con), (34, law04Fixed.con), (36, law04RawValue.con), (35, valueCompare.con)]) (lo := []) (envB_spec (by kernel_rfl)) rfl rfl ⟨.inl ⟨law04Great.sound, by kernel_rfl⟩, ⟨.inl ⟨law04Fixed.sound, by kernel_rfl⟩, ⟨.inl ⟨law04RawValue.sound, by kernel_rfl⟩, ⟨.inl ⟨valueCompare.sound, by kernel_rfl⟩, trivial⟩⟩⟩⟩ rfl trivial (by kernel_rfl) (by kernel_rfl)) Try.func9 (by kernel_rfl) law04ValueOrder.lp (l := [(false, sub [1, 1, 1, 1, 1, 1, 1, 0, 1] law04ValueOrder.body, law04ValueOrder.nmj106010), (false, sub [1, 1, 1, 1, 1, 1, 1, 1] law04ValueOrder.body, law04ValueOrder.nmj11)]) (by kernel_rfl) (fun n => ⟨law04ValueOrder.atj106010 n, ⟨law04ValueOrder.atj11 n, trivial⟩⟩) law04ValueOrder.eq
end
end Go.Shal.Pr
