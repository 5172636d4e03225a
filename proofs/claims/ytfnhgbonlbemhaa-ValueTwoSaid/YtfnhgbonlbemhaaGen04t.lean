/- Prints of functions, and proofs that they are what the code computes. By an AI agent. -/
import Derived.Test.YtfnhgbonlbemhaaShC
import Derived.Test.YtfnhgbonlbemhaaProg
set_option linter.unusedVariables false
set_option maxRecDepth 100000
namespace Go.Shal.Pr
open Go Go.Shal Go.Proofs
noncomputable section
def globs : Globs := []
abbrev kS0 : Kd := .struct [(.int .u8), (.int .i64), (.int .u64), .str]
abbrev S0 : Type := Int × Int × Int × (List Int) × Unit
abbrev kS1 : Kd := .struct [(.int .u8), (.int .i64), .flt, .str]
abbrev S1 : Type := Int × Int × Nat × (List Int) × Unit
abbrev kS2 : Kd := .struct [.bool, (.int .i64), (.int .u64)]
abbrev S2 : Type := Bool × Int × Int × Unit
noncomputable def law04Great.b2 (fu : Nat) (next : (List S0) → Int → Int → Option (Bool × Unit)) (k1 : Bool → Option (Bool × Unit)) (k2 : Unit → Option (Bool × Unit)) (v : List S0) (vx2 : Int) (vx3 : Int) : Option (Bool × Unit) :=
  cond (decide (vx3 < vx2)) (
    chk (ixOk v vx3) <|
    let e1 := ixL ((0 : Int), (0 : Int), (0 : Int), [], ()) v vx3
    let t2 := (e1.2.2.2.1.length : Int)
    let t3 := decide (t2 > (2000 : Int))
    cond t3 (
      k1 true) (
      let t4 := IntKind.i64.wrap (vx3 + (1 : Int))
      next v vx2 t4)) (
    k2 ())
noncomputable def law04Great.l2 (fu : Nat) (k1 : Bool → Option (Bool × Unit)) (k2 : Unit → Option (Bool × Unit)) : Nat → (List S0) → Int → Int → Option (Bool × Unit)
  | 0, _, _, _ => none
  | m + 1, v, vx2, vx3 => law04Great.b2 fu (law04Great.l2 fu k1 k2 m) k1 k2 v vx2 vx3
noncomputable def law04Great (fu : Nat) (l : List S0) : Option (Bool × Unit) :=
  law04Great.l2 fu (fun vq3 => 
      some (vq3, ())) (fun (_ : Unit) => 
      some (false, ())) fu l (l.length : Int) (0 : Int)

noncomputable def law04Great.body : Code := Try.f33.body.getD .skip
abbrev law04Great.shl2 : Shp := ⟨[.u, .u, .u, .u, .u, .d (.slice kS0), .d (.int .i64), .d (.int .i64), .u, .u, .u, .u, .u, .u, .u, .u], []⟩
abbrev law04Great.outl2e1 : Shp := ⟨[.u, .u, .d .bool, .u, .u, .u, .u, .u, .u, .u, .u, .u, .u, .u, .u, .u], []⟩
abbrev law04Great.outl2e2 : Shp := ⟨[.u, .u, .u, .u, .u, .u, .u, .u, .u, .u, .u, .u, .u, .u, .u, .u], []⟩
noncomputable def law04Great.nml2 : Norm := ⟨{ keep := [5, 6, 7], shut := [(5, (.slice kS0)), (6, (.int .i64)), (7, (.int .i64))], retag := [], heap := 0, dead := [], cshut := [], cretag := [] }, [(1, { keep := [2], shut := [(2, .bool)], retag := [], heap := 0, dead := [], cshut := [], cretag := [] }), (2, { keep := [], shut := [], retag := [], heap := 0, dead := [], cshut := [], cretag := [] })]⟩
noncomputable def law04Great.con : Con := { ps := [(.slice kS0)], rs := [.bool], f := fun n x => law04Great n x.1 }
noncomputable def law04Great.env : Env := { tys := [(4, ⟨.bool, 1⟩), (54, ⟨kS0, 40⟩), (3, ⟨(.int .i64), 8⟩), (9, ⟨.str, 16⟩)], elems := [(82, 54)], ptrs := [], cons := [], objs := [], loops := [(2, law04Great.nml2)], cuts := [], globs := globs, base := 0 }
noncomputable def law04Great.lp (n : Nat) : LP (Kd.struct law04Great.con.rs).T := fun lo κ body nm K s =>
  cond (lo && Nat.beq κ 2)
    (match law04Great.shl2.dec s with
    | some v => law04Great.l2 n (fun w0 => K .ret (law04Great.outl2e1.enc (w0, ()))) (fun _ => K (.exit 0) (law04Great.outl2e2.enc (()))) n v.1 v.2.1 v.2.2.1
    | none => loops n (Kd.struct law04Great.con.rs).T lo κ body nm K s)
    (loops n (Kd.struct law04Great.con.rs).T lo κ body nm K s)
theorem law04Great.atl2 (n : Nat) (s : St) (K : Ex → St → Option (Kd.struct law04Great.con.rs).T) : (law04Great.lp n) true 2 (evK law04Great.env (law04Great.lp n) n (sub [1, 0, 1, 0, 0] law04Great.body)) law04Great.nml2 K s = loops n (Kd.struct law04Great.con.rs).T true 2 (evK law04Great.env (law04Great.lp n) n (sub [1, 0, 1, 0, 0] law04Great.body)) law04Great.nml2 K s := by
  show (match law04Great.shl2.dec s with | some v => law04Great.l2 n (fun w0 => K .ret (law04Great.outl2e1.enc (w0, ()))) (fun _ => K (.exit 0) (law04Great.outl2e2.enc (()))) n v.1 v.2.1 v.2.2.1 | none => loops n (Kd.struct law04Great.con.rs).T true 2 (evK law04Great.env (law04Great.lp n) n (sub [1, 0, 1, 0, 0] law04Great.body)) law04Great.nml2 K s) = _
  cases h : law04Great.shl2.dec s with
  | none => rfl
  | some v =>
    rw [Shp.dec_enc h]
    exact (evLoop_eq (sh := law04Great.shl2) (body := evK law04Great.env (law04Great.lp n) n (sub [1, 0, 1, 0, 0] law04Great.body)) (nm := law04Great.nml2) (K := K) (b := fun nx v => law04Great.b2 n (fun x0 x1 x2 => nx (x0, x1, x2, ())) (fun w0 => K .ret (law04Great.outl2e1.enc (w0, ()))) (fun _ => K (.exit 0) (law04Great.outl2e2.enc (()))) v.1 v.2.1 v.2.2.1) (l := fun m v => law04Great.l2 n (fun w0 => K .ret (law04Great.outl2e1.enc (w0, ()))) (fun _ => K (.exit 0) (law04Great.outl2e2.enc (()))) m v.1 v.2.1 v.2.2.1) (fun _ => rfl) (fun _ _ => rfl) (fun m v => by kernel_rfl) n v).symm
theorem law04Great.eq (n : Nat) (x : (Kd.struct law04Great.con.ps).T) : evFunc law04Great.env Try.f33 law04Great.body law04Great.con.ps law04Great.con.rs (law04Great.lp n) n x = law04Great.con.f n x := by kernel_rfl
theorem law04Great.sound : Sound Try.prog globs 33 law04Great.con :=
  sound_by (E := law04Great.env) (c := law04Great.body) (envOk (G := globs) (lc := []) (lo := []) (envB_spec (by kernel_rfl)) rfl rfl trivial rfl trivial (by kernel_rfl) (by kernel_rfl)) Try.func33 (by kernel_rfl) law04Great.lp (l := [(true, sub [1, 0, 1, 0, 0] law04Great.body, law04Great.nml2)]) (by kernel_rfl) (fun n => ⟨law04Great.atl2 n, trivial⟩) law04Great.eq
noncomputable def valueHeld (fu : Nat) (v : S1) : Option (S1 × Unit) :=
  cond (v.1 == (1 : Int)) (
    some ((v.1, v.2.1, (0 : Nat), [], ()), ())) (
    cond (v.1 == (2 : Int)) (
      some ((v.1, (0 : Int), v.2.2.1, [], ()), ())) (
      cond (v.1 == (3 : Int)) (
        some ((v.1, (0 : Int), (0 : Nat), v.2.2.2.1, ()), ())) (
        some ((v.1, (0 : Int), (0 : Nat), [], ()), ()))))

noncomputable def valueHeld.body : Code := Try.f59.body.getD .skip
noncomputable def valueHeld.con : Con := { ps := [kS1], rs := [kS1], f := fun n x => valueHeld n x.1 }
noncomputable def valueHeld.env : Env := { tys := [(58, ⟨kS1, 40⟩), (5, ⟨(.int .u8), 1⟩), (2, ⟨(.int .i64), 8⟩), (25, ⟨.flt, 8⟩), (9, ⟨.str, 16⟩)], elems := [], ptrs := [], cons := [], objs := [], loops := [], cuts := [], globs := globs, base := 0 }
noncomputable def valueHeld.lp (n : Nat) : LP (Kd.struct valueHeld.con.rs).T := fun lo κ body nm K s =>
  loops n (Kd.struct valueHeld.con.rs).T lo κ body nm K s
theorem valueHeld.eq (n : Nat) (x : (Kd.struct valueHeld.con.ps).T) : evFunc valueHeld.env Try.f59 valueHeld.body valueHeld.con.ps valueHeld.con.rs (valueHeld.lp n) n x = valueHeld.con.f n x := by kernel_rfl
theorem valueHeld.sound : Sound Try.prog globs 59 valueHeld.con :=
  sound_by (E := valueHeld.env) (c := valueHeld.body) (envOk (G := globs) (lc := []) (lo := []) (envB_spec (by kernel_rfl)) rfl rfl trivial rfl trivial (by kernel_rfl) (by kernel_rfl)) Try.func59 (by kernel_rfl) valueHeld.lp (l := []) (by kernel_rfl) (fun n => trivial) valueHeld.eq
noncomputable def valueMay (fu : Nat) (v : S1) : Option (Bool × Unit) :=
  (valueHeld fu v).bind fun r1 =>
  cond (decide (v.1 ≤ (3 : Int))) (
    let t2 := decide ((v.2.2.2.1.length : Int) ≤ (255 : Int))
    cond t2 (
      cond (r1.1.2.1 == v.2.1) (
        let t3 := r1.1.2.2.2.1 == v.2.2.2.1
        cond t3 (
          (extBits.f fu (r1.1.2.2.1, ())).bind fun r4 =>
          (extBits.f fu (v.2.2.1, ())).bind fun r5 =>
          some (r4.1 == r5.1, ())) (
          some (false, ()))) (
        some (false, ()))) (
      some (false, ()))) (
    some (false, ()))

noncomputable def valueMay.body : Code := Try.f38.body.getD .skip
noncomputable def valueMay.con : Con := { ps := [kS1], rs := [.bool], f := fun n x => valueMay n x.1 }
noncomputable def valueMay.env : Env := { tys := [(58, ⟨kS1, 40⟩), (4, ⟨.bool, 1⟩), (5, ⟨(.int .u8), 1⟩), (9, ⟨.str, 16⟩), (2, ⟨(.int .i64), 8⟩), (25, ⟨.flt, 8⟩)], elems := [], ptrs := [], cons := [(59, valueHeld.con), (26, extBits)], objs := [], loops := [], cuts := [], globs := globs, base := 0 }
noncomputable def valueMay.lp (n : Nat) : LP (Kd.struct valueMay.con.rs).T := fun lo κ body nm K s =>
  loops n (Kd.struct valueMay.con.rs).T lo κ body nm K s
theorem valueMay.eq (n : Nat) (x : (Kd.struct valueMay.con.ps).T) : evFunc valueMay.env Try.f38 valueMay.body valueMay.con.ps valueMay.con.rs (valueMay.lp n) n x = valueMay.con.f n x := by kernel_rfl
theorem valueMay.sound : Sound Try.prog globs 38 valueMay.con :=
  sound_by (E := valueMay.env) (c := valueMay.body) (envOk (G := globs) (lc := [(59, valueHeld.con), (26, extBits)]) (lo := []) (envB_spec (by kernel_rfl)) rfl rfl ⟨.inl ⟨valueHeld.sound, by kernel_rfl⟩, ⟨.inr (extBits_ok Try.func26 (by kernel_rfl) (by kernel_rfl) (by kernel_rfl) (by kernel_rfl)), trivial⟩⟩ rfl trivial (by kernel_rfl) (by kernel_rfl)) Try.func38 (by kernel_rfl) valueMay.lp (l := []) (by kernel_rfl) (fun n => trivial) valueMay.eq
noncomputable def bytealgCompareString (fu : Nat) (a : List Int) (b : List Int) : Option (Int × Unit) :=
  (extCmp.f fu (a, b, ())).bind fun r1 =>
  some (r1.1, ())

noncomputable def bytealgCompareString.body : Code := Try.f79.body.getD .skip
noncomputable def bytealgCompareString.con : Con := { ps := [.str, .str], rs := [(.int .i64)], f := fun n x => bytealgCompareString n x.1 x.2.1 }
noncomputable def bytealgCompareString.env : Env := { tys := [(3, ⟨(.int .i64), 8⟩)], elems := [], ptrs := [], cons := [(89, extCmp)], objs := [], loops := [], cuts := [], globs := globs, base := 0 }
noncomputable def bytealgCompareString.lp (n : Nat) : LP (Kd.struct bytealgCompareString.con.rs).T := fun lo κ body nm K s =>
  loops n (Kd.struct bytealgCompareString.con.rs).T lo κ body nm K s
theorem bytealgCompareString.eq (n : Nat) (x : (Kd.struct bytealgCompareString.con.ps).T) : evFunc bytealgCompareString.env Try.f79 bytealgCompareString.body bytealgCompareString.con.ps bytealgCompareString.con.rs (bytealgCompareString.lp n) n x = bytealgCompareString.con.f n x := by kernel_rfl
theorem bytealgCompareString.sound : Sound Try.prog globs 79 bytealgCompareString.con :=
  sound_by (E := bytealgCompareString.env) (c := bytealgCompareString.body) (envOk (G := globs) (lc := [(89, extCmp)]) (lo := []) (envB_spec (by kernel_rfl)) rfl rfl ⟨.inr (extCmp_ok Try.func89 (by kernel_rfl) (by kernel_rfl) (by kernel_rfl) (by kernel_rfl)), trivial⟩ rfl trivial (by kernel_rfl) (by kernel_rfl)) Try.func79 (by kernel_rfl) bytealgCompareString.lp (l := []) (by kernel_rfl) (fun n => trivial) bytealgCompareString.eq
noncomputable def stringsCompare (fu : Nat) (a : List Int) (b : List Int) : Option (Int × Unit) :=
  (bytealgCompareString fu a b).bind fun r1 =>
  some (r1.1, ())

noncomputable def stringsCompare.body : Code := Try.f56.body.getD .skip
noncomputable def stringsCompare.con : Con := { ps := [.str, .str], rs := [(.int .i64)], f := fun n x => stringsCompare n x.1 x.2.1 }
noncomputable def stringsCompare.env : Env := { tys := [(3, ⟨(.int .i64), 8⟩)], elems := [], ptrs := [], cons := [(79, bytealgCompareString.con)], objs := [], loops := [], cuts := [], globs := globs, base := 0 }
noncomputable def stringsCompare.lp (n : Nat) : LP (Kd.struct stringsCompare.con.rs).T := fun lo κ body nm K s =>
  loops n (Kd.struct stringsCompare.con.rs).T lo κ body nm K s
theorem stringsCompare.eq (n : Nat) (x : (Kd.struct stringsCompare.con.ps).T) : evFunc stringsCompare.env Try.f56 stringsCompare.body stringsCompare.con.ps stringsCompare.con.rs (stringsCompare.lp n) n x = stringsCompare.con.f n x := by kernel_rfl
theorem stringsCompare.sound : Sound Try.prog globs 56 stringsCompare.con :=
  sound_by (E := stringsCompare.env) (c := stringsCompare.body) (envOk (G := globs) (lc := [(79, bytealgCompareString.con)]) (lo := []) (envB_spec (by kernel_rfl)) rfl rfl ⟨.inl ⟨bytealgCompareString.sound, by kernel_rfl⟩, trivial⟩ rfl trivial (by kernel_rfl) (by kernel_rfl)) Try.func56 (by kernel_rfl) stringsCompare.lp (l := []) (by kernel_rfl) (fun n => trivial) stringsCompare.eq
noncomputable def realCompare (fu : Nat) (a : Nat) (b : Nat) : Option (Int × Bool × Unit) :=
  cond (fLss a b) (
    some ((-1 : Int), true, ())) (
    cond (fGtr a b) (
      some ((1 : Int), true, ())) (
      some ((0 : Int), fEql a b, ())))

noncomputable def realCompare.body : Code := Try.f18.body.getD .skip
noncomputable def realCompare.con : Con := { ps := [.flt, .flt], rs := [(.int .i64), .bool], f := fun n x => realCompare n x.1 x.2.1 }
noncomputable def realCompare.env : Env := { tys := [(3, ⟨(.int .i64), 8⟩), (4, ⟨.bool, 1⟩)], elems := [], ptrs := [], cons := [], objs := [], loops := [], cuts := [], globs := globs, base := 0 }
noncomputable def realCompare.lp (n : Nat) : LP (Kd.struct realCompare.con.rs).T := fun lo κ body nm K s =>
  loops n (Kd.struct realCompare.con.rs).T lo κ body nm K s
theorem realCompare.eq (n : Nat) (x : (Kd.struct realCompare.con.ps).T) : evFunc realCompare.env Try.f18 realCompare.body realCompare.con.ps realCompare.con.rs (realCompare.lp n) n x = realCompare.con.f n x := by kernel_rfl
theorem realCompare.sound : Sound Try.prog globs 18 realCompare.con :=
  sound_by (E := realCompare.env) (c := realCompare.body) (envOk (G := globs) (lc := []) (lo := []) (envB_spec (by kernel_rfl)) rfl rfl trivial rfl trivial (by kernel_rfl) (by kernel_rfl)) Try.func18 (by kernel_rfl) realCompare.lp (l := []) (by kernel_rfl) (fun n => trivial) realCompare.eq
noncomputable def mathFloor (fu : Nat) (xv : Nat) : Option (Nat × Unit) :=
  (extFloor.f fu (xv, ())).bind fun r1 =>
  some (r1.1, ())

noncomputable def mathFloor.body : Code := Try.f46.body.getD .skip
noncomputable def mathFloor.con : Con := { ps := [.flt], rs := [.flt], f := fun n x => mathFloor n x.1 }
noncomputable def mathFloor.env : Env := { tys := [(25, ⟨.flt, 8⟩)], elems := [], ptrs := [], cons := [(72, extFloor)], objs := [], loops := [], cuts := [], globs := globs, base := 0 }
noncomputable def mathFloor.lp (n : Nat) : LP (Kd.struct mathFloor.con.rs).T := fun lo κ body nm K s =>
  loops n (Kd.struct mathFloor.con.rs).T lo κ body nm K s
theorem mathFloor.eq (n : Nat) (x : (Kd.struct mathFloor.con.ps).T) : evFunc mathFloor.env Try.f46 mathFloor.body mathFloor.con.ps mathFloor.con.rs (mathFloor.lp n) n x = mathFloor.con.f n x := by kernel_rfl
theorem mathFloor.sound : Sound Try.prog globs 46 mathFloor.con :=
  sound_by (E := mathFloor.env) (c := mathFloor.body) (envOk (G := globs) (lc := [(72, extFloor)]) (lo := []) (envB_spec (by kernel_rfl)) rfl rfl ⟨.inr (extFloor_ok Try.func72 (by kernel_rfl) (by kernel_rfl) (by kernel_rfl) (by kernel_rfl)), trivial⟩ rfl trivial (by kernel_rfl) (by kernel_rfl)) Try.func46 (by kernel_rfl) mathFloor.lp (l := []) (by kernel_rfl) (fun n => trivial) mathFloor.eq
noncomputable def cmpIsNaN (fu : Nat) (xv : Int) : Option (Bool × Unit) :=
  some (xv != xv, ())

noncomputable def cmpIsNaN.body : Code := Try.f74.body.getD .skip
noncomputable def cmpIsNaN.con : Con := { ps := [(.int .i64)], rs := [.bool], f := fun n x => cmpIsNaN n x.1 }
noncomputable def cmpIsNaN.env : Env := { tys := [(4, ⟨.bool, 1⟩)], elems := [], ptrs := [], cons := [], objs := [], loops := [], cuts := [], globs := globs, base := 0 }
noncomputable def cmpIsNaN.lp (n : Nat) : LP (Kd.struct cmpIsNaN.con.rs).T := fun lo κ body nm K s =>
  loops n (Kd.struct cmpIsNaN.con.rs).T lo κ body nm K s
theorem cmpIsNaN.eq (n : Nat) (x : (Kd.struct cmpIsNaN.con.ps).T) : evFunc cmpIsNaN.env Try.f74 cmpIsNaN.body cmpIsNaN.con.ps cmpIsNaN.con.rs (cmpIsNaN.lp n) n x = cmpIsNaN.con.f n x := by kernel_rfl
theorem cmpIsNaN.sound : Sound Try.prog globs 74 cmpIsNaN.con :=
  sound_by (E := cmpIsNaN.env) (c := cmpIsNaN.body) (envOk (G := globs) (lc := []) (lo := []) (envB_spec (by kernel_rfl)) rfl rfl trivial rfl trivial (by kernel_rfl) (by kernel_rfl)) Try.func74 (by kernel_rfl) cmpIsNaN.lp (l := []) (by kernel_rfl) (fun n => trivial) cmpIsNaN.eq
noncomputable def cmpCompare (fu : Nat) (xv : Int) (yv : Int) : Option (Int × Unit) :=
  (cmpIsNaN fu xv).bind fun r1 =>
  (cmpIsNaN fu yv).bind fun r2 =>
  cond r1.1 (
    cond r2.1 (
      some ((0 : Int), ())) (
      some ((-1 : Int), ()))) (
    cond r2.1 (
      some ((1 : Int), ())) (
      cond (decide (xv < yv)) (
        some ((-1 : Int), ())) (
        cond (decide (xv > yv)) (
          some ((1 : Int), ())) (
          some ((0 : Int), ())))))

noncomputable def cmpCompare.body : Code := Try.f47.body.getD .skip
noncomputable def cmpCompare.con : Con := { ps := [(.int .i64), (.int .i64)], rs := [(.int .i64)], f := fun n x => cmpCompare n x.1 x.2.1 }
noncomputable def cmpCompare.env : Env := { tys := [(3, ⟨(.int .i64), 8⟩)], elems := [], ptrs := [], cons := [(74, cmpIsNaN.con)], objs := [], loops := [], cuts := [], globs := globs, base := 0 }
noncomputable def cmpCompare.lp (n : Nat) : LP (Kd.struct cmpCompare.con.rs).T := fun lo κ body nm K s =>
  loops n (Kd.struct cmpCompare.con.rs).T lo κ body nm K s
theorem cmpCompare.eq (n : Nat) (x : (Kd.struct cmpCompare.con.ps).T) : evFunc cmpCompare.env Try.f47 cmpCompare.body cmpCompare.con.ps cmpCompare.con.rs (cmpCompare.lp n) n x = cmpCompare.con.f n x := by kernel_rfl
theorem cmpCompare.sound : Sound Try.prog globs 47 cmpCompare.con :=
  sound_by (E := cmpCompare.env) (c := cmpCompare.body) (envOk (G := globs) (lc := [(74, cmpIsNaN.con)]) (lo := []) (envB_spec (by kernel_rfl)) rfl rfl ⟨.inl ⟨cmpIsNaN.sound, by kernel_rfl⟩, trivial⟩ rfl trivial (by kernel_rfl) (by kernel_rfl)) Try.func47 (by kernel_rfl) cmpCompare.lp (l := []) (by kernel_rfl) (fun n => trivial) cmpCompare.eq
noncomputable def realAgainst (fu : Nat) (n : Int) (xv : Nat) : Option (Int × Bool × Unit) :=
  cond (fNeq xv xv) (
    some ((0 : Int), false, ())) (
    let t1 := fGeq xv (4890909195324358656 : Nat)
    cond t1 (
      some ((-1 : Int), true, ())) (
      let t2 := fLss xv (14114281232179134464 : Nat)
      cond t2 (
        some ((1 : Int), true, ())) (
        (mathFloor fu xv).bind fun r3 =>
        chk (fIntOk .i64 r3.1) <|
        (cmpCompare fu n (fInt .i64 r3.1)).bind fun r4 =>
        cond (r4.1 == (0 : Int)) (
          cond (fGtr xv r3.1) (
            some ((-1 : Int), true, ())) (
            some (r4.1, true, ()))) (
          some (r4.1, true, ())))))

noncomputable def realAgainst.body : Code := Try.f13.body.getD .skip
noncomputable def realAgainst.con : Con := { ps := [(.int .i64), .flt], rs := [(.int .i64), .bool], f := fun n x => realAgainst n x.1 x.2.1 }
noncomputable def realAgainst.env : Env := { tys := [(3, ⟨(.int .i64), 8⟩), (4, ⟨.bool, 1⟩), (2, ⟨(.int .i64), 8⟩), (25, ⟨.flt, 8⟩)], elems := [], ptrs := [], cons := [(46, mathFloor.con), (47, cmpCompare.con)], objs := [], loops := [], cuts := [], globs := globs, base := 0 }
noncomputable def realAgainst.lp (n : Nat) : LP (Kd.struct realAgainst.con.rs).T := fun lo κ body nm K s =>
  loops n (Kd.struct realAgainst.con.rs).T lo κ body nm K s
theorem realAgainst.eq (n : Nat) (x : (Kd.struct realAgainst.con.ps).T) : evFunc realAgainst.env Try.f13 realAgainst.body realAgainst.con.ps realAgainst.con.rs (realAgainst.lp n) n x = realAgainst.con.f n x := by kernel_rfl
theorem realAgainst.sound : Sound Try.prog globs 13 realAgainst.con :=
  sound_by (E := realAgainst.env) (c := realAgainst.body) (envOk (G := globs) (lc := [(46, mathFloor.con), (47, cmpCompare.con)]) (lo := []) (envB_spec (by kernel_rfl)) rfl rfl ⟨.inl ⟨mathFloor.sound, by kernel_rfl⟩, ⟨.inl ⟨cmpCompare.sound, by kernel_rfl⟩, trivial⟩⟩ rfl trivial (by kernel_rfl) (by kernel_rfl)) Try.func13 (by kernel_rfl) realAgainst.lp (l := []) (by kernel_rfl) (fun n => trivial) realAgainst.eq
noncomputable def valueCompare (fu : Nat) (a : S1) (b : S1) : Option (Int × Bool × Unit) :=
  (valueMay fu a).bind fun r1 =>
  cond (!r1.1) (
    some ((0 : Int), false, ())) (
    (valueMay fu b).bind fun r2 =>
    cond (!r2.1) (
      some ((0 : Int), false, ())) (
      let t3 := [List.getD ([a.1, b.1]) 0 (0 : Int), List.getD ([a.1, b.1]) 1 (0 : Int)]
      let t4 := t3 == ([(3 : Int), (3 : Int)])
      cond t4 (
        (stringsCompare fu a.2.2.2.1 b.2.2.2.1).bind fun r5 =>
        some (r5.1, true, ())) (
        let t6 := [List.getD ([a.1, b.1]) 0 (0 : Int), List.getD ([a.1, b.1]) 1 (0 : Int)]
        let t7 := t6 == ([(2 : Int), (2 : Int)])
        cond t7 (
          (realCompare fu a.2.2.1 b.2.2.1).bind fun r8 =>
          some (r8.1, r8.2.1, ())) (
          let t9 := [List.getD ([a.1, b.1]) 0 (0 : Int), List.getD ([a.1, b.1]) 1 (0 : Int)]
          let t10 := t9 == ([(1 : Int), (2 : Int)])
          cond t10 (
            (realAgainst fu a.2.1 b.2.2.1).bind fun r11 =>
            some (r11.1, r11.2.1, ())) (
            let t12 := [List.getD ([a.1, b.1]) 0 (0 : Int), List.getD ([a.1, b.1]) 1 (0 : Int)]
            let t13 := t12 == ([(2 : Int), (1 : Int)])
            cond t13 (
              (realAgainst fu b.2.1 a.2.2.1).bind fun r14 =>
              let t15 := IntKind.i64.wrap (0 - r14.1)
              some (t15, r14.2.1, ())) (
              let t16 := [List.getD ([a.1, b.1]) 0 (0 : Int), List.getD ([a.1, b.1]) 1 (0 : Int)]
              let t17 := t16 == ([(1 : Int), (1 : Int)])
              cond t17 (
                cond (decide (a.2.1 < b.2.1)) (
                  some ((-1 : Int), true, ())) (
                  cond (decide (a.2.1 > b.2.1)) (
                    some ((1 : Int), true, ())) (
                    some ((0 : Int), true, ())))) (
                some ((0 : Int), false, ()))))))))

noncomputable def valueCompare.body : Code := Try.f35.body.getD .skip
noncomputable def valueCompare.con : Con := { ps := [kS1, kS1], rs := [(.int .i64), .bool], f := fun n x => valueCompare n x.1 x.2.1 }
noncomputable def valueCompare.env : Env := { tys := [(58, ⟨kS1, 40⟩), (3, ⟨(.int .i64), 8⟩), (4, ⟨.bool, 1⟩), (5, ⟨(.int .u8), 1⟩), (83, ⟨(.arr 2 (.int .u8)), 2⟩), (9, ⟨.str, 16⟩), (25, ⟨.flt, 8⟩), (2, ⟨(.int .i64), 8⟩)], elems := [], ptrs := [], cons := [(38, valueMay.con), (56, stringsCompare.con), (18, realCompare.con), (13, realAgainst.con)], objs := [], loops := [], cuts := [], globs := globs, base := 0 }
noncomputable def valueCompare.lp (n : Nat) : LP (Kd.struct valueCompare.con.rs).T := fun lo κ body nm K s =>
  loops n (Kd.struct valueCompare.con.rs).T lo κ body nm K s
theorem valueCompare.eq (n : Nat) (x : (Kd.struct valueCompare.con.ps).T) : evFunc valueCompare.env Try.f35 valueCompare.body valueCompare.con.ps valueCompare.con.rs (valueCompare.lp n) n x = valueCompare.con.f n x := by kernel_rfl
theorem valueCompare.sound : Sound Try.prog globs 35 valueCompare.con :=
  sound_by (E := valueCompare.env) (c := valueCompare.body) (envOk (G := globs) (lc := [(38, valueMay.con), (56, stringsCompare.con), (18, realCompare.con), (13, realAgainst.con)]) (lo := []) (envB_spec (by kernel_rfl)) rfl rfl ⟨.inl ⟨valueMay.sound, by kernel_rfl⟩, ⟨.inl ⟨stringsCompare.sound, by kernel_rfl⟩, ⟨.inl ⟨realCompare.sound, by kernel_rfl⟩, ⟨.inl ⟨realAgainst.sound, by kernel_rfl⟩, trivial⟩⟩⟩⟩ rfl trivial (by kernel_rfl) (by kernel_rfl)) Try.func35 (by kernel_rfl) valueCompare.lp (l := []) (by kernel_rfl) (fun n => trivial) valueCompare.eq
noncomputable def law04Fixed (fu : Nat) : Option (Bool × Unit) :=
  (valueCompare fu ((1 : Int), (2 : Int), (0 : Nat), [], ()) ((2 : Int), (0 : Int), (4612811918334230528 : Nat), [], ())).bind fun r1 =>
  (extFrom.f fu ((9223372036854775808 : Int), ())).bind fun r2 =>
  (valueCompare fu ((2 : Int), (0 : Int), r2.1, [], ()) ((1 : Int), (0 : Int), (0 : Nat), [], ())).bind fun r3 =>
  cond (r1.1 == (-1 : Int)) (
    cond r1.2.1 (
      cond (r3.1 == (0 : Int)) (
        cond r3.2.1 (
          (valueMay fu ((0 : Int), (0 : Int), (0 : Nat), [], ())).bind fun r4 =>
          some (r4.1, ())) (
          some (false, ()))) (
        some (false, ()))) (
      some (false, ()))) (
    some (false, ()))

noncomputable def law04Fixed.body : Code := Try.f34.body.getD .skip
noncomputable def law04Fixed.con : Con := { ps := [], rs := [.bool], f := fun n x => law04Fixed n }
noncomputable def law04Fixed.env : Env := { tys := [(4, ⟨.bool, 1⟩), (58, ⟨kS1, 40⟩)], elems := [], ptrs := [], cons := [(35, valueCompare.con), (14, extFrom), (38, valueMay.con)], objs := [], loops := [], cuts := [], globs := globs, base := 0 }
noncomputable def law04Fixed.lp (n : Nat) : LP (Kd.struct law04Fixed.con.rs).T := fun lo κ body nm K s =>
  loops n (Kd.struct law04Fixed.con.rs).T lo κ body nm K s
theorem law04Fixed.eq (n : Nat) (x : (Kd.struct law04Fixed.con.ps).T) : evFunc law04Fixed.env Try.f34 law04Fixed.body law04Fixed.con.ps law04Fixed.con.rs (law04Fixed.lp n) n x = law04Fixed.con.f n x := by kernel_rfl
theorem law04Fixed.sound : Sound Try.prog globs 34 law04Fixed.con :=
  sound_by (E := law04Fixed.env) (c := law04Fixed.body) (envOk (G := globs) (lc := [(35, valueCompare.con), (14, extFrom), (38, valueMay.con)]) (lo := []) (envB_spec (by kernel_rfl)) rfl rfl ⟨.inl ⟨valueCompare.sound, by kernel_rfl⟩, ⟨.inr (extFrom_ok Try.func14 (by kernel_rfl) (by kernel_rfl) (by kernel_rfl) (by kernel_rfl)), ⟨.inl ⟨valueMay.sound, by kernel_rfl⟩, trivial⟩⟩⟩ rfl trivial (by kernel_rfl) (by kernel_rfl)) Try.func34 (by kernel_rfl) law04Fixed.lp (l := []) (by kernel_rfl) (fun n => trivial) law04Fixed.eq
noncomputable def law04RawValue (fu : Nat) (rv : S0) : Option (S1 × Unit) :=
  (extFrom.f fu (rv.2.2.1, ())).bind fun r1 =>
  some ((rv.1, rv.2.1, r1.1, rv.2.2.2.1, ()), ())

noncomputable def law04RawValue.body : Code := Try.f36.body.getD .skip
noncomputable def law04RawValue.con : Con := { ps := [kS0], rs := [kS1], f := fun n x => law04RawValue n x.1 }
noncomputable def law04RawValue.env : Env := { tys := [(54, ⟨kS0, 40⟩), (58, ⟨kS1, 40⟩), (5, ⟨(.int .u8), 1⟩), (2, ⟨(.int .i64), 8⟩), (22, ⟨(.int .u64), 8⟩), (9, ⟨.str, 16⟩)], elems := [], ptrs := [], cons := [(14, extFrom)], objs := [], loops := [], cuts := [], globs := globs, base := 0 }
noncomputable def law04RawValue.lp (n : Nat) : LP (Kd.struct law04RawValue.con.rs).T := fun lo κ body nm K s =>
  loops n (Kd.struct law04RawValue.con.rs).T lo κ body nm K s
theorem law04RawValue.eq (n : Nat) (x : (Kd.struct law04RawValue.con.ps).T) : evFunc law04RawValue.env Try.f36 law04RawValue.body law04RawValue.con.ps law04RawValue.con.rs (law04RawValue.lp n) n x = law04RawValue.con.f n x := by kernel_rfl
theorem law04RawValue.sound : Sound Try.prog globs 36 law04RawValue.con :=
  sound_by (E := law04RawValue.env) (c := law04RawValue.body) (envOk (G := globs) (lc := [(14, extFrom)]) (lo := []) (envB_spec (by kernel_rfl)) rfl rfl ⟨.inr (extFrom_ok Try.func14 (by kernel_rfl) (by kernel_rfl) (by kernel_rfl) (by kernel_rfl)), trivial⟩ rfl trivial (by kernel_rfl) (by kernel_rfl)) Try.func36 (by kernel_rfl) law04RawValue.lp (l := []) (by kernel_rfl) (fun n => trivial) law04RawValue.eq
noncomputable def ref04May.j4 (fu : Nat) (k1 : Bool → Option (Bool × Unit)) (whole : Bool) (point : Bool) (text : Bool) (b0 : S1) : Option (Bool × Unit) :=
  let t1 := decide (b0.1 < (4 : Int))
  cond t1 (
    cond whole (
      cond point (
        cond text (
          let t2 := (b0.2.2.2.1.length : Int)
          let t3 := decide (t2 ≤ (255 : Int))
          k1 t3) (
          k1 false)) (
        k1 false)) (
      k1 false)) (
    k1 false)
noncomputable def ref04May.j3 (fu : Nat) (k1 : Bool → Option (Bool × Unit)) (whole : Bool) (point : Bool) (b0 : S1) : Option (Bool × Unit) :=
  let t1 := b0.2.2.2.1 == ([] : List Int)
  cond t1 (
    ref04May.j4 fu (fun vq3 => 
        k1 vq3) whole point true b0) (
    ref04May.j4 fu (fun vq4 => 
        k1 vq4) whole point (b0.1 == (3 : Int)) b0)
noncomputable def ref04May.j2 (fu : Nat) (k1 : Bool → Option (Bool × Unit)) (whole : Bool) (b0 : S1) : Option (Bool × Unit) :=
  (extBits.f fu (b0.2.2.1, ())).bind fun r1 =>
  cond (r1.1 == (0 : Int)) (
    ref04May.j3 fu (fun vq5 => 
        k1 vq5) whole true b0) (
    ref04May.j3 fu (fun vq6 => 
        k1 vq6) whole (b0.1 == (2 : Int)) b0)
noncomputable def ref04May (fu : Nat) (v : S1) : Option (Bool × Unit) :=
  cond (v.2.1 == (0 : Int)) (
    ref04May.j2 fu (fun vq1 => 
        some (vq1, ())) true v) (
    ref04May.j2 fu (fun vq2 => 
        some (vq2, ())) (v.1 == (1 : Int)) v)

noncomputable def ref04May.body : Code := Try.f39.body.getD .skip
abbrev ref04May.shj4 : Shp := ⟨[.u, .p 0 0, .u, .d .bool, .d .bool, .d .bool, .u, .u, .u, .u, .u, .u, .u, .u, .u, .u, .u, .u, .u, .u, .u, .u, .u, .u, .u, .u, .u, .u, .u, .u, .u, .u, .u, .u, .u, .u, .u, .u, .u, .u, .u, .u, .u, .u, .u, .u, .u, .u, .u], [.c [.g kS1]]⟩
abbrev ref04May.outj4e1 : Shp := ⟨[.u, .u, .d .bool, .u, .u, .u, .u, .u, .u, .u, .u, .u, .u, .u, .u, .u, .u, .u, .u, .u, .u, .u, .u, .u, .u, .u, .u, .u, .u, .u, .u, .u, .u, .u, .u, .u, .u, .u, .u, .u, .u, .u, .u, .u, .u, .u, .u, .u, .u], []⟩
noncomputable def ref04May.nmj4 : Norm := ⟨{ keep := [1, 3, 4, 5], shut := [(3, .bool), (4, .bool), (5, .bool)], retag := [], heap := 1, dead := [], cshut := [(0, 0, (.int .u8)), (0, 1, (.int .i64)), (0, 2, .flt), (0, 3, .str)], cretag := [] }, [(1, { keep := [2], shut := [(2, .bool)], retag := [], heap := 0, dead := [], cshut := [], cretag := [] })]⟩
abbrev ref04May.shj3 : Shp := ⟨[.u, .p 0 0, .u, .d .bool, .d .bool, .u, .u, .u, .u, .u, .u, .u, .u, .u, .u, .u, .u, .u, .u, .u, .u, .u, .u, .u, .u, .u, .u, .u, .u, .u, .u, .u, .u, .u, .u, .u, .u, .u, .u, .u, .u, .u, .u, .u, .u, .u, .u, .u, .u], [.c [.g kS1]]⟩
abbrev ref04May.outj3e1 : Shp := ⟨[.u, .u, .d .bool, .u, .u, .u, .u, .u, .u, .u, .u, .u, .u, .u, .u, .u, .u, .u, .u, .u, .u, .u, .u, .u, .u, .u, .u, .u, .u, .u, .u, .u, .u, .u, .u, .u, .u, .u, .u, .u, .u, .u, .u, .u, .u, .u, .u, .u, .u], []⟩
noncomputable def ref04May.nmj3 : Norm := ⟨{ keep := [1, 3, 4], shut := [(3, .bool), (4, .bool)], retag := [], heap := 1, dead := [], cshut := [(0, 0, (.int .u8)), (0, 1, (.int .i64)), (0, 2, .flt), (0, 3, .str)], cretag := [] }, [(1, { keep := [2], shut := [(2, .bool)], retag := [], heap := 0, dead := [], cshut := [], cretag := [] })]⟩
abbrev ref04May.shj2 : Shp := ⟨[.u, .p 0 0, .u, .d .bool, .u, .u, .u, .u, .u, .u, .u, .u, .u, .u, .u, .u, .u, .u, .u, .u, .u, .u, .u, .u, .u, .u, .u, .u, .u, .u, .u, .u, .u, .u, .u, .u, .u, .u, .u, .u, .u, .u, .u, .u, .u, .u, .u, .u, .u], [.c [.g kS1]]⟩
abbrev ref04May.outj2e1 : Shp := ⟨[.u, .u, .d .bool, .u, .u, .u, .u, .u, .u, .u, .u, .u, .u, .u, .u, .u, .u, .u, .u, .u, .u, .u, .u, .u, .u, .u, .u, .u, .u, .u, .u, .u, .u, .u, .u, .u, .u, .u, .u, .u, .u, .u, .u, .u, .u, .u, .u, .u, .u], []⟩
noncomputable def ref04May.nmj2 : Norm := ⟨{ keep := [1, 3], shut := [(3, .bool)], retag := [], heap := 1, dead := [], cshut := [(0, 0, (.int .u8)), (0, 1, (.int .i64)), (0, 2, .flt), (0, 3, .str)], cretag := [] }, [(1, { keep := [2], shut := [(2, .bool)], retag := [], heap := 0, dead := [], cshut := [], cretag := [] })]⟩
noncomputable def ref04May.con : Con := { ps := [kS1], rs := [.bool], f := fun n x => ref04May n x.1 }
noncomputable def ref04May.env : Env := { tys := [(58, ⟨kS1, 40⟩), (4, ⟨.bool, 1⟩), (2, ⟨(.int .i64), 8⟩), (5, ⟨(.int .u8), 1⟩), (25, ⟨.flt, 8⟩), (9, ⟨.str, 16⟩)], elems := [], ptrs := [], cons := [(26, extBits)], objs := [], loops := [], cuts := [(4, ref04May.nmj4), (3, ref04May.nmj3), (2, ref04May.nmj2)], globs := globs, base := 0 }
noncomputable def ref04May.lp (n : Nat) : LP (Kd.struct ref04May.con.rs).T := fun lo κ body nm K s =>
  cond (!lo && Nat.beq κ 4)
    (match ref04May.shj4.dec s with
    | some v => ref04May.j4 n (fun w0 => K .ret (ref04May.outj4e1.enc (w0, ()))) v.1 v.2.1 v.2.2.1 v.2.2.2.1
    | none => loops n (Kd.struct ref04May.con.rs).T lo κ body nm K s)
    (cond (!lo && Nat.beq κ 3)
    (match ref04May.shj3.dec s with
    | some v => ref04May.j3 n (fun w0 => K .ret (ref04May.outj3e1.enc (w0, ()))) v.1 v.2.1 v.2.2.1
    | none => loops n (Kd.struct ref04May.con.rs).T lo κ body nm K s)
    (cond (!lo && Nat.beq κ 2)
    (match ref04May.shj2.dec s with
    | some v => ref04May.j2 n (fun w0 => K .ret (ref04May.outj2e1.enc (w0, ()))) v.1 v.2.1
    | none => loops n (Kd.struct ref04May.con.rs).T lo κ body nm K s)
    (loops n (Kd.struct ref04May.con.rs).T lo κ body nm K s)))
theorem ref04May.atj4 (n : Nat) (s : St) (K : Ex → St → Option (Kd.struct ref04May.con.rs).T) : (ref04May.lp n) false 4 (evK ref04May.env (ref04May.lp n) n (sub [1, 1, 1, 1] ref04May.body)) ref04May.nmj4 K s = loops n (Kd.struct ref04May.con.rs).T false 4 (evK ref04May.env (ref04May.lp n) n (sub [1, 1, 1, 1] ref04May.body)) ref04May.nmj4 K s := by
  show (match ref04May.shj4.dec s with | some v => ref04May.j4 n (fun w0 => K .ret (ref04May.outj4e1.enc (w0, ()))) v.1 v.2.1 v.2.2.1 v.2.2.2.1 | none => loops n (Kd.struct ref04May.con.rs).T false 4 (evK ref04May.env (ref04May.lp n) n (sub [1, 1, 1, 1] ref04May.body)) ref04May.nmj4 K s) = _
  cases h : ref04May.shj4.dec s with
  | none => rfl
  | some v =>
    rw [Shp.dec_enc h]
    kernel_rfl
theorem ref04May.atj3 (n : Nat) (s : St) (K : Ex → St → Option (Kd.struct ref04May.con.rs).T) : (ref04May.lp n) false 3 (evK ref04May.env (ref04May.lp n) n (sub [1, 1, 1] ref04May.body)) ref04May.nmj3 K s = loops n (Kd.struct ref04May.con.rs).T false 3 (evK ref04May.env (ref04May.lp n) n (sub [1, 1, 1] ref04May.body)) ref04May.nmj3 K s := by
  show (match ref04May.shj3.dec s with | some v => ref04May.j3 n (fun w0 => K .ret (ref04May.outj3e1.enc (w0, ()))) v.1 v.2.1 v.2.2.1 | none => loops n (Kd.struct ref04May.con.rs).T false 3 (evK ref04May.env (ref04May.lp n) n (sub [1, 1, 1] ref04May.body)) ref04May.nmj3 K s) = _
  cases h : ref04May.shj3.dec s with
  | none => rfl
  | some v =>
    rw [Shp.dec_enc h]
    kernel_rfl
theorem ref04May.atj2 (n : Nat) (s : St) (K : Ex → St → Option (Kd.struct ref04May.con.rs).T) : (ref04May.lp n) false 2 (evK ref04May.env (ref04May.lp n) n (sub [1, 1] ref04May.body)) ref04May.nmj2 K s = loops n (Kd.struct ref04May.con.rs).T false 2 (evK ref04May.env (ref04May.lp n) n (sub [1, 1] ref04May.body)) ref04May.nmj2 K s := by
  show (match ref04May.shj2.dec s with | some v => ref04May.j2 n (fun w0 => K .ret (ref04May.outj2e1.enc (w0, ()))) v.1 v.2.1 | none => loops n (Kd.struct ref04May.con.rs).T false 2 (evK ref04May.env (ref04May.lp n) n (sub [1, 1] ref04May.body)) ref04May.nmj2 K s) = _
  cases h : ref04May.shj2.dec s with
  | none => rfl
  | some v =>
    rw [Shp.dec_enc h]
    kernel_rfl
theorem ref04May.eq (n : Nat) (x : (Kd.struct ref04May.con.ps).T) : evFunc ref04May.env Try.f39 ref04May.body ref04May.con.ps ref04May.con.rs (ref04May.lp n) n x = ref04May.con.f n x := by kernel_rfl
theorem ref04May.sound : Sound Try.prog globs 39 ref04May.con :=
  sound_by (E := ref04May.env) (c := ref04May.body) (envOk (G := globs) (lc := [(26, extBits)]) (lo := []) (envB_spec (by kernel_rfl)) rfl rfl ⟨.inr (extBits_ok Try.func26 (by kernel_rfl) (by kernel_rfl) (by kernel_rfl) (by kernel_rfl)), trivial⟩ rfl trivial (by kernel_rfl) (by kernel_rfl)) Try.func39 (by kernel_rfl) ref04May.lp (l := [(false, sub [1, 1, 1, 1] ref04May.body, ref04May.nmj4), (false, sub [1, 1, 1] ref04May.body, ref04May.nmj3), (false, sub [1, 1] ref04May.body, ref04May.nmj2)]) (by kernel_rfl) (fun n => ⟨ref04May.atj4 n, ⟨ref04May.atj3 n, ⟨ref04May.atj2 n, trivial⟩⟩⟩) ref04May.eq
noncomputable def ref04Texts.b2 (fu : Nat) (next : (List Int) → (List Int) → Int → Option (Int × Unit)) (k1 : Int → Option (Int × Unit)) (k2 : (List Int) → (List Int) → Option (Int × Unit)) (a : List Int) (b : List Int) (i : Int) : Option (Int × Unit) :=
  let t1 := decide (i < (a.length : Int))
  cond t1 (
    let t2 := decide (i < (b.length : Int))
    cond t2 (
      chk (ixOk a i) <|
      chk (ixOk b i) <|
      let t3 := decide (ixL (0 : Int) a i < ixL (0 : Int) b i)
      cond t3 (
        k1 (-1 : Int)) (
        chk (ixOk a i) <|
        chk (ixOk b i) <|
        let t4 := decide (ixL (0 : Int) a i > ixL (0 : Int) b i)
        cond t4 (
          k1 (1 : Int)) (
          let t5 := IntKind.i64.wrap (i + (1 : Int))
          next a b t5))) (
      k2 a b)) (
    k2 a b)
noncomputable def ref04Texts.l2 (fu : Nat) (k1 : Int → Option (Int × Unit)) (k2 : (List Int) → (List Int) → Option (Int × Unit)) : Nat → (List Int) → (List Int) → Int → Option (Int × Unit)
  | 0, _, _, _ => none
  | m + 1, a, b, i => ref04Texts.b2 fu (ref04Texts.l2 fu k1 k2 m) k1 k2 a b i
noncomputable def ref04Texts (fu : Nat) (a : List Int) (b : List Int) : Option (Int × Unit) :=
  ref04Texts.l2 fu (fun vq3 => 
      some (vq3, ())) (fun aq4 bq4 => 
      let t1 := decide ((aq4.length : Int) < (bq4.length : Int))
      cond t1 (
        some ((-1 : Int), ())) (
        let t2 := decide ((aq4.length : Int) > (bq4.length : Int))
        cond t2 (
          some ((1 : Int), ())) (
          some ((0 : Int), ())))) fu a b (0 : Int)

noncomputable def ref04Texts.body : Code := Try.f57.body.getD .skip
abbrev ref04Texts.shl2 : Shp := ⟨[.d .str, .d .str, .u, .u, .u, .d (.int .i64), .u, .u, .u, .u, .u, .u, .u, .u, .u, .u, .u, .u, .u, .u, .u, .u, .u, .u, .u, .u, .u, .u, .u, .u, .u, .u, .u, .u, .u, .u, .u, .u, .u, .u, .u, .u], []⟩
abbrev ref04Texts.outl2e1 : Shp := ⟨[.u, .u, .u, .u, .d (.int .i64), .u, .u, .u, .u, .u, .u, .u, .u, .u, .u, .u, .u, .u, .u, .u, .u, .u, .u, .u, .u, .u, .u, .u, .u, .u, .u, .u, .u, .u, .u, .u, .u, .u, .u, .u, .u, .u], []⟩
abbrev ref04Texts.outl2e2 : Shp := ⟨[.d .str, .d .str, .u, .u, .u, .u, .u, .u, .u, .u, .u, .u, .u, .u, .u, .u, .u, .u, .u, .u, .u, .u, .u, .u, .u, .u, .u, .u, .u, .u, .u, .u, .u, .u, .u, .u, .u, .u, .u, .u, .u, .u], []⟩
noncomputable def ref04Texts.nml2 : Norm := ⟨{ keep := [0, 1, 5], shut := [(0, .str), (1, .str), (5, (.int .i64))], retag := [], heap := 0, dead := [], cshut := [], cretag := [] }, [(1, { keep := [4], shut := [(4, (.int .i64))], retag := [], heap := 0, dead := [], cshut := [], cretag := [] }), (2, { keep := [0, 1], shut := [(0, .str), (1, .str)], retag := [], heap := 0, dead := [], cshut := [], cretag := [] })]⟩
noncomputable def ref04Texts.con : Con := { ps := [.str, .str], rs := [(.int .i64)], f := fun n x => ref04Texts n x.1 x.2.1 }
noncomputable def ref04Texts.env : Env := { tys := [(3, ⟨(.int .i64), 8⟩), (9, ⟨.str, 16⟩), (4, ⟨.bool, 1⟩)], elems := [], ptrs := [], cons := [], objs := [], loops := [(2, ref04Texts.nml2)], cuts := [], globs := globs, base := 0 }
noncomputable def ref04Texts.lp (n : Nat) : LP (Kd.struct ref04Texts.con.rs).T := fun lo κ body nm K s =>
  cond (lo && Nat.beq κ 2)
    (match ref04Texts.shl2.dec s with
    | some v => ref04Texts.l2 n (fun w0 => K .ret (ref04Texts.outl2e1.enc (w0, ()))) (fun w0 w1 => K (.exit 0) (ref04Texts.outl2e2.enc (w0, w1, ()))) n v.1 v.2.1 v.2.2.1
    | none => loops n (Kd.struct ref04Texts.con.rs).T lo κ body nm K s)
    (loops n (Kd.struct ref04Texts.con.rs).T lo κ body nm K s)
theorem ref04Texts.atl2 (n : Nat) (s : St) (K : Ex → St → Option (Kd.struct ref04Texts.con.rs).T) : (ref04Texts.lp n) true 2 (evK ref04Texts.env (ref04Texts.lp n) n (sub [1, 0, 1, 0, 0] ref04Texts.body)) ref04Texts.nml2 K s = loops n (Kd.struct ref04Texts.con.rs).T true 2 (evK ref04Texts.env (ref04Texts.lp n) n (sub [1, 0, 1, 0, 0] ref04Texts.body)) ref04Texts.nml2 K s := by
  show (match ref04Texts.shl2.dec s with | some v => ref04Texts.l2 n (fun w0 => K .ret (ref04Texts.outl2e1.enc (w0, ()))) (fun w0 w1 => K (.exit 0) (ref04Texts.outl2e2.enc (w0, w1, ()))) n v.1 v.2.1 v.2.2.1 | none => loops n (Kd.struct ref04Texts.con.rs).T true 2 (evK ref04Texts.env (ref04Texts.lp n) n (sub [1, 0, 1, 0, 0] ref04Texts.body)) ref04Texts.nml2 K s) = _
  cases h : ref04Texts.shl2.dec s with
  | none => rfl
  | some v =>
    rw [Shp.dec_enc h]
    exact (evLoop_eq (sh := ref04Texts.shl2) (body := evK ref04Texts.env (ref04Texts.lp n) n (sub [1, 0, 1, 0, 0] ref04Texts.body)) (nm := ref04Texts.nml2) (K := K) (b := fun nx v => ref04Texts.b2 n (fun x0 x1 x2 => nx (x0, x1, x2, ())) (fun w0 => K .ret (ref04Texts.outl2e1.enc (w0, ()))) (fun w0 w1 => K (.exit 0) (ref04Texts.outl2e2.enc (w0, w1, ()))) v.1 v.2.1 v.2.2.1) (l := fun m v => ref04Texts.l2 n (fun w0 => K .ret (ref04Texts.outl2e1.enc (w0, ()))) (fun w0 w1 => K (.exit 0) (ref04Texts.outl2e2.enc (w0, w1, ()))) m v.1 v.2.1 v.2.2.1) (fun _ => rfl) (fun _ _ => rfl) (fun m v => by kernel_rfl) n v).symm
theorem ref04Texts.eq (n : Nat) (x : (Kd.struct ref04Texts.con.ps).T) : evFunc ref04Texts.env Try.f57 ref04Texts.body ref04Texts.con.ps ref04Texts.con.rs (ref04Texts.lp n) n x = ref04Texts.con.f n x := by kernel_rfl
theorem ref04Texts.sound : Sound Try.prog globs 57 ref04Texts.con :=
  sound_by (E := ref04Texts.env) (c := ref04Texts.body) (envOk (G := globs) (lc := []) (lo := []) (envB_spec (by kernel_rfl)) rfl rfl trivial rfl trivial (by kernel_rfl) (by kernel_rfl)) Try.func57 (by kernel_rfl) ref04Texts.lp (l := [(true, sub [1, 0, 1, 0, 0] ref04Texts.body, ref04Texts.nml2)]) (by kernel_rfl) (fun n => ⟨ref04Texts.atl2 n, trivial⟩) ref04Texts.eq
noncomputable def ref02OfBits (fu : Nat) (b : Int) : Option (S2 × Unit) :=
  let t1 := decide (b ≥ (9223372036854775808 : Int))
  let t2 := IntKind.u64.wrap (Int.tdiv b (4503599627370496 : Int))
  let t3 := IntKind.i64.wrap (Int.tmod t2 (2048 : Int))
  let t4 := Int.tmod b (4503599627370496 : Int)
  some ((t1, t3, t4, ()), ())

noncomputable def ref02OfBits.body : Code := Try.f16.body.getD .skip
noncomputable def ref02OfBits.con : Con := { ps := [(.int .u64)], rs := [kS2], f := fun n x => ref02OfBits n x.1 }
noncomputable def ref02OfBits.env : Env := { tys := [(29, ⟨kS2, 24⟩), (3, ⟨(.int .i64), 8⟩), (22, ⟨(.int .u64), 8⟩)], elems := [], ptrs := [], cons := [], objs := [], loops := [], cuts := [], globs := globs, base := 0 }
noncomputable def ref02OfBits.lp (n : Nat) : LP (Kd.struct ref02OfBits.con.rs).T := fun lo κ body nm K s =>
  loops n (Kd.struct ref02OfBits.con.rs).T lo κ body nm K s
theorem ref02OfBits.eq (n : Nat) (x : (Kd.struct ref02OfBits.con.ps).T) : evFunc ref02OfBits.env Try.f16 ref02OfBits.body ref02OfBits.con.ps ref02OfBits.con.rs (ref02OfBits.lp n) n x = ref02OfBits.con.f n x := by kernel_rfl
theorem ref02OfBits.sound : Sound Try.prog globs 16 ref02OfBits.con :=
  sound_by (E := ref02OfBits.env) (c := ref02OfBits.body) (envOk (G := globs) (lc := []) (lo := []) (envB_spec (by kernel_rfl)) rfl rfl trivial rfl trivial (by kernel_rfl) (by kernel_rfl)) Try.func16 (by kernel_rfl) ref02OfBits.lp (l := []) (by kernel_rfl) (fun n => trivial) ref02OfBits.eq
noncomputable def ref02Of (fu : Nat) (xv : Nat) : Option (S2 × Unit) :=
  (extBits.f fu (xv, ())).bind fun r1 =>
  (ref02OfBits fu r1.1).bind fun r2 =>
  some (r2.1, ())

noncomputable def ref02Of.body : Code := Try.f58.body.getD .skip
noncomputable def ref02Of.con : Con := { ps := [.flt], rs := [kS2], f := fun n x => ref02Of n x.1 }
noncomputable def ref02Of.env : Env := { tys := [(29, ⟨kS2, 24⟩)], elems := [], ptrs := [], cons := [(26, extBits), (16, ref02OfBits.con)], objs := [], loops := [], cuts := [], globs := globs, base := 0 }
noncomputable def ref02Of.lp (n : Nat) : LP (Kd.struct ref02Of.con.rs).T := fun lo κ body nm K s =>
  loops n (Kd.struct ref02Of.con.rs).T lo κ body nm K s
theorem ref02Of.eq (n : Nat) (x : (Kd.struct ref02Of.con.ps).T) : evFunc ref02Of.env Try.f58 ref02Of.body ref02Of.con.ps ref02Of.con.rs (ref02Of.lp n) n x = ref02Of.con.f n x := by kernel_rfl
theorem ref02Of.sound : Sound Try.prog globs 58 ref02Of.con :=
  sound_by (E := ref02Of.env) (c := ref02Of.body) (envOk (G := globs) (lc := [(26, extBits), (16, ref02OfBits.con)]) (lo := []) (envB_spec (by kernel_rfl)) rfl rfl ⟨.inr (extBits_ok Try.func26 (by kernel_rfl) (by kernel_rfl) (by kernel_rfl) (by kernel_rfl)), ⟨.inl ⟨ref02OfBits.sound, by kernel_rfl⟩, trivial⟩⟩ rfl trivial (by kernel_rfl) (by kernel_rfl)) Try.func58 (by kernel_rfl) ref02Of.lp (l := []) (by kernel_rfl) (fun n => trivial) ref02Of.eq
noncomputable def ref02PartsNaN (fu : Nat) (p : S2) : Option (Bool × Unit) :=
  cond (p.2.1 == (2047 : Int)) (
    some (p.2.2.1 != (0 : Int), ())) (
    some (false, ()))

noncomputable def ref02PartsNaN.body : Code := Try.f48.body.getD .skip
noncomputable def ref02PartsNaN.con : Con := { ps := [kS2], rs := [.bool], f := fun n x => ref02PartsNaN n x.1 }
noncomputable def ref02PartsNaN.env : Env := { tys := [(29, ⟨kS2, 24⟩), (4, ⟨.bool, 1⟩), (3, ⟨(.int .i64), 8⟩), (22, ⟨(.int .u64), 8⟩)], elems := [], ptrs := [], cons := [], objs := [], loops := [], cuts := [], globs := globs, base := 0 }
noncomputable def ref02PartsNaN.lp (n : Nat) : LP (Kd.struct ref02PartsNaN.con.rs).T := fun lo κ body nm K s =>
  loops n (Kd.struct ref02PartsNaN.con.rs).T lo κ body nm K s
theorem ref02PartsNaN.eq (n : Nat) (x : (Kd.struct ref02PartsNaN.con.ps).T) : evFunc ref02PartsNaN.env Try.f48 ref02PartsNaN.body ref02PartsNaN.con.ps ref02PartsNaN.con.rs (ref02PartsNaN.lp n) n x = ref02PartsNaN.con.f n x := by kernel_rfl
theorem ref02PartsNaN.sound : Sound Try.prog globs 48 ref02PartsNaN.con :=
  sound_by (E := ref02PartsNaN.env) (c := ref02PartsNaN.body) (envOk (G := globs) (lc := []) (lo := []) (envB_spec (by kernel_rfl)) rfl rfl trivial rfl trivial (by kernel_rfl) (by kernel_rfl)) Try.func48 (by kernel_rfl) ref02PartsNaN.lp (l := []) (by kernel_rfl) (fun n => trivial) ref02PartsNaN.eq
noncomputable def ref02PartsClass (fu : Nat) (p : S2) : Option (Int × Unit) :=
  cond (p.2.1 == (2047 : Int)) (
    cond (p.2.2.1 != (0 : Int)) (
      some ((4 : Int), ())) (
      some ((3 : Int), ()))) (
    cond (p.2.1 == (0 : Int)) (
      cond (p.2.2.1 != (0 : Int)) (
        some ((1 : Int), ())) (
        some ((0 : Int), ()))) (
      some ((2 : Int), ())))

noncomputable def ref02PartsClass.body : Code := Try.f50.body.getD .skip
noncomputable def ref02PartsClass.con : Con := { ps := [kS2], rs := [(.int .i64)], f := fun n x => ref02PartsClass n x.1 }
noncomputable def ref02PartsClass.env : Env := { tys := [(29, ⟨kS2, 24⟩), (3, ⟨(.int .i64), 8⟩), (22, ⟨(.int .u64), 8⟩)], elems := [], ptrs := [], cons := [], objs := [], loops := [], cuts := [], globs := globs, base := 0 }
noncomputable def ref02PartsClass.lp (n : Nat) : LP (Kd.struct ref02PartsClass.con.rs).T := fun lo κ body nm K s =>
  loops n (Kd.struct ref02PartsClass.con.rs).T lo κ body nm K s
theorem ref02PartsClass.eq (n : Nat) (x : (Kd.struct ref02PartsClass.con.ps).T) : evFunc ref02PartsClass.env Try.f50 ref02PartsClass.body ref02PartsClass.con.ps ref02PartsClass.con.rs (ref02PartsClass.lp n) n x = ref02PartsClass.con.f n x := by kernel_rfl
theorem ref02PartsClass.sound : Sound Try.prog globs 50 ref02PartsClass.con :=
  sound_by (E := ref02PartsClass.env) (c := ref02PartsClass.body) (envOk (G := globs) (lc := []) (lo := []) (envB_spec (by kernel_rfl)) rfl rfl trivial rfl trivial (by kernel_rfl) (by kernel_rfl)) Try.func50 (by kernel_rfl) ref02PartsClass.lp (l := []) (by kernel_rfl) (fun n => trivial) ref02PartsClass.eq
noncomputable def ref02PartsSize (fu : Nat) (p : S2) : Option (Int × Unit) :=
  let t1 := IntKind.u64.wrap (IntKind.u64.wrap p.2.1 * (4503599627370496 : Int))
  let t2 := IntKind.u64.wrap (t1 + p.2.2.1)
  some (t2, ())

noncomputable def ref02PartsSize.body : Code := Try.f52.body.getD .skip
noncomputable def ref02PartsSize.con : Con := { ps := [kS2], rs := [(.int .u64)], f := fun n x => ref02PartsSize n x.1 }
noncomputable def ref02PartsSize.env : Env := { tys := [(29, ⟨kS2, 24⟩), (22, ⟨(.int .u64), 8⟩), (3, ⟨(.int .i64), 8⟩)], elems := [], ptrs := [], cons := [], objs := [], loops := [], cuts := [], globs := globs, base := 0 }
noncomputable def ref02PartsSize.lp (n : Nat) : LP (Kd.struct ref02PartsSize.con.rs).T := fun lo κ body nm K s =>
  loops n (Kd.struct ref02PartsSize.con.rs).T lo κ body nm K s
theorem ref02PartsSize.eq (n : Nat) (x : (Kd.struct ref02PartsSize.con.ps).T) : evFunc ref02PartsSize.env Try.f52 ref02PartsSize.body ref02PartsSize.con.ps ref02PartsSize.con.rs (ref02PartsSize.lp n) n x = ref02PartsSize.con.f n x := by kernel_rfl
theorem ref02PartsSize.sound : Sound Try.prog globs 52 ref02PartsSize.con :=
  sound_by (E := ref02PartsSize.env) (c := ref02PartsSize.body) (envOk (G := globs) (lc := []) (lo := []) (envB_spec (by kernel_rfl)) rfl rfl trivial rfl trivial (by kernel_rfl) (by kernel_rfl)) Try.func52 (by kernel_rfl) ref02PartsSize.lp (l := []) (by kernel_rfl) (fun n => trivial) ref02PartsSize.eq
noncomputable def ref02Order.j13002 (fu : Nat) (k0 : S2 → S2 → Option (Int × Unit)) (k1 : Int → Option (Int × Unit)) (v : Bool) (b0 : S2) (b1 : S2) : Option (Int × Unit) :=
  cond v (
    (ref02PartsNaN fu b0).bind fun r1 =>
    cond r1.1 (
      (ref02PartsNaN fu b1).bind fun r2 =>
      cond r2.1 (
        k1 (0 : Int)) (
        (ref02PartsNaN fu b0).bind fun r3 =>
        cond r3.1 (
          k1 (1 : Int)) (
          k1 (-1 : Int)))) (
      (ref02PartsNaN fu b0).bind fun r4 =>
      cond r4.1 (
        k1 (1 : Int)) (
        k1 (-1 : Int)))) (
    k0 b0 b1)
noncomputable def ref02Order.j16 (fu : Nat) (k1 : Int → Option (Int × Unit)) (xv : Int) (yv : Int) : Option (Int × Unit) :=
  cond (decide (xv < yv)) (
    k1 (-1 : Int)) (
    cond (decide (xv > yv)) (
      k1 (1 : Int)) (
      k1 (0 : Int)))
noncomputable def ref02Order.j7 (fu : Nat) (k1 : Int → Option (Int × Unit)) (b0 : S2) (b1 : S2) : Option (Int × Unit) :=
  cond (!(b0.1 == b1.1)) (
    cond b0.1 (
      k1 (-1 : Int)) (
      k1 (1 : Int))) (
    (ref02PartsSize fu b0).bind fun r1 =>
    (ref02PartsSize fu b1).bind fun r2 =>
    cond b0.1 (
      (ref02PartsSize fu b1).bind fun r3 =>
      (ref02PartsSize fu b0).bind fun r4 =>
      ref02Order.j16 fu (fun vq7 => 
          k1 vq7) r3.1 r4.1) (
      ref02Order.j16 fu (fun vq8 => 
          k1 vq8) r1.1 r2.1))
noncomputable def ref02Order (fu : Nat) (a : S2) (b : S2) : Option (Int × Unit) :=
  (ref02PartsNaN fu a).bind fun r1 =>
  cond r1.1 (
    ref02Order.j13002 fu (fun b0q1 b1q1 => 
        ref02Order.j7 fu (fun vq2 => 
            some (vq2, ())) b0q1 b1q1) (fun vq3 => 
        some (vq3, ())) true a b) (
    (ref02PartsNaN fu b).bind fun r2 =>
    ref02Order.j13002 fu (fun b0q4 b1q4 => 
        ref02Order.j7 fu (fun vq5 => 
            some (vq5, ())) b0q4 b1q4) (fun vq6 => 
        some (vq6, ())) r2.1 a b)

noncomputable def ref02Order.body : Code := Try.f21.body.getD .skip
abbrev ref02Order.shj13002 : Shp := ⟨[.u, .u, .p 0 0, .p 1 0, .u, .u, .u, .u, .u, .u, .u, .u, .d .bool, .u, .u, .u, .u, .u, .u, .u, .u, .u, .u, .u, .u, .u, .u, .u, .u, .u, .u, .u, .u, .u, .u, .u, .u, .u, .u, .u, .u, .u, .u, .u], [.c [.g kS2], .c [.g kS2]]⟩
abbrev ref02Order.outj13002e0 : Shp := ⟨[.u, .u, .p 0 0, .p 1 0, .u, .u, .u, .u, .u, .u, .u, .u, .u, .u, .u, .u, .u, .u, .u, .u, .u, .u, .u, .u, .u, .u, .u, .u, .u, .u, .u, .u, .u, .u, .u, .u, .u, .u, .u, .u, .u, .u, .u, .u], [.c [.g kS2], .c [.g kS2]]⟩
abbrev ref02Order.outj13002e1 : Shp := ⟨[.u, .u, .u, .u, .d (.int .i64), .u, .u, .u, .u, .u, .u, .u, .u, .u, .u, .u, .u, .u, .u, .u, .u, .u, .u, .u, .u, .u, .u, .u, .u, .u, .u, .u, .u, .u, .u, .u, .u, .u, .u, .u, .u, .u, .u, .u], []⟩
noncomputable def ref02Order.nmj13002 : Norm := ⟨{ keep := [2, 3, 12], shut := [(12, .bool)], retag := [], heap := 2, dead := [], cshut := [(0, 0, .bool), (0, 1, (.int .i64)), (0, 2, (.int .u64)), (1, 0, .bool), (1, 1, (.int .i64)), (1, 2, (.int .u64))], cretag := [] }, [(0, { keep := [2, 3], shut := [], retag := [], heap := 2, dead := [], cshut := [(0, 0, .bool), (0, 1, (.int .i64)), (0, 2, (.int .u64)), (1, 0, .bool), (1, 1, (.int .i64)), (1, 2, (.int .u64))], cretag := [] }), (1, { keep := [4], shut := [(4, (.int .i64))], retag := [], heap := 0, dead := [], cshut := [], cretag := [] })]⟩
abbrev ref02Order.shj16 : Shp := ⟨[.u, .u, .u, .u, .u, .d (.int .u64), .d (.int .u64), .u, .u, .u, .u, .u, .u, .u, .u, .u, .u, .u, .u, .u, .u, .u, .u, .u, .u, .u, .u, .u, .u, .u, .u, .u, .u, .u, .u, .u, .u, .u, .u, .u, .u, .u, .u, .u], []⟩
abbrev ref02Order.outj16e1 : Shp := ⟨[.u, .u, .u, .u, .d (.int .i64), .u, .u, .u, .u, .u, .u, .u, .u, .u, .u, .u, .u, .u, .u, .u, .u, .u, .u, .u, .u, .u, .u, .u, .u, .u, .u, .u, .u, .u, .u, .u, .u, .u, .u, .u, .u, .u, .u, .u], []⟩
noncomputable def ref02Order.nmj16 : Norm := ⟨{ keep := [5, 6], shut := [(5, (.int .u64)), (6, (.int .u64))], retag := [], heap := 0, dead := [], cshut := [], cretag := [] }, [(1, { keep := [4], shut := [(4, (.int .i64))], retag := [], heap := 0, dead := [], cshut := [], cretag := [] })]⟩
abbrev ref02Order.shj7 : Shp := ⟨[.u, .u, .p 0 0, .p 1 0, .u, .u, .u, .u, .u, .u, .u, .u, .u, .u, .u, .u, .u, .u, .u, .u, .u, .u, .u, .u, .u, .u, .u, .u, .u, .u, .u, .u, .u, .u, .u, .u, .u, .u, .u, .u, .u, .u, .u, .u], [.c [.g kS2], .c [.g kS2]]⟩
abbrev ref02Order.outj7e1 : Shp := ⟨[.u, .u, .u, .u, .d (.int .i64), .u, .u, .u, .u, .u, .u, .u, .u, .u, .u, .u, .u, .u, .u, .u, .u, .u, .u, .u, .u, .u, .u, .u, .u, .u, .u, .u, .u, .u, .u, .u, .u, .u, .u, .u, .u, .u, .u, .u], []⟩
noncomputable def ref02Order.nmj7 : Norm := ⟨{ keep := [2, 3], shut := [], retag := [], heap := 2, dead := [], cshut := [(0, 0, .bool), (0, 1, (.int .i64)), (0, 2, (.int .u64)), (1, 0, .bool), (1, 1, (.int .i64)), (1, 2, (.int .u64))], cretag := [] }, [(1, { keep := [4], shut := [(4, (.int .i64))], retag := [], heap := 0, dead := [], cshut := [], cretag := [] })]⟩
noncomputable def ref02Order.con : Con := { ps := [kS2, kS2], rs := [(.int .i64)], f := fun n x => ref02Order n x.1 x.2.1 }
noncomputable def ref02Order.env : Env := { tys := [(29, ⟨kS2, 24⟩), (3, ⟨(.int .i64), 8⟩), (4, ⟨.bool, 1⟩)], elems := [], ptrs := [], cons := [(48, ref02PartsNaN.con), (52, ref02PartsSize.con)], objs := [], loops := [], cuts := [(13002, ref02Order.nmj13002), (16, ref02Order.nmj16), (7, ref02Order.nmj7)], globs := globs, base := 0 }
noncomputable def ref02Order.lp (n : Nat) : LP (Kd.struct ref02Order.con.rs).T := fun lo κ body nm K s =>
  cond (!lo && Nat.beq κ 13002)
    (match ref02Order.shj13002.dec s with
    | some v => ref02Order.j13002 n (fun w0 w1 => K .normal (ref02Order.outj13002e0.enc (w0, w1, ()))) (fun w0 => K .ret (ref02Order.outj13002e1.enc (w0, ()))) v.1 v.2.1 v.2.2.1
    | none => loops n (Kd.struct ref02Order.con.rs).T lo κ body nm K s)
    (cond (!lo && Nat.beq κ 16)
    (match ref02Order.shj16.dec s with
    | some v => ref02Order.j16 n (fun w0 => K .ret (ref02Order.outj16e1.enc (w0, ()))) v.1 v.2.1
    | none => loops n (Kd.struct ref02Order.con.rs).T lo κ body nm K s)
    (cond (!lo && Nat.beq κ 7)
    (match ref02Order.shj7.dec s with
    | some v => ref02Order.j7 n (fun w0 => K .ret (ref02Order.outj7e1.enc (w0, ()))) v.1 v.2.1
    | none => loops n (Kd.struct ref02Order.con.rs).T lo κ body nm K s)
    (loops n (Kd.struct ref02Order.con.rs).T lo κ body nm K s)))
theorem ref02Order.atj13002 (n : Nat) (s : St) (K : Ex → St → Option (Kd.struct ref02Order.con.rs).T) : (ref02Order.lp n) false 13002 (evK ref02Order.env (ref02Order.lp n) n (sub [1, 0, 1] ref02Order.body)) ref02Order.nmj13002 K s = loops n (Kd.struct ref02Order.con.rs).T false 13002 (evK ref02Order.env (ref02Order.lp n) n (sub [1, 0, 1] ref02Order.body)) ref02Order.nmj13002 K s := by
  show (match ref02Order.shj13002.dec s with | some v => ref02Order.j13002 n (fun w0 w1 => K .normal (ref02Order.outj13002e0.enc (w0, w1, ()))) (fun w0 => K .ret (ref02Order.outj13002e1.enc (w0, ()))) v.1 v.2.1 v.2.2.1 | none => loops n (Kd.struct ref02Order.con.rs).T false 13002 (evK ref02Order.env (ref02Order.lp n) n (sub [1, 0, 1] ref02Order.body)) ref02Order.nmj13002 K s) = _
  cases h : ref02Order.shj13002.dec s with
  | none => rfl
  | some v =>
    rw [Shp.dec_enc h]
    kernel_rfl
theorem ref02Order.atj16 (n : Nat) (s : St) (K : Ex → St → Option (Kd.struct ref02Order.con.rs).T) : (ref02Order.lp n) false 16 (evK ref02Order.env (ref02Order.lp n) n (sub [1, 1, 1, 1, 1, 1] ref02Order.body)) ref02Order.nmj16 K s = loops n (Kd.struct ref02Order.con.rs).T false 16 (evK ref02Order.env (ref02Order.lp n) n (sub [1, 1, 1, 1, 1, 1] ref02Order.body)) ref02Order.nmj16 K s := by
  show (match ref02Order.shj16.dec s with | some v => ref02Order.j16 n (fun w0 => K .ret (ref02Order.outj16e1.enc (w0, ()))) v.1 v.2.1 | none => loops n (Kd.struct ref02Order.con.rs).T false 16 (evK ref02Order.env (ref02Order.lp n) n (sub [1, 1, 1, 1, 1, 1] ref02Order.body)) ref02Order.nmj16 K s) = _
  cases h : ref02Order.shj16.dec s with
  | none => rfl
  | some v =>
    rw [Shp.dec_enc h]
    kernel_rfl
theorem ref02Order.atj7 (n : Nat) (s : St) (K : Ex → St → Option (Kd.struct ref02Order.con.rs).T) : (ref02Order.lp n) false 7 (evK ref02Order.env (ref02Order.lp n) n (sub [1, 1] ref02Order.body)) ref02Order.nmj7 K s = loops n (Kd.struct ref02Order.con.rs).T false 7 (evK ref02Order.env (ref02Order.lp n) n (sub [1, 1] ref02Order.body)) ref02Order.nmj7 K s := by
  show (match ref02Order.shj7.dec s with | some v => ref02Order.j7 n (fun w0 => K .ret (ref02Order.outj7e1.enc (w0, ()))) v.1 v.2.1 | none => loops n (Kd.struct ref02Order.con.rs).T false 7 (evK ref02Order.env (ref02Order.lp n) n (sub [1, 1] ref02Order.body)) ref02Order.nmj7 K s) = _
  cases h : ref02Order.shj7.dec s with
  | none => rfl
  | some v =>
    rw [Shp.dec_enc h]
    kernel_rfl
theorem ref02Order.eq (n : Nat) (x : (Kd.struct ref02Order.con.ps).T) : evFunc ref02Order.env Try.f21 ref02Order.body ref02Order.con.ps ref02Order.con.rs (ref02Order.lp n) n x = ref02Order.con.f n x := by kernel_rfl
theorem ref02Order.sound : Sound Try.prog globs 21 ref02Order.con :=
  sound_by (E := ref02Order.env) (c := ref02Order.body) (envOk (G := globs) (lc := [(48, ref02PartsNaN.con), (52, ref02PartsSize.con)]) (lo := []) (envB_spec (by kernel_rfl)) rfl rfl ⟨.inl ⟨ref02PartsNaN.sound, by kernel_rfl⟩, ⟨.inl ⟨ref02PartsSize.sound, by kernel_rfl⟩, trivial⟩⟩ rfl trivial (by kernel_rfl) (by kernel_rfl)) Try.func21 (by kernel_rfl) ref02Order.lp (l := [(false, sub [1, 0, 1] ref02Order.body, ref02Order.nmj13002), (false, sub [1, 1, 1, 1, 1, 1] ref02Order.body, ref02Order.nmj16), (false, sub [1, 1] ref02Order.body, ref02Order.nmj7)]) (by kernel_rfl) (fun n => ⟨ref02Order.atj13002 n, ⟨ref02Order.atj16 n, ⟨ref02Order.atj7 n, trivial⟩⟩⟩) ref02Order.eq
noncomputable def ref02Compare (fu : Nat) (a : S2) (b : S2) : Option (Int × Bool × Unit) :=
  (ref02PartsNaN fu a).bind fun r1 =>
  cond r1.1 (
    some ((0 : Int), false, ())) (
    (ref02PartsNaN fu b).bind fun r2 =>
    cond r2.1 (
      some ((0 : Int), false, ())) (
      (ref02PartsClass fu a).bind fun r3 =>
      cond (r3.1 == (0 : Int)) (
        (ref02PartsClass fu b).bind fun r4 =>
        cond (r4.1 == (0 : Int)) (
          some ((0 : Int), true, ())) (
          (ref02Order fu a b).bind fun r5 =>
          some (r5.1, true, ()))) (
        (ref02Order fu a b).bind fun r6 =>
        some (r6.1, true, ()))))

noncomputable def ref02Compare.body : Code := Try.f19.body.getD .skip
noncomputable def ref02Compare.con : Con := { ps := [kS2, kS2], rs := [(.int .i64), .bool], f := fun n x => ref02Compare n x.1 x.2.1 }
noncomputable def ref02Compare.env : Env := { tys := [(29, ⟨kS2, 24⟩), (3, ⟨(.int .i64), 8⟩), (4, ⟨.bool, 1⟩)], elems := [], ptrs := [], cons := [(48, ref02PartsNaN.con), (50, ref02PartsClass.con), (21, ref02Order.con)], objs := [], loops := [], cuts := [], globs := globs, base := 0 }
noncomputable def ref02Compare.lp (n : Nat) : LP (Kd.struct ref02Compare.con.rs).T := fun lo κ body nm K s =>
  loops n (Kd.struct ref02Compare.con.rs).T lo κ body nm K s
theorem ref02Compare.eq (n : Nat) (x : (Kd.struct ref02Compare.con.ps).T) : evFunc ref02Compare.env Try.f19 ref02Compare.body ref02Compare.con.ps ref02Compare.con.rs (ref02Compare.lp n) n x = ref02Compare.con.f n x := by kernel_rfl
theorem ref02Compare.sound : Sound Try.prog globs 19 ref02Compare.con :=
  sound_by (E := ref02Compare.env) (c := ref02Compare.body) (envOk (G := globs) (lc := [(48, ref02PartsNaN.con), (50, ref02PartsClass.con), (21, ref02Order.con)]) (lo := []) (envB_spec (by kernel_rfl)) rfl rfl ⟨.inl ⟨ref02PartsNaN.sound, by kernel_rfl⟩, ⟨.inl ⟨ref02PartsClass.sound, by kernel_rfl⟩, ⟨.inl ⟨ref02Order.sound, by kernel_rfl⟩, trivial⟩⟩⟩ rfl trivial (by kernel_rfl) (by kernel_rfl)) Try.func19 (by kernel_rfl) ref02Compare.lp (l := []) (by kernel_rfl) (fun n => trivial) ref02Compare.eq
noncomputable def ref02PartsValue (fu : Nat) (p : S2) : Option (Int × Int × Unit) :=
  cond (p.2.1 == (0 : Int)) (
    some (p.2.2.1, (-1074 : Int), ())) (
    let t1 := IntKind.u64.wrap (p.2.2.1 + (4503599627370496 : Int))
    let t2 := IntKind.i64.wrap (p.2.1 - (1075 : Int))
    some (t1, t2, ()))

noncomputable def ref02PartsValue.body : Code := Try.f75.body.getD .skip
noncomputable def ref02PartsValue.con : Con := { ps := [kS2], rs := [(.int .u64), (.int .i64)], f := fun n x => ref02PartsValue n x.1 }
noncomputable def ref02PartsValue.env : Env := { tys := [(29, ⟨kS2, 24⟩), (22, ⟨(.int .u64), 8⟩), (3, ⟨(.int .i64), 8⟩)], elems := [], ptrs := [], cons := [], objs := [], loops := [], cuts := [], globs := globs, base := 0 }
noncomputable def ref02PartsValue.lp (n : Nat) : LP (Kd.struct ref02PartsValue.con.rs).T := fun lo κ body nm K s =>
  loops n (Kd.struct ref02PartsValue.con.rs).T lo κ body nm K s
theorem ref02PartsValue.eq (n : Nat) (x : (Kd.struct ref02PartsValue.con.ps).T) : evFunc ref02PartsValue.env Try.f75 ref02PartsValue.body ref02PartsValue.con.ps ref02PartsValue.con.rs (ref02PartsValue.lp n) n x = ref02PartsValue.con.f n x := by kernel_rfl
theorem ref02PartsValue.sound : Sound Try.prog globs 75 ref02PartsValue.con :=
  sound_by (E := ref02PartsValue.env) (c := ref02PartsValue.body) (envOk (G := globs) (lc := []) (lo := []) (envB_spec (by kernel_rfl)) rfl rfl trivial rfl trivial (by kernel_rfl) (by kernel_rfl)) Try.func75 (by kernel_rfl) ref02PartsValue.lp (l := []) (by kernel_rfl) (fun n => trivial) ref02PartsValue.eq
noncomputable def ref02PartsFloor.b10 (fu : Nat) (next : Int → Int → Int → Bool → S2 → Option (Int × Bool × Int × Unit)) (k2 : Int → Int → Int → Bool → S2 → Option (Int × Bool × Int × Unit)) (side : Int) (mv : Int) (ev : Int) (exact : Bool) (b0 : S2) : Option (Int × Bool × Int × Unit) :=
  cond (decide (ev < (0 : Int))) (
    let t1 := Int.tmod mv (2 : Int) == (1 : Int)
    cond t1 (
      let t2 := IntKind.u64.wrap (Int.tdiv mv (2 : Int))
      let t3 := IntKind.i64.wrap (ev + (1 : Int))
      next side t2 t3 false b0) (
      let t4 := IntKind.u64.wrap (Int.tdiv mv (2 : Int))
      let t5 := IntKind.i64.wrap (ev + (1 : Int))
      next side t4 t5 exact b0)) (
    k2 side mv ev exact b0)
noncomputable def ref02PartsFloor.l10 (fu : Nat) (k2 : Int → Int → Int → Bool → S2 → Option (Int × Bool × Int × Unit)) : Nat → Int → Int → Int → Bool → S2 → Option (Int × Bool × Int × Unit)
  | 0, _, _, _, _, _ => none
  | m + 1, side, mv, ev, exact, b0 => ref02PartsFloor.b10 fu (ref02PartsFloor.l10 fu k2 m) k2 side mv ev exact b0
noncomputable def ref02PartsFloor.b15 (fu : Nat) (next : Int → Int → Int → Bool → S2 → Option (Int × Bool × Int × Unit)) (k1 : Int → Bool → Int → Option (Int × Bool × Int × Unit)) (k4 : Int → Bool → S2 → Option (Int × Bool × Int × Unit)) (side : Int) (mv : Int) (ev : Int) (exact : Bool) (b0 : S2) : Option (Int × Bool × Int × Unit) :=
  cond (decide (ev > (0 : Int))) (
    let t1 := decide (mv ≥ (9223372036854775808 : Int))
    cond t1 (
      k1 (0 : Int) false side) (
      let t2 := IntKind.u64.wrap (mv * (2 : Int))
      let t3 := IntKind.i64.wrap (ev - (1 : Int))
      next side t2 t3 exact b0)) (
    k4 mv exact b0)
noncomputable def ref02PartsFloor.l15 (fu : Nat) (k1 : Int → Bool → Int → Option (Int × Bool × Int × Unit)) (k4 : Int → Bool → S2 → Option (Int × Bool × Int × Unit)) : Nat → Int → Int → Int → Bool → S2 → Option (Int × Bool × Int × Unit)
  | 0, _, _, _, _, _ => none
  | m + 1, side, mv, ev, exact, b0 => ref02PartsFloor.b15 fu (ref02PartsFloor.l15 fu k1 k4 m) k1 k4 side mv ev exact b0
noncomputable def ref02PartsFloor.j26 (fu : Nat) (k1 : Int → Bool → Int → Option (Int × Bool × Int × Unit)) (mv : Int) (exact : Bool) : Option (Int × Bool × Int × Unit) :=
  let t1 := decide (mv > (9223372036854775808 : Int))
  cond t1 (
    k1 (0 : Int) false (-1 : Int)) (
    let t2 := IntKind.u64.wrap (0 - mv)
    k1 (IntKind.i64.wrap t2) exact (0 : Int))
noncomputable def ref02PartsFloor.j4 (fu : Nat) (k1 : Int → Bool → Int → Option (Int × Bool × Int × Unit)) (side : Int) (b0 : S2) : Option (Int × Bool × Int × Unit) :=
  cond (b0.2.1 == (2047 : Int)) (
    k1 (0 : Int) false side) (
    (ref02PartsValue fu b0).bind fun r1 =>
    cond (r1.1 == (0 : Int)) (
      k1 (0 : Int) true (0 : Int)) (
      ref02PartsFloor.l10 fu (fun sideq4 mvq4 evq4 exactq4 b0q4 => 
          ref02PartsFloor.l15 fu (fun vq7 vq7x2 vq7x3 => 
              k1 vq7 vq7x2 vq7x3) (fun mvq8 exactq8 b0q8 => 
              cond (!b0q8.1) (
                let t2 := decide (mvq8 ≥ (9223372036854775808 : Int))
                cond t2 (
                  k1 (0 : Int) false (1 : Int)) (
                  k1 (IntKind.i64.wrap mvq8) exactq8 (0 : Int))) (
                cond (!exactq8) (
                  let t3 := IntKind.u64.wrap (mvq8 + (1 : Int))
                  ref02PartsFloor.j26 fu (fun vq9 vq9x2 vq9x3 => 
                      k1 vq9 vq9x2 vq9x3) t3 exactq8) (
                  ref02PartsFloor.j26 fu (fun vq10 vq10x2 vq10x3 => 
                      k1 vq10 vq10x2 vq10x3) mvq8 exactq8))) fu sideq4 mvq4 evq4 exactq4 b0q4) fu side r1.1 r1.2.1 true b0))
noncomputable def ref02PartsFloor (fu : Nat) (p : S2) : Option (Int × Bool × Int × Unit) :=
  cond p.1 (
    ref02PartsFloor.j4 fu (fun vq1 vq1x2 vq1x3 => 
        some (vq1, vq1x2, vq1x3, ())) (-1 : Int) p) (
    ref02PartsFloor.j4 fu (fun vq2 vq2x2 vq2x3 => 
        some (vq2, vq2x2, vq2x3, ())) (1 : Int) p)

noncomputable def ref02PartsFloor.body : Code := Try.f49.body.getD .skip
abbrev ref02PartsFloor.shl10 : Shp := ⟨[.u, .p 0 0, .u, .u, .u, .d (.int .i64), .d (.int .u64), .d (.int .i64), .d .bool, .u, .u, .u, .u, .u, .u, .u, .u, .u, .u, .u, .u, .u, .u, .u, .u, .u, .u, .u, .u, .u, .u, .u, .u, .u, .u, .u, .u, .u, .u, .u, .u, .u, .u, .u, .u, .u, .u, .u, .u, .u, .u, .u, .u, .u, .u, .u, .u, .u], [.c [.g kS2]]⟩
abbrev ref02PartsFloor.outl10e2 : Shp := ⟨[.u, .p 0 0, .u, .u, .u, .d (.int .i64), .d (.int .u64), .d (.int .i64), .d .bool, .u, .u, .u, .u, .u, .u, .u, .u, .u, .u, .u, .u, .u, .u, .u, .u, .u, .u, .u, .u, .u, .u, .u, .u, .u, .u, .u, .u, .u, .u, .u, .u, .u, .u, .u, .u, .u, .u, .u, .u, .u, .u, .u, .u, .u, .u, .u, .u, .u], [.c [.g kS2]]⟩
noncomputable def ref02PartsFloor.nml10 : Norm := ⟨{ keep := [1, 5, 6, 7, 8], shut := [(5, (.int .i64)), (6, (.int .u64)), (7, (.int .i64)), (8, .bool)], retag := [], heap := 1, dead := [], cshut := [(0, 0, .bool), (0, 1, (.int .i64)), (0, 2, (.int .u64))], cretag := [] }, [(2, { keep := [1, 5, 6, 7, 8], shut := [(5, (.int .i64)), (6, (.int .u64)), (7, (.int .i64)), (8, .bool)], retag := [], heap := 1, dead := [], cshut := [(0, 0, .bool), (0, 1, (.int .i64)), (0, 2, (.int .u64))], cretag := [] })]⟩
abbrev ref02PartsFloor.shl15 : Shp := ⟨[.u, .p 0 0, .u, .u, .u, .d (.int .i64), .d (.int .u64), .d (.int .i64), .d .bool, .u, .u, .u, .u, .u, .u, .u, .u, .u, .u, .u, .u, .u, .u, .u, .u, .u, .u, .u, .u, .u, .u, .u, .u, .u, .u, .u, .u, .u, .u, .u, .u, .u, .u, .u, .u, .u, .u, .u, .u, .u, .u, .u, .u, .u, .u, .u, .u, .u], [.c [.g kS2]]⟩
abbrev ref02PartsFloor.outl15e1 : Shp := ⟨[.u, .u, .d (.int .i64), .d .bool, .d (.int .i64), .u, .u, .u, .u, .u, .u, .u, .u, .u, .u, .u, .u, .u, .u, .u, .u, .u, .u, .u, .u, .u, .u, .u, .u, .u, .u, .u, .u, .u, .u, .u, .u, .u, .u, .u, .u, .u, .u, .u, .u, .u, .u, .u, .u, .u, .u, .u, .u, .u, .u, .u, .u, .u], []⟩
abbrev ref02PartsFloor.outl15e4 : Shp := ⟨[.u, .p 0 0, .u, .u, .u, .u, .d (.int .u64), .u, .d .bool, .u, .u, .u, .u, .u, .u, .u, .u, .u, .u, .u, .u, .u, .u, .u, .u, .u, .u, .u, .u, .u, .u, .u, .u, .u, .u, .u, .u, .u, .u, .u, .u, .u, .u, .u, .u, .u, .u, .u, .u, .u, .u, .u, .u, .u, .u, .u, .u, .u], [.c [.g kS2]]⟩
noncomputable def ref02PartsFloor.nml15 : Norm := ⟨{ keep := [1, 5, 6, 7, 8], shut := [(5, (.int .i64)), (6, (.int .u64)), (7, (.int .i64)), (8, .bool)], retag := [], heap := 1, dead := [], cshut := [(0, 0, .bool), (0, 1, (.int .i64)), (0, 2, (.int .u64))], cretag := [] }, [(1, { keep := [2, 3, 4], shut := [(2, (.int .i64)), (3, .bool), (4, (.int .i64))], retag := [], heap := 0, dead := [], cshut := [], cretag := [] }), (4, { keep := [1, 6, 8], shut := [(6, (.int .u64)), (8, .bool)], retag := [], heap := 1, dead := [], cshut := [(0, 0, .bool), (0, 1, (.int .i64)), (0, 2, (.int .u64))], cretag := [] })]⟩
abbrev ref02PartsFloor.shj26 : Shp := ⟨[.u, .u, .u, .u, .u, .u, .d (.int .u64), .u, .d .bool, .u, .u, .u, .u, .u, .u, .u, .u, .u, .u, .u, .u, .u, .u, .u, .u, .u, .u, .u, .u, .u, .u, .u, .u, .u, .u, .u, .u, .u, .u, .u, .u, .u, .u, .u, .u, .u, .u, .u, .u, .u, .u, .u, .u, .u, .u, .u, .u, .u], []⟩
abbrev ref02PartsFloor.outj26e1 : Shp := ⟨[.u, .u, .d (.int .i64), .d .bool, .d (.int .i64), .u, .u, .u, .u, .u, .u, .u, .u, .u, .u, .u, .u, .u, .u, .u, .u, .u, .u, .u, .u, .u, .u, .u, .u, .u, .u, .u, .u, .u, .u, .u, .u, .u, .u, .u, .u, .u, .u, .u, .u, .u, .u, .u, .u, .u, .u, .u, .u, .u, .u, .u, .u, .u], []⟩
noncomputable def ref02PartsFloor.nmj26 : Norm := ⟨{ keep := [6, 8], shut := [(6, (.int .u64)), (8, .bool)], retag := [], heap := 0, dead := [], cshut := [], cretag := [] }, [(1, { keep := [2, 3, 4], shut := [(2, (.int .i64)), (3, .bool), (4, (.int .i64))], retag := [], heap := 0, dead := [], cshut := [], cretag := [] })]⟩
abbrev ref02PartsFloor.shj4 : Shp := ⟨[.u, .p 0 0, .u, .u, .u, .d (.int .i64), .u, .u, .u, .u, .u, .u, .u, .u, .u, .u, .u, .u, .u, .u, .u, .u, .u, .u, .u, .u, .u, .u, .u, .u, .u, .u, .u, .u, .u, .u, .u, .u, .u, .u, .u, .u, .u, .u, .u, .u, .u, .u, .u, .u, .u, .u, .u, .u, .u, .u, .u, .u], [.c [.g kS2]]⟩
abbrev ref02PartsFloor.outj4e1 : Shp := ⟨[.u, .u, .d (.int .i64), .d .bool, .d (.int .i64), .u, .u, .u, .u, .u, .u, .u, .u, .u, .u, .u, .u, .u, .u, .u, .u, .u, .u, .u, .u, .u, .u, .u, .u, .u, .u, .u, .u, .u, .u, .u, .u, .u, .u, .u, .u, .u, .u, .u, .u, .u, .u, .u, .u, .u, .u, .u, .u, .u, .u, .u, .u, .u], []⟩
noncomputable def ref02PartsFloor.nmj4 : Norm := ⟨{ keep := [1, 5], shut := [(5, (.int .i64))], retag := [], heap := 1, dead := [], cshut := [(0, 0, .bool), (0, 1, (.int .i64)), (0, 2, (.int .u64))], cretag := [] }, [(1, { keep := [2, 3, 4], shut := [(2, (.int .i64)), (3, .bool), (4, (.int .i64))], retag := [], heap := 0, dead := [], cshut := [], cretag := [] })]⟩
noncomputable def ref02PartsFloor.con : Con := { ps := [kS2], rs := [(.int .i64), .bool, (.int .i64)], f := fun n x => ref02PartsFloor n x.1 }
noncomputable def ref02PartsFloor.env : Env := { tys := [(29, ⟨kS2, 24⟩), (2, ⟨(.int .i64), 8⟩), (4, ⟨.bool, 1⟩), (3, ⟨(.int .i64), 8⟩), (22, ⟨(.int .u64), 8⟩)], elems := [], ptrs := [], cons := [(75, ref02PartsValue.con)], objs := [], loops := [(10, ref02PartsFloor.nml10), (15, ref02PartsFloor.nml15)], cuts := [(26, ref02PartsFloor.nmj26), (4, ref02PartsFloor.nmj4)], globs := globs, base := 0 }
noncomputable def ref02PartsFloor.lp (n : Nat) : LP (Kd.struct ref02PartsFloor.con.rs).T := fun lo κ body nm K s =>
  cond (lo && Nat.beq κ 10)
    (match ref02PartsFloor.shl10.dec s with
    | some v => ref02PartsFloor.l10 n (fun w0 w1 w2 w3 w4 => K (.exit 0) (ref02PartsFloor.outl10e2.enc (w0, w1, w2, w3, w4, ()))) n v.1 v.2.1 v.2.2.1 v.2.2.2.1 v.2.2.2.2.1
    | none => loops n (Kd.struct ref02PartsFloor.con.rs).T lo κ body nm K s)
    (cond (lo && Nat.beq κ 15)
    (match ref02PartsFloor.shl15.dec s with
    | some v => ref02PartsFloor.l15 n (fun w0 w1 w2 => K .ret (ref02PartsFloor.outl15e1.enc (w0, w1, w2, ()))) (fun w0 w1 w2 => K (.exit 2) (ref02PartsFloor.outl15e4.enc (w0, w1, w2, ()))) n v.1 v.2.1 v.2.2.1 v.2.2.2.1 v.2.2.2.2.1
    | none => loops n (Kd.struct ref02PartsFloor.con.rs).T lo κ body nm K s)
    (cond (!lo && Nat.beq κ 26)
    (match ref02PartsFloor.shj26.dec s with
    | some v => ref02PartsFloor.j26 n (fun w0 w1 w2 => K .ret (ref02PartsFloor.outj26e1.enc (w0, w1, w2, ()))) v.1 v.2.1
    | none => loops n (Kd.struct ref02PartsFloor.con.rs).T lo κ body nm K s)
    (cond (!lo && Nat.beq κ 4)
    (match ref02PartsFloor.shj4.dec s with
    | some v => ref02PartsFloor.j4 n (fun w0 w1 w2 => K .ret (ref02PartsFloor.outj4e1.enc (w0, w1, w2, ()))) v.1 v.2.1
    | none => loops n (Kd.struct ref02PartsFloor.con.rs).T lo κ body nm K s)
    (loops n (Kd.struct ref02PartsFloor.con.rs).T lo κ body nm K s))))
theorem ref02PartsFloor.atl10 (n : Nat) (s : St) (K : Ex → St → Option (Kd.struct ref02PartsFloor.con.rs).T) : (ref02PartsFloor.lp n) true 10 (evK ref02PartsFloor.env (ref02PartsFloor.lp n) n (sub [1, 1, 1, 1, 1, 1, 1, 0, 0, 0] ref02PartsFloor.body)) ref02PartsFloor.nml10 K s = loops n (Kd.struct ref02PartsFloor.con.rs).T true 10 (evK ref02PartsFloor.env (ref02PartsFloor.lp n) n (sub [1, 1, 1, 1, 1, 1, 1, 0, 0, 0] ref02PartsFloor.body)) ref02PartsFloor.nml10 K s := by
  show (match ref02PartsFloor.shl10.dec s with | some v => ref02PartsFloor.l10 n (fun w0 w1 w2 w3 w4 => K (.exit 0) (ref02PartsFloor.outl10e2.enc (w0, w1, w2, w3, w4, ()))) n v.1 v.2.1 v.2.2.1 v.2.2.2.1 v.2.2.2.2.1 | none => loops n (Kd.struct ref02PartsFloor.con.rs).T true 10 (evK ref02PartsFloor.env (ref02PartsFloor.lp n) n (sub [1, 1, 1, 1, 1, 1, 1, 0, 0, 0] ref02PartsFloor.body)) ref02PartsFloor.nml10 K s) = _
  cases h : ref02PartsFloor.shl10.dec s with
  | none => rfl
  | some v =>
    rw [Shp.dec_enc h]
    exact (evLoop_eq (sh := ref02PartsFloor.shl10) (body := evK ref02PartsFloor.env (ref02PartsFloor.lp n) n (sub [1, 1, 1, 1, 1, 1, 1, 0, 0, 0] ref02PartsFloor.body)) (nm := ref02PartsFloor.nml10) (K := K) (b := fun nx v => ref02PartsFloor.b10 n (fun x0 x1 x2 x3 x4 => nx (x0, x1, x2, x3, x4, ())) (fun w0 w1 w2 w3 w4 => K (.exit 0) (ref02PartsFloor.outl10e2.enc (w0, w1, w2, w3, w4, ()))) v.1 v.2.1 v.2.2.1 v.2.2.2.1 v.2.2.2.2.1) (l := fun m v => ref02PartsFloor.l10 n (fun w0 w1 w2 w3 w4 => K (.exit 0) (ref02PartsFloor.outl10e2.enc (w0, w1, w2, w3, w4, ()))) m v.1 v.2.1 v.2.2.1 v.2.2.2.1 v.2.2.2.2.1) (fun _ => rfl) (fun _ _ => rfl) (fun m v => by kernel_rfl) n v).symm
theorem ref02PartsFloor.atl15 (n : Nat) (s : St) (K : Ex → St → Option (Kd.struct ref02PartsFloor.con.rs).T) : (ref02PartsFloor.lp n) true 15 (evK ref02PartsFloor.env (ref02PartsFloor.lp n) n (sub [1, 1, 1, 1, 1, 1, 1, 1, 0, 0, 0] ref02PartsFloor.body)) ref02PartsFloor.nml15 K s = loops n (Kd.struct ref02PartsFloor.con.rs).T true 15 (evK ref02PartsFloor.env (ref02PartsFloor.lp n) n (sub [1, 1, 1, 1, 1, 1, 1, 1, 0, 0, 0] ref02PartsFloor.body)) ref02PartsFloor.nml15 K s := by
  show (match ref02PartsFloor.shl15.dec s with | some v => ref02PartsFloor.l15 n (fun w0 w1 w2 => K .ret (ref02PartsFloor.outl15e1.enc (w0, w1, w2, ()))) (fun w0 w1 w2 => K (.exit 2) (ref02PartsFloor.outl15e4.enc (w0, w1, w2, ()))) n v.1 v.2.1 v.2.2.1 v.2.2.2.1 v.2.2.2.2.1 | none => loops n (Kd.struct ref02PartsFloor.con.rs).T true 15 (evK ref02PartsFloor.env (ref02PartsFloor.lp n) n (sub [1, 1, 1, 1, 1, 1, 1, 1, 0, 0, 0] ref02PartsFloor.body)) ref02PartsFloor.nml15 K s) = _
  cases h : ref02PartsFloor.shl15.dec s with
  | none => rfl
  | some v =>
    rw [Shp.dec_enc h]
    exact (evLoop_eq (sh := ref02PartsFloor.shl15) (body := evK ref02PartsFloor.env (ref02PartsFloor.lp n) n (sub [1, 1, 1, 1, 1, 1, 1, 1, 0, 0, 0] ref02PartsFloor.body)) (nm := ref02PartsFloor.nml15) (K := K) (b := fun nx v => ref02PartsFloor.b15 n (fun x0 x1 x2 x3 x4 => nx (x0, x1, x2, x3, x4, ())) (fun w0 w1 w2 => K .ret (ref02PartsFloor.outl15e1.enc (w0, w1, w2, ()))) (fun w0 w1 w2 => K (.exit 2) (ref02PartsFloor.outl15e4.enc (w0, w1, w2, ()))) v.1 v.2.1 v.2.2.1 v.2.2.2.1 v.2.2.2.2.1) (l := fun m v => ref02PartsFloor.l15 n (fun w0 w1 w2 => K .ret (ref02PartsFloor.outl15e1.enc (w0, w1, w2, ()))) (fun w0 w1 w2 => K (.exit 2) (ref02PartsFloor.outl15e4.enc (w0, w1, w2, ()))) m v.1 v.2.1 v.2.2.1 v.2.2.2.1 v.2.2.2.2.1) (fun _ => rfl) (fun _ _ => rfl) (fun m v => by kernel_rfl) n v).symm
theorem ref02PartsFloor.atj26 (n : Nat) (s : St) (K : Ex → St → Option (Kd.struct ref02PartsFloor.con.rs).T) : (ref02PartsFloor.lp n) false 26 (evK ref02PartsFloor.env (ref02PartsFloor.lp n) n (sub [1, 1, 1, 1, 1, 1, 1, 1, 1, 1, 1] ref02PartsFloor.body)) ref02PartsFloor.nmj26 K s = loops n (Kd.struct ref02PartsFloor.con.rs).T false 26 (evK ref02PartsFloor.env (ref02PartsFloor.lp n) n (sub [1, 1, 1, 1, 1, 1, 1, 1, 1, 1, 1] ref02PartsFloor.body)) ref02PartsFloor.nmj26 K s := by
  show (match ref02PartsFloor.shj26.dec s with | some v => ref02PartsFloor.j26 n (fun w0 w1 w2 => K .ret (ref02PartsFloor.outj26e1.enc (w0, w1, w2, ()))) v.1 v.2.1 | none => loops n (Kd.struct ref02PartsFloor.con.rs).T false 26 (evK ref02PartsFloor.env (ref02PartsFloor.lp n) n (sub [1, 1, 1, 1, 1, 1, 1, 1, 1, 1, 1] ref02PartsFloor.body)) ref02PartsFloor.nmj26 K s) = _
  cases h : ref02PartsFloor.shj26.dec s with
  | none => rfl
  | some v =>
    rw [Shp.dec_enc h]
    kernel_rfl
theorem ref02PartsFloor.atj4 (n : Nat) (s : St) (K : Ex → St → Option (Kd.struct ref02PartsFloor.con.rs).T) : (ref02PartsFloor.lp n) false 4 (evK ref02PartsFloor.env (ref02PartsFloor.lp n) n (sub [1, 1, 1] ref02PartsFloor.body)) ref02PartsFloor.nmj4 K s = loops n (Kd.struct ref02PartsFloor.con.rs).T false 4 (evK ref02PartsFloor.env (ref02PartsFloor.lp n) n (sub [1, 1, 1] ref02PartsFloor.body)) ref02PartsFloor.nmj4 K s := by
  show (match ref02PartsFloor.shj4.dec s with | some v => ref02PartsFloor.j4 n (fun w0 w1 w2 => K .ret (ref02PartsFloor.outj4e1.enc (w0, w1, w2, ()))) v.1 v.2.1 | none => loops n (Kd.struct ref02PartsFloor.con.rs).T false 4 (evK ref02PartsFloor.env (ref02PartsFloor.lp n) n (sub [1, 1, 1] ref02PartsFloor.body)) ref02PartsFloor.nmj4 K s) = _
  cases h : ref02PartsFloor.shj4.dec s with
  | none => rfl
  | some v =>
    rw [Shp.dec_enc h]
    kernel_rfl
theorem ref02PartsFloor.eq (n : Nat) (x : (Kd.struct ref02PartsFloor.con.ps).T) : evFunc ref02PartsFloor.env Try.f49 ref02PartsFloor.body ref02PartsFloor.con.ps ref02PartsFloor.con.rs (ref02PartsFloor.lp n) n x = ref02PartsFloor.con.f n x := by kernel_rfl
theorem ref02PartsFloor.sound : Sound Try.prog globs 49 ref02PartsFloor.con :=
  sound_by (E := ref02PartsFloor.env) (c := ref02PartsFloor.body) (envOk (G := globs) (lc := [(75, ref02PartsValue.con)]) (lo := []) (envB_spec (by kernel_rfl)) rfl rfl ⟨.inl ⟨ref02PartsValue.sound, by kernel_rfl⟩, trivial⟩ rfl trivial (by kernel_rfl) (by kernel_rfl)) Try.func49 (by kernel_rfl) ref02PartsFloor.lp (l := [(true, sub [1, 1, 1, 1, 1, 1, 1, 0, 0, 0] ref02PartsFloor.body, ref02PartsFloor.nml10), (true, sub [1, 1, 1, 1, 1, 1, 1, 1, 0, 0, 0] ref02PartsFloor.body, ref02PartsFloor.nml15), (false, sub [1, 1, 1, 1, 1, 1, 1, 1, 1, 1, 1] ref02PartsFloor.body, ref02PartsFloor.nmj26), (false, sub [1, 1, 1] ref02PartsFloor.body, ref02PartsFloor.nmj4)]) (by kernel_rfl) (fun n => ⟨ref02PartsFloor.atl10 n, ⟨ref02PartsFloor.atl15 n, ⟨ref02PartsFloor.atj26 n, ⟨ref02PartsFloor.atj4 n, trivial⟩⟩⟩⟩) ref02PartsFloor.eq
noncomputable def ref02Against (fu : Nat) (n : Int) (p : S2) : Option (Int × Bool × Unit) :=
  (ref02PartsNaN fu p).bind fun r1 =>
  cond r1.1 (
    some ((0 : Int), false, ())) (
    (ref02PartsFloor fu p).bind fun r2 =>
    cond (r2.2.2.1 != (0 : Int)) (
      let t3 := IntKind.i64.wrap (0 - r2.2.2.1)
      some (t3, true, ())) (
      cond (decide (n < r2.1)) (
        some ((-1 : Int), true, ())) (
        cond (decide (n > r2.1)) (
          some ((1 : Int), true, ())) (
          cond (!r2.2.1) (
            some ((-1 : Int), true, ())) (
            some ((0 : Int), true, ()))))))

noncomputable def ref02Against.body : Code := Try.f15.body.getD .skip
noncomputable def ref02Against.con : Con := { ps := [(.int .i64), kS2], rs := [(.int .i64), .bool], f := fun n x => ref02Against n x.1 x.2.1 }
noncomputable def ref02Against.env : Env := { tys := [(29, ⟨kS2, 24⟩), (3, ⟨(.int .i64), 8⟩), (4, ⟨.bool, 1⟩)], elems := [], ptrs := [], cons := [(48, ref02PartsNaN.con), (49, ref02PartsFloor.con)], objs := [], loops := [], cuts := [], globs := globs, base := 0 }
noncomputable def ref02Against.lp (n : Nat) : LP (Kd.struct ref02Against.con.rs).T := fun lo κ body nm K s =>
  loops n (Kd.struct ref02Against.con.rs).T lo κ body nm K s
theorem ref02Against.eq (n : Nat) (x : (Kd.struct ref02Against.con.ps).T) : evFunc ref02Against.env Try.f15 ref02Against.body ref02Against.con.ps ref02Against.con.rs (ref02Against.lp n) n x = ref02Against.con.f n x := by kernel_rfl
theorem ref02Against.sound : Sound Try.prog globs 15 ref02Against.con :=
  sound_by (E := ref02Against.env) (c := ref02Against.body) (envOk (G := globs) (lc := [(48, ref02PartsNaN.con), (49, ref02PartsFloor.con)]) (lo := []) (envB_spec (by kernel_rfl)) rfl rfl ⟨.inl ⟨ref02PartsNaN.sound, by kernel_rfl⟩, ⟨.inl ⟨ref02PartsFloor.sound, by kernel_rfl⟩, trivial⟩⟩ rfl trivial (by kernel_rfl) (by kernel_rfl)) Try.func15 (by kernel_rfl) ref02Against.lp (l := []) (by kernel_rfl) (fun n => trivial) ref02Against.eq
noncomputable def ref04Compare.j51006 (fu : Nat) (k0 : S1 → S1 → Option (Int × Bool × Unit)) (k1 : Int → Bool → Option (Int × Bool × Unit)) (v : Bool) (b0 : S1) (b1 : S1) : Option (Int × Bool × Unit) :=
  cond v (
    (ref02Of fu b0.2.2.1).bind fun r1 =>
    (ref02Of fu b1.2.2.1).bind fun r2 =>
    (ref02Compare fu r1.1 r2.1).bind fun r3 =>
    k1 r3.1 r3.2.1) (
    k0 b0 b1)
noncomputable def ref04Compare.j7 (fu : Nat) (k1 : Int → Bool → Option (Int × Bool × Unit)) (b0 : S1) (b1 : S1) : Option (Int × Bool × Unit) :=
  cond (b1.1 == (2 : Int)) (
    (ref02Of fu b1.2.2.1).bind fun r1 =>
    (ref02Against fu b0.2.1 r1.1).bind fun r2 =>
    k1 r2.1 r2.2.1) (
    cond (b0.1 == (2 : Int)) (
      (ref02Of fu b0.2.2.1).bind fun r3 =>
      (ref02Against fu b1.2.1 r3.1).bind fun r4 =>
      let t5 := IntKind.i64.wrap (0 - r4.1)
      k1 t5 r4.2.1) (
      cond (decide (b0.2.1 < b1.2.1)) (
        k1 (-1 : Int) true) (
        cond (decide (b0.2.1 > b1.2.1)) (
          k1 (1 : Int) true) (
          k1 (0 : Int) true))))
noncomputable def ref04Compare (fu : Nat) (a : S1) (b : S1) : Option (Int × Bool × Unit) :=
  (ref04May fu a).bind fun r1 =>
  cond (!r1.1) (
    some ((0 : Int), false, ())) (
    (ref04May fu b).bind fun r2 =>
    cond (!r2.1) (
      some ((0 : Int), false, ())) (
      cond (a.1 == (0 : Int)) (
        some ((0 : Int), false, ())) (
        cond (b.1 == (0 : Int)) (
          some ((0 : Int), false, ())) (
          let t3 := !((a.1 == (3 : Int)) == (b.1 == (3 : Int)))
          cond t3 (
            some ((0 : Int), false, ())) (
            cond (a.1 == (3 : Int)) (
              (ref04Texts fu a.2.2.2.1 b.2.2.2.1).bind fun r4 =>
              some (r4.1, true, ())) (
              cond (a.1 == (2 : Int)) (
                ref04Compare.j51006 fu (fun b0q1 b1q1 => 
                    ref04Compare.j7 fu (fun vq2 vq2x2 => 
                        some (vq2, vq2x2, ())) b0q1 b1q1) (fun vq3 vq3x2 => 
                    some (vq3, vq3x2, ())) (b.1 == (2 : Int)) a b) (
                ref04Compare.j51006 fu (fun b0q4 b1q4 => 
                    ref04Compare.j7 fu (fun vq5 vq5x2 => 
                        some (vq5, vq5x2, ())) b0q4 b1q4) (fun vq6 vq6x2 => 
                    some (vq6, vq6x2, ())) false a b)))))))

noncomputable def ref04Compare.body : Code := Try.f37.body.getD .skip
abbrev ref04Compare.shj51006 : Shp := ⟨[.u, .u, .p 0 0, .p 1 0, .u, .u, .u, .u, .u, .u, .u, .u, .u, .u, .u, .u, .u, .u, .u, .u, .u, .u, .u, .u, .u, .u, .u, .u, .u, .u, .u, .u, .u, .u, .u, .u, .u, .u, .u, .u, .u, .u, .u, .u, .u, .u, .u, .u, .u, .u, .d .bool, .u, .u, .u, .u, .u, .u, .u, .u, .u, .u, .u, .u, .u, .u, .u, .u, .u, .u, .u, .u, .u, .u, .u, .u, .u, .u, .u, .u, .u, .u, .u, .u, .u, .u, .u, .u, .u, .u, .u, .u, .u, .u, .u, .u, .u], [.c [.g kS1], .c [.g kS1]]⟩
abbrev ref04Compare.outj51006e0 : Shp := ⟨[.u, .u, .p 0 0, .p 1 0, .u, .u, .u, .u, .u, .u, .u, .u, .u, .u, .u, .u, .u, .u, .u, .u, .u, .u, .u, .u, .u, .u, .u, .u, .u, .u, .u, .u, .u, .u, .u, .u, .u, .u, .u, .u, .u, .u, .u, .u, .u, .u, .u, .u, .u, .u, .u, .u, .u, .u, .u, .u, .u, .u, .u, .u, .u, .u, .u, .u, .u, .u, .u, .u, .u, .u, .u, .u, .u, .u, .u, .u, .u, .u, .u, .u, .u, .u, .u, .u, .u, .u, .u, .u, .u, .u, .u, .u, .u, .u, .u, .u], [.c [.g kS1], .c [.g kS1]]⟩
abbrev ref04Compare.outj51006e1 : Shp := ⟨[.u, .u, .u, .u, .d (.int .i64), .d .bool, .u, .u, .u, .u, .u, .u, .u, .u, .u, .u, .u, .u, .u, .u, .u, .u, .u, .u, .u, .u, .u, .u, .u, .u, .u, .u, .u, .u, .u, .u, .u, .u, .u, .u, .u, .u, .u, .u, .u, .u, .u, .u, .u, .u, .u, .u, .u, .u, .u, .u, .u, .u, .u, .u, .u, .u, .u, .u, .u, .u, .u, .u, .u, .u, .u, .u, .u, .u, .u, .u, .u, .u, .u, .u, .u, .u, .u, .u, .u, .u, .u, .u, .u, .u, .u, .u, .u, .u, .u, .u], []⟩
noncomputable def ref04Compare.nmj51006 : Norm := ⟨{ keep := [2, 3, 50], shut := [(50, .bool)], retag := [], heap := 2, dead := [], cshut := [(0, 0, (.int .u8)), (0, 1, (.int .i64)), (0, 2, .flt), (0, 3, .str), (1, 0, (.int .u8)), (1, 1, (.int .i64)), (1, 2, .flt), (1, 3, .str)], cretag := [] }, [(0, { keep := [2, 3], shut := [], retag := [], heap := 2, dead := [], cshut := [(0, 0, (.int .u8)), (0, 1, (.int .i64)), (0, 2, .flt), (0, 3, .str), (1, 0, (.int .u8)), (1, 1, (.int .i64)), (1, 2, .flt), (1, 3, .str)], cretag := [] }), (1, { keep := [4, 5], shut := [(4, (.int .i64)), (5, .bool)], retag := [], heap := 0, dead := [], cshut := [], cretag := [] })]⟩
abbrev ref04Compare.shj7 : Shp := ⟨[.u, .u, .p 0 0, .p 1 0, .u, .u, .u, .u, .u, .u, .u, .u, .u, .u, .u, .u, .u, .u, .u, .u, .u, .u, .u, .u, .u, .u, .u, .u, .u, .u, .u, .u, .u, .u, .u, .u, .u, .u, .u, .u, .u, .u, .u, .u, .u, .u, .u, .u, .u, .u, .u, .u, .u, .u, .u, .u, .u, .u, .u, .u, .u, .u, .u, .u, .u, .u, .u, .u, .u, .u, .u, .u, .u, .u, .u, .u, .u, .u, .u, .u, .u, .u, .u, .u, .u, .u, .u, .u, .u, .u, .u, .u, .u, .u, .u, .u], [.c [.g kS1], .c [.g kS1]]⟩
abbrev ref04Compare.outj7e1 : Shp := ⟨[.u, .u, .u, .u, .d (.int .i64), .d .bool, .u, .u, .u, .u, .u, .u, .u, .u, .u, .u, .u, .u, .u, .u, .u, .u, .u, .u, .u, .u, .u, .u, .u, .u, .u, .u, .u, .u, .u, .u, .u, .u, .u, .u, .u, .u, .u, .u, .u, .u, .u, .u, .u, .u, .u, .u, .u, .u, .u, .u, .u, .u, .u, .u, .u, .u, .u, .u, .u, .u, .u, .u, .u, .u, .u, .u, .u, .u, .u, .u, .u, .u, .u, .u, .u, .u, .u, .u, .u, .u, .u, .u, .u, .u, .u, .u, .u, .u, .u, .u], []⟩
noncomputable def ref04Compare.nmj7 : Norm := ⟨{ keep := [2, 3], shut := [], retag := [], heap := 2, dead := [], cshut := [(0, 0, (.int .u8)), (0, 1, (.int .i64)), (0, 2, .flt), (0, 3, .str), (1, 0, (.int .u8)), (1, 1, (.int .i64)), (1, 2, .flt), (1, 3, .str)], cretag := [] }, [(1, { keep := [4, 5], shut := [(4, (.int .i64)), (5, .bool)], retag := [], heap := 0, dead := [], cshut := [], cretag := [] })]⟩
noncomputable def ref04Compare.con : Con := { ps := [kS1, kS1], rs := [(.int .i64), .bool], f := fun n x => ref04Compare n x.1 x.2.1 }
noncomputable def ref04Compare.env : Env := { tys := [(58, ⟨kS1, 40⟩), (3, ⟨(.int .i64), 8⟩), (4, ⟨.bool, 1⟩), (5, ⟨(.int .u8), 1⟩), (9, ⟨.str, 16⟩), (25, ⟨.flt, 8⟩), (2, ⟨(.int .i64), 8⟩)], elems := [], ptrs := [], cons := [(39, ref04May.con), (57, ref04Texts.con), (58, ref02Of.con), (19, ref02Compare.con), (15, ref02Against.con)], objs := [], loops := [], cuts := [(51006, ref04Compare.nmj51006), (7, ref04Compare.nmj7)], globs := globs, base := 0 }
noncomputable def ref04Compare.lp (n : Nat) : LP (Kd.struct ref04Compare.con.rs).T := fun lo κ body nm K s =>
  cond (!lo && Nat.beq κ 51006)
    (match ref04Compare.shj51006.dec s with
    | some v => ref04Compare.j51006 n (fun w0 w1 => K .normal (ref04Compare.outj51006e0.enc (w0, w1, ()))) (fun w0 w1 => K .ret (ref04Compare.outj51006e1.enc (w0, w1, ()))) v.1 v.2.1 v.2.2.1
    | none => loops n (Kd.struct ref04Compare.con.rs).T lo κ body nm K s)
    (cond (!lo && Nat.beq κ 7)
    (match ref04Compare.shj7.dec s with
    | some v => ref04Compare.j7 n (fun w0 w1 => K .ret (ref04Compare.outj7e1.enc (w0, w1, ()))) v.1 v.2.1
    | none => loops n (Kd.struct ref04Compare.con.rs).T lo κ body nm K s)
    (loops n (Kd.struct ref04Compare.con.rs).T lo κ body nm K s))
theorem ref04Compare.atj51006 (n : Nat) (s : St) (K : Ex → St → Option (Kd.struct ref04Compare.con.rs).T) : (ref04Compare.lp n) false 51006 (evK ref04Compare.env (ref04Compare.lp n) n (sub [1, 1, 1, 0, 1] ref04Compare.body)) ref04Compare.nmj51006 K s = loops n (Kd.struct ref04Compare.con.rs).T false 51006 (evK ref04Compare.env (ref04Compare.lp n) n (sub [1, 1, 1, 0, 1] ref04Compare.body)) ref04Compare.nmj51006 K s := by
  show (match ref04Compare.shj51006.dec s with | some v => ref04Compare.j51006 n (fun w0 w1 => K .normal (ref04Compare.outj51006e0.enc (w0, w1, ()))) (fun w0 w1 => K .ret (ref04Compare.outj51006e1.enc (w0, w1, ()))) v.1 v.2.1 v.2.2.1 | none => loops n (Kd.struct ref04Compare.con.rs).T false 51006 (evK ref04Compare.env (ref04Compare.lp n) n (sub [1, 1, 1, 0, 1] ref04Compare.body)) ref04Compare.nmj51006 K s) = _
  cases h : ref04Compare.shj51006.dec s with
  | none => rfl
  | some v =>
    rw [Shp.dec_enc h]
    kernel_rfl
theorem ref04Compare.atj7 (n : Nat) (s : St) (K : Ex → St → Option (Kd.struct ref04Compare.con.rs).T) : (ref04Compare.lp n) false 7 (evK ref04Compare.env (ref04Compare.lp n) n (sub [1, 1, 1, 1] ref04Compare.body)) ref04Compare.nmj7 K s = loops n (Kd.struct ref04Compare.con.rs).T false 7 (evK ref04Compare.env (ref04Compare.lp n) n (sub [1, 1, 1, 1] ref04Compare.body)) ref04Compare.nmj7 K s := by
  show (match ref04Compare.shj7.dec s with | some v => ref04Compare.j7 n (fun w0 w1 => K .ret (ref04Compare.outj7e1.enc (w0, w1, ()))) v.1 v.2.1 | none => loops n (Kd.struct ref04Compare.con.rs).T false 7 (evK ref04Compare.env (ref04Compare.lp n) n (sub [1, 1, 1, 1] ref04Compare.body)) ref04Compare.nmj7 K s) = _
  cases h : ref04Compare.shj7.dec s with
  | none => rfl
  | some v =>
    rw [Shp.dec_enc h]
    kernel_rfl
theorem ref04Compare.eq (n : Nat) (x : (Kd.struct ref04Compare.con.ps).T) : evFunc ref04Compare.env Try.f37 ref04Compare.body ref04Compare.con.ps ref04Compare.con.rs (ref04Compare.lp n) n x = ref04Compare.con.f n x := by kernel_rfl
theorem ref04Compare.sound : Sound Try.prog globs 37 ref04Compare.con :=
  sound_by (E := ref04Compare.env) (c := ref04Compare.body) (envOk (G := globs) (lc := [(39, ref04May.con), (57, ref04Texts.con), (58, ref02Of.con), (19, ref02Compare.con), (15, ref02Against.con)]) (lo := []) (envB_spec (by kernel_rfl)) rfl rfl ⟨.inl ⟨ref04May.sound, by kernel_rfl⟩, ⟨.inl ⟨ref04Texts.sound, by kernel_rfl⟩, ⟨.inl ⟨ref02Of.sound, by kernel_rfl⟩, ⟨.inl ⟨ref02Compare.sound, by kernel_rfl⟩, ⟨.inl ⟨ref02Against.sound, by kernel_rfl⟩, trivial⟩⟩⟩⟩⟩ rfl trivial (by kernel_rfl) (by kernel_rfl)) Try.func37 (by kernel_rfl) ref04Compare.lp (l := [(false, sub [1, 1, 1, 0, 1] ref04Compare.body, ref04Compare.nmj51006), (false, sub [1, 1, 1, 1] ref04Compare.body, ref04Compare.nmj7)]) (by kernel_rfl) (fun n => ⟨ref04Compare.atj51006 n, ⟨ref04Compare.atj7 n, trivial⟩⟩) ref04Compare.eq
noncomputable def realBits (fu : Nat) (xv : Nat) : Option (Int × Unit) :=
  cond (fNeq xv xv) (
    some ((9221120237041090560 : Int), ())) (
    (extBits.f fu (xv, ())).bind fun r1 =>
    some (r1.1, ()))

noncomputable def realBits.body : Code := Try.f27.body.getD .skip
noncomputable def realBits.con : Con := { ps := [.flt], rs := [(.int .u64)], f := fun n x => realBits n x.1 }
noncomputable def realBits.env : Env := { tys := [(22, ⟨(.int .u64), 8⟩)], elems := [], ptrs := [], cons := [(26, extBits)], objs := [], loops := [], cuts := [], globs := globs, base := 0 }
noncomputable def realBits.lp (n : Nat) : LP (Kd.struct realBits.con.rs).T := fun lo κ body nm K s =>
  loops n (Kd.struct realBits.con.rs).T lo κ body nm K s
theorem realBits.eq (n : Nat) (x : (Kd.struct realBits.con.ps).T) : evFunc realBits.env Try.f27 realBits.body realBits.con.ps realBits.con.rs (realBits.lp n) n x = realBits.con.f n x := by kernel_rfl
theorem realBits.sound : Sound Try.prog globs 27 realBits.con :=
  sound_by (E := realBits.env) (c := realBits.body) (envOk (G := globs) (lc := [(26, extBits)]) (lo := []) (envB_spec (by kernel_rfl)) rfl rfl ⟨.inr (extBits_ok Try.func26 (by kernel_rfl) (by kernel_rfl) (by kernel_rfl) (by kernel_rfl)), trivial⟩ rfl trivial (by kernel_rfl) (by kernel_rfl)) Try.func27 (by kernel_rfl) realBits.lp (l := []) (by kernel_rfl) (fun n => trivial) realBits.eq
noncomputable def realSame (fu : Nat) (a : Nat) (b : Nat) : Option (Bool × Unit) :=
  (realBits fu a).bind fun r1 =>
  (realBits fu b).bind fun r2 =>
  some (r1.1 == r2.1, ())

noncomputable def realSame.body : Code := Try.f22.body.getD .skip
noncomputable def realSame.con : Con := { ps := [.flt, .flt], rs := [.bool], f := fun n x => realSame n x.1 x.2.1 }
noncomputable def realSame.env : Env := { tys := [(4, ⟨.bool, 1⟩)], elems := [], ptrs := [], cons := [(27, realBits.con)], objs := [], loops := [], cuts := [], globs := globs, base := 0 }
noncomputable def realSame.lp (n : Nat) : LP (Kd.struct realSame.con.rs).T := fun lo κ body nm K s =>
  loops n (Kd.struct realSame.con.rs).T lo κ body nm K s
theorem realSame.eq (n : Nat) (x : (Kd.struct realSame.con.ps).T) : evFunc realSame.env Try.f22 realSame.body realSame.con.ps realSame.con.rs (realSame.lp n) n x = realSame.con.f n x := by kernel_rfl
theorem realSame.sound : Sound Try.prog globs 22 realSame.con :=
  sound_by (E := realSame.env) (c := realSame.body) (envOk (G := globs) (lc := [(27, realBits.con)]) (lo := []) (envB_spec (by kernel_rfl)) rfl rfl ⟨.inl ⟨realBits.sound, by kernel_rfl⟩, trivial⟩ rfl trivial (by kernel_rfl) (by kernel_rfl)) Try.func22 (by kernel_rfl) realSame.lp (l := []) (by kernel_rfl) (fun n => trivial) realSame.eq
noncomputable def valueSame (fu : Nat) (a : S1) (b : S1) : Option (Bool × Unit) :=
  (valueHeld fu a).bind fun r1 =>
  (valueHeld fu b).bind fun r2 =>
  cond (r1.1.1 == r2.1.1) (
    cond (r1.1.2.1 == r2.1.2.1) (
      let t3 := r1.1.2.2.2.1 == r2.1.2.2.2.1
      cond t3 (
        (realSame fu r1.1.2.2.1 r2.1.2.2.1).bind fun r4 =>
        some (r4.1, ())) (
        some (false, ()))) (
      some (false, ()))) (
    some (false, ()))

noncomputable def valueSame.body : Code := Try.f40.body.getD .skip
noncomputable def valueSame.con : Con := { ps := [kS1, kS1], rs := [.bool], f := fun n x => valueSame n x.1 x.2.1 }
noncomputable def valueSame.env : Env := { tys := [(58, ⟨kS1, 40⟩), (4, ⟨.bool, 1⟩), (5, ⟨(.int .u8), 1⟩), (2, ⟨(.int .i64), 8⟩), (9, ⟨.str, 16⟩), (25, ⟨.flt, 8⟩)], elems := [], ptrs := [], cons := [(59, valueHeld.con), (22, realSame.con)], objs := [], loops := [], cuts := [], globs := globs, base := 0 }
noncomputable def valueSame.lp (n : Nat) : LP (Kd.struct valueSame.con.rs).T := fun lo κ body nm K s =>
  loops n (Kd.struct valueSame.con.rs).T lo κ body nm K s
theorem valueSame.eq (n : Nat) (x : (Kd.struct valueSame.con.ps).T) : evFunc valueSame.env Try.f40 valueSame.body valueSame.con.ps valueSame.con.rs (valueSame.lp n) n x = valueSame.con.f n x := by kernel_rfl
theorem valueSame.sound : Sound Try.prog globs 40 valueSame.con :=
  sound_by (E := valueSame.env) (c := valueSame.body) (envOk (G := globs) (lc := [(59, valueHeld.con), (22, realSame.con)]) (lo := []) (envB_spec (by kernel_rfl)) rfl rfl ⟨.inl ⟨valueHeld.sound, by kernel_rfl⟩, ⟨.inl ⟨realSame.sound, by kernel_rfl⟩, trivial⟩⟩ rfl trivial (by kernel_rfl) (by kernel_rfl)) Try.func40 (by kernel_rfl) valueSame.lp (l := []) (by kernel_rfl) (fun n => trivial) valueSame.eq
noncomputable def ref02PartsBits (fu : Nat) (p : S2) : Option (Int × Unit) :=
  (ref02PartsNaN fu p).bind fun r1 =>
  cond r1.1 (
    some ((9221120237041090560 : Int), ())) (
    let t2 := IntKind.u64.wrap (IntKind.u64.wrap p.2.1 * (4503599627370496 : Int))
    let t3 := IntKind.u64.wrap (t2 + p.2.2.1)
    cond p.1 (
      let t4 := IntKind.u64.wrap (t3 + (9223372036854775808 : Int))
      some (t4, ())) (
      some (t3, ())))

noncomputable def ref02PartsBits.body : Code := Try.f23.body.getD .skip
noncomputable def ref02PartsBits.con : Con := { ps := [kS2], rs := [(.int .u64)], f := fun n x => ref02PartsBits n x.1 }
noncomputable def ref02PartsBits.env : Env := { tys := [(29, ⟨kS2, 24⟩), (22, ⟨(.int .u64), 8⟩), (3, ⟨(.int .i64), 8⟩), (4, ⟨.bool, 1⟩)], elems := [], ptrs := [], cons := [(48, ref02PartsNaN.con)], objs := [], loops := [], cuts := [], globs := globs, base := 0 }
noncomputable def ref02PartsBits.lp (n : Nat) : LP (Kd.struct ref02PartsBits.con.rs).T := fun lo κ body nm K s =>
  loops n (Kd.struct ref02PartsBits.con.rs).T lo κ body nm K s
theorem ref02PartsBits.eq (n : Nat) (x : (Kd.struct ref02PartsBits.con.ps).T) : evFunc ref02PartsBits.env Try.f23 ref02PartsBits.body ref02PartsBits.con.ps ref02PartsBits.con.rs (ref02PartsBits.lp n) n x = ref02PartsBits.con.f n x := by kernel_rfl
theorem ref02PartsBits.sound : Sound Try.prog globs 23 ref02PartsBits.con :=
  sound_by (E := ref02PartsBits.env) (c := ref02PartsBits.body) (envOk (G := globs) (lc := [(48, ref02PartsNaN.con)]) (lo := []) (envB_spec (by kernel_rfl)) rfl rfl ⟨.inl ⟨ref02PartsNaN.sound, by kernel_rfl⟩, trivial⟩ rfl trivial (by kernel_rfl) (by kernel_rfl)) Try.func23 (by kernel_rfl) ref02PartsBits.lp (l := []) (by kernel_rfl) (fun n => trivial) ref02PartsBits.eq
noncomputable def ref04Same (fu : Nat) (a : S1) (b : S1) : Option (Bool × Unit) :=
  cond (a.1 != b.1) (
    some (false, ())) (
    cond (a.1 == (1 : Int)) (
      some (a.2.1 == b.2.1, ())) (
      cond (a.1 == (2 : Int)) (
        (ref02Of fu a.2.2.1).bind fun r1 =>
        (ref02PartsBits fu r1.1).bind fun r2 =>
        (ref02Of fu b.2.2.1).bind fun r3 =>
        (ref02PartsBits fu r3.1).bind fun r4 =>
        some (r2.1 == r4.1, ())) (
        cond (a.1 == (3 : Int)) (
          some (a.2.2.2.1 == b.2.2.2.1, ())) (
          some (true, ())))))

noncomputable def ref04Same.body : Code := Try.f41.body.getD .skip
noncomputable def ref04Same.con : Con := { ps := [kS1, kS1], rs := [.bool], f := fun n x => ref04Same n x.1 x.2.1 }
noncomputable def ref04Same.env : Env := { tys := [(58, ⟨kS1, 40⟩), (4, ⟨.bool, 1⟩), (5, ⟨(.int .u8), 1⟩), (2, ⟨(.int .i64), 8⟩), (25, ⟨.flt, 8⟩), (9, ⟨.str, 16⟩)], elems := [], ptrs := [], cons := [(58, ref02Of.con), (23, ref02PartsBits.con)], objs := [], loops := [], cuts := [], globs := globs, base := 0 }
noncomputable def ref04Same.lp (n : Nat) : LP (Kd.struct ref04Same.con.rs).T := fun lo κ body nm K s =>
  loops n (Kd.struct ref04Same.con.rs).T lo κ body nm K s
theorem ref04Same.eq (n : Nat) (x : (Kd.struct ref04Same.con.ps).T) : evFunc ref04Same.env Try.f41 ref04Same.body ref04Same.con.ps ref04Same.con.rs (ref04Same.lp n) n x = ref04Same.con.f n x := by kernel_rfl
theorem ref04Same.sound : Sound Try.prog globs 41 ref04Same.con :=
  sound_by (E := ref04Same.env) (c := ref04Same.body) (envOk (G := globs) (lc := [(58, ref02Of.con), (23, ref02PartsBits.con)]) (lo := []) (envB_spec (by kernel_rfl)) rfl rfl ⟨.inl ⟨ref02Of.sound, by kernel_rfl⟩, ⟨.inl ⟨ref02PartsBits.sound, by kernel_rfl⟩, trivial⟩⟩ rfl trivial (by kernel_rfl) (by kernel_rfl)) Try.func41 (by kernel_rfl) ref04Same.lp (l := []) (by kernel_rfl) (fun n => trivial) ref04Same.eq
noncomputable def law04ValueTwo.j4 (fu : Nat) (k1 : Bool → Option (Bool × Unit)) (b2 : S1) (b3 : S1) : Option (Bool × Unit) :=
  (valueCompare fu b2 b3).bind fun r1 =>
  (ref04Compare fu b2 b3).bind fun r2 =>
  (law04Fixed fu).bind fun r3 =>
  cond r3.1 (
    (valueMay fu b2).bind fun r4 =>
    (ref04May fu b2).bind fun r5 =>
    cond (r4.1 == r5.1) (
      (valueMay fu b3).bind fun r6 =>
      (ref04May fu b3).bind fun r7 =>
      cond (r6.1 == r7.1) (
        (valueSame fu b2 b3).bind fun r8 =>
        (ref04Same fu b2 b3).bind fun r9 =>
        cond (r8.1 == r9.1) (
          cond (r1.1 == r2.1) (
            k1 (r1.2.1 == r2.2.1)) (
            k1 false)) (
          k1 false)) (
        k1 false)) (
      k1 false)) (
    k1 false)
noncomputable def law04ValueTwo (fu : Nat) (xv : S0) (yv : S0) : Option (Bool × Unit) :=
  (law04Great fu ([xv, yv])).bind fun r1 =>
  cond r1.1 (
    (law04Fixed fu).bind fun r2 =>
    some (r2.1, ())) (
    twice (
      (law04RawValue fu xv).bind fun r3 =>
      (law04RawValue fu yv).bind fun r4 =>
      law04ValueTwo.j4 fu (fun vq1 => 
          some (vq1, ())) r3.1 r4.1))

noncomputable def law04ValueTwo.body : Code := Try.f10.body.getD .skip
abbrev law04ValueTwo.shj4 : Shp := ⟨[.u, .u, .u, .u, .u, .p 2 0, .p 3 0, .u, .u, .u, .u, .u, .u, .u, .u, .u, .u, .u, .u, .u, .u, .u, .u, .u, .u, .u, .u, .u, .u, .u, .u, .u, .u, .u, .u, .u, .u, .u, .u, .u, .u, .u, .u, .u, .u, .u, .u, .u, .u, .u, .u, .u, .u, .u, .u, .u, .u, .u, .u, .u, .u, .u, .u, .u, .u, .u], [.c [.u, .u, .u, .u], .c [.u, .u, .u, .u], .c [.g kS1], .c [.g kS1]]⟩
abbrev law04ValueTwo.outj4e1 : Shp := ⟨[.u, .u, .u, .u, .d .bool, .u, .u, .u, .u, .u, .u, .u, .u, .u, .u, .u, .u, .u, .u, .u, .u, .u, .u, .u, .u, .u, .u, .u, .u, .u, .u, .u, .u, .u, .u, .u, .u, .u, .u, .u, .u, .u, .u, .u, .u, .u, .u, .u, .u, .u, .u, .u, .u, .u, .u, .u, .u, .u, .u, .u, .u, .u, .u, .u, .u, .u], []⟩
noncomputable def law04ValueTwo.nmj4 : Norm := ⟨{ keep := [5, 6], shut := [], retag := [], heap := 4, dead := [0, 1], cshut := [(2, 0, (.int .u8)), (2, 1, (.int .i64)), (2, 2, .flt), (2, 3, .str), (3, 0, (.int .u8)), (3, 1, (.int .i64)), (3, 2, .flt), (3, 3, .str)], cretag := [] }, [(1, { keep := [4], shut := [(4, .bool)], retag := [], heap := 0, dead := [], cshut := [], cretag := [] })]⟩
noncomputable def law04ValueTwo.con : Con := { ps := [kS0, kS0], rs := [.bool], f := fun n x => law04ValueTwo n x.1 x.2.1 }
noncomputable def law04ValueTwo.env : Env := { tys := [(54, ⟨kS0, 40⟩), (4, ⟨.bool, 1⟩), (58, ⟨kS1, 40⟩)], elems := [(82, 54)], ptrs := [], cons := [(33, law04Great.con), (34, law04Fixed.con), (36, law04RawValue.con), (35, valueCompare.con), (37, ref04Compare.con), (38, valueMay.con), (39, ref04May.con), (40, valueSame.con), (41, ref04Same.con)], objs := [], loops := [], cuts := [(4, law04ValueTwo.nmj4)], globs := globs, base := 0, twos := [(3, 4, 5, 2, [0, 1, 2, 3, 5, 4, 6, 7])] }
noncomputable def law04ValueTwo.lp (n : Nat) : LP (Kd.struct law04ValueTwo.con.rs).T := fun lo κ body nm K s =>
  cond (!lo && Nat.beq κ 4)
    (match law04ValueTwo.shj4.dec s with
    | some v => law04ValueTwo.j4 n (fun w0 => K .ret (law04ValueTwo.outj4e1.enc (w0, ()))) v.1 v.2.1
    | none => loops n (Kd.struct law04ValueTwo.con.rs).T lo κ body nm K s)
    (loops n (Kd.struct law04ValueTwo.con.rs).T lo κ body nm K s)
theorem law04ValueTwo.atj4 (n : Nat) (s : St) (K : Ex → St → Option (Kd.struct law04ValueTwo.con.rs).T) : (law04ValueTwo.lp n) false 4 (evK law04ValueTwo.env (law04ValueTwo.lp n) n (sub [1, 1, 1] law04ValueTwo.body)) law04ValueTwo.nmj4 K s = loops n (Kd.struct law04ValueTwo.con.rs).T false 4 (evK law04ValueTwo.env (law04ValueTwo.lp n) n (sub [1, 1, 1] law04ValueTwo.body)) law04ValueTwo.nmj4 K s := by
  show (match law04ValueTwo.shj4.dec s with | some v => law04ValueTwo.j4 n (fun w0 => K .ret (law04ValueTwo.outj4e1.enc (w0, ()))) v.1 v.2.1 | none => loops n (Kd.struct law04ValueTwo.con.rs).T false 4 (evK law04ValueTwo.env (law04ValueTwo.lp n) n (sub [1, 1, 1] law04ValueTwo.body)) law04ValueTwo.nmj4 K s) = _
  cases h : law04ValueTwo.shj4.dec s with
  | none => rfl
  | some v =>
    rw [Shp.dec_enc h]
    kernel_rfl
theorem law04ValueTwo.eq (n : Nat) (x : (Kd.struct law04ValueTwo.con.ps).T) : evFunc law04ValueTwo.env Try.f10 law04ValueTwo.body law04ValueTwo.con.ps law04ValueTwo.con.rs (law04ValueTwo.lp n) n x = law04ValueTwo.con.f n x := by kernel_rfl
theorem law04ValueTwo.sound : Sound Try.prog globs 10 law04ValueTwo.con :=
  sound_by (E := law04ValueTwo.env) (c := law04ValueTwo.body) (envOk (G := globs) (lc := [(33, law04Great.con), (34, law04Fixed.con), (36, law04RawValue.con), (35, valueCompare.con), (37, ref04Compare.con), (38, valueMay.con), (39, ref04May.con), (40, valueSame.con), (41, ref04Same.con)]) (lo := []) (envB_spec (by kernel_rfl)) rfl rfl ⟨.inl ⟨law04Great.sound, by kernel_rfl⟩, ⟨.inl ⟨law04Fixed.sound, by kernel_rfl⟩, ⟨.inl ⟨law04RawValue.sound, by kernel_rfl⟩, ⟨.inl ⟨valueCompare.sound, by kernel_rfl⟩, ⟨.inl ⟨ref04Compare.sound, by kernel_rfl⟩, ⟨.inl ⟨valueMay.sound, by kernel_rfl⟩, ⟨.inl ⟨ref04May.sound, by kernel_rfl⟩, ⟨.inl ⟨valueSame.sound, by kernel_rfl⟩, ⟨.inl ⟨ref04Same.sound, by kernel_rfl⟩, trivial⟩⟩⟩⟩⟩⟩⟩⟩⟩ rfl trivial (by kernel_rfl) (by kernel_rfl)) Try.func10 (by kernel_rfl) law04ValueTwo.lp (l := [(false, sub [1, 1, 1] law04ValueTwo.body, law04ValueTwo.nmj4)]) (by kernel_rfl) (fun n => ⟨law04ValueTwo.atj4 n, trivial⟩) law04ValueTwo.eq
end
end Go.Shal.Pr
