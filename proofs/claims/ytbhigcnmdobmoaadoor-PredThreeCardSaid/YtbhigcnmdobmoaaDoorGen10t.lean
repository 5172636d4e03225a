/- Prints of functions, and proofs that they are what the code computes. By an AI agent. -/
import Derived.Test.YtbhigcnmdobmoaaDoorShC
import Derived.Test.YtbhigcnmdobmoaaDoorProg
set_option linter.unusedVariables false
set_option maxRecDepth 100000
namespace Go.Shal.Pr
open Go Go.Shal Go.Proofs
noncomputable section
def tabPredSays : List (List Bool) := [[false, false, false], [false, true, false], [true, false, true], [true, false, false], [true, true, false], [false, false, true], [false, true, true]]
def globs : Globs := [(0, ⟨(.arr 7 (.arr 3 .bool)), tabPredSays⟩)]
abbrev kS0 : Kd := .struct [(.int .u8), (.int .i64), .flt, .str]
abbrev S0 : Type := Int × Int × Nat × (List Int) × Unit
abbrev kS1 : Kd := .struct [(.int .u8), (.int .u8), kS0]
abbrev S1 : Type := Int × Int × S0 × Unit
abbrev kS2 : Kd := .struct [.bool, (.int .u8), (.slice kS1)]
abbrev S2 : Type := Bool × Int × (List S1) × Unit
abbrev kS3 : Kd := .struct [(.int .u8), (.slice kS0)]
abbrev S3 : Type := Int × (List S0) × Unit
abbrev kS4 : Kd := .struct [(.int .u8), (.int .i64), (.int .u64), .str]
abbrev S4 : Type := Int × Int × Int × (List Int) × Unit
abbrev kS5 : Kd := .struct [.bool, (.int .i64), (.int .u64)]
abbrev S5 : Type := Bool × Int × Int × Unit
noncomputable def valueHeld (fu : Nat) (v : S0) : Option (S0 × Unit) :=
  cond (v.1 == (1 : Int)) (
    some ((v.1, v.2.1, (0 : Nat), [], ()), ())) (
    cond (v.1 == (2 : Int)) (
      some ((v.1, (0 : Int), v.2.2.1, [], ()), ())) (
      cond (v.1 == (3 : Int)) (
        some ((v.1, (0 : Int), (0 : Nat), v.2.2.2.1, ()), ())) (
        some ((v.1, (0 : Int), (0 : Nat), [], ()), ()))))

noncomputable def valueHeld.body : Code := Tryd.f58.body.getD .skip
noncomputable def valueHeld.con : Con := { ps := [kS0], rs := [kS0], f := fun n x => valueHeld n x.1 }
noncomputable def valueHeld.env : Env := { tys := [(46, ⟨kS0, 40⟩), (5, ⟨(.int .u8), 1⟩), (2, ⟨(.int .i64), 8⟩), (44, ⟨.flt, 8⟩), (9, ⟨.str, 16⟩)], elems := [], ptrs := [], cons := [], objs := [], loops := [], cuts := [], globs := globs, base := 0 }
noncomputable def valueHeld.lp (n : Nat) : LP (Kd.struct valueHeld.con.rs).T := fun lo κ body nm K s =>
  loops n (Kd.struct valueHeld.con.rs).T lo κ body nm K s
theorem valueHeld.eq (n : Nat) (x : (Kd.struct valueHeld.con.ps).T) : evFunc valueHeld.env Tryd.f58 valueHeld.body valueHeld.con.ps valueHeld.con.rs (valueHeld.lp n) n x = valueHeld.con.f n x := by kernel_rfl
theorem valueHeld.sound : Sound Tryd.prog globs 58 valueHeld.con :=
  sound_by (E := valueHeld.env) (c := valueHeld.body) (envOk (G := globs) (lc := []) (lo := []) (envB_spec (by kernel_rfl)) rfl rfl trivial rfl trivial (by kernel_rfl) (by kernel_rfl)) Tryd.func58 (by kernel_rfl) valueHeld.lp (l := []) (by kernel_rfl) (fun n => trivial) valueHeld.eq
noncomputable def valueMay (fu : Nat) (v : S0) : Option (Bool × Unit) :=
  (valueHeld fu v).bind fun r1 =>
  cond (decide (v.1 ≤ (3 : Int))) (
    let t2 := decide ((v.2.2.2.1.length : Int) ≤ (255 : Int))
    cond t2 (
      cond (r1.1.2.1 == v.2.1) (
        let t3 := r1.1.2.2.2.1 == v.2.2.2.1
        cond t3 (
          (extBits.f fu (r1.1.2.2.1, ())).bind fun r4 =>
          (extBits.f fu (v.2.2.1, ())).bind fun r5 =>
          some (r4.1 == r5.1, ())) (
          some (false, ()))) (
        some (false, ()))) (
      some (false, ()))) (
    some (false, ()))

noncomputable def valueMay.body : Code := Tryd.f47.body.getD .skip
noncomputable def valueMay.con : Con := { ps := [kS0], rs := [.bool], f := fun n x => valueMay n x.1 }
noncomputable def valueMay.env : Env := { tys := [(46, ⟨kS0, 40⟩), (4, ⟨.bool, 1⟩), (5, ⟨(.int .u8), 1⟩), (9, ⟨.str, 16⟩), (2, ⟨(.int .i64), 8⟩), (44, ⟨.flt, 8⟩)], elems := [], ptrs := [], cons := [(58, valueHeld.con), (52, extBits)], objs := [], loops := [], cuts := [], globs := globs, base := 0 }
noncomputable def valueMay.lp (n : Nat) : LP (Kd.struct valueMay.con.rs).T := fun lo κ body nm K s =>
  loops n (Kd.struct valueMay.con.rs).T lo κ body nm K s
theorem valueMay.eq (n : Nat) (x : (Kd.struct valueMay.con.ps).T) : evFunc valueMay.env Tryd.f47 valueMay.body valueMay.con.ps valueMay.con.rs (valueMay.lp n) n x = valueMay.con.f n x := by kernel_rfl
theorem valueMay.sound : Sound Tryd.prog globs 47 valueMay.con :=
  sound_by (E := valueMay.env) (c := valueMay.body) (envOk (G := globs) (lc := [(58, valueHeld.con), (52, extBits)]) (lo := []) (envB_spec (by kernel_rfl)) rfl rfl ⟨.inl ⟨valueHeld.sound, by kernel_rfl⟩, ⟨.inr (extBits_ok Tryd.func52 (by kernel_rfl) (by kernel_rfl) (by kernel_rfl) (by kernel_rfl)), trivial⟩⟩ rfl trivial (by kernel_rfl) (by kernel_rfl)) Tryd.func47 (by kernel_rfl) valueMay.lp (l := []) (by kernel_rfl) (fun n => trivial) valueMay.eq
noncomputable def predRight (fu : Nat) (tv : S1) : Option (Bool × Unit) :=
  (valueMay fu tv.2.2.1).bind fun r1 =>
  cond (!r1.1) (
    some (false, ())) (
    cond (tv.2.1 == (7 : Int)) (
      some (tv.2.2.1.1 == (0 : Int), ())) (
      cond (tv.2.1 == (8 : Int)) (
        some (tv.2.2.1.1 == (3 : Int), ())) (
        let t2 := decide (tv.2.1 ≥ (1 : Int))
        cond t2 (
          let t3 := decide (tv.2.1 ≤ (6 : Int))
          cond t3 (
            some (tv.2.2.1.1 != (0 : Int), ())) (
            some (false, ()))) (
          some (false, ())))))

noncomputable def predRight.body : Code := Tryd.f25.body.getD .skip
noncomputable def predRight.con : Con := { ps := [kS1], rs := [.bool], f := fun n x => predRight n x.1 }
noncomputable def predRight.env : Env := { tys := [(50, ⟨kS1, 48⟩), (4, ⟨.bool, 1⟩), (46, ⟨kS0, 40⟩), (5, ⟨(.int .u8), 1⟩)], elems := [], ptrs := [], cons := [(47, valueMay.con)], objs := [], loops := [], cuts := [], globs := globs, base := 0 }
noncomputable def predRight.lp (n : Nat) : LP (Kd.struct predRight.con.rs).T := fun lo κ body nm K s =>
  loops n (Kd.struct predRight.con.rs).T lo κ body nm K s
theorem predRight.eq (n : Nat) (x : (Kd.struct predRight.con.ps).T) : evFunc predRight.env Tryd.f25 predRight.body predRight.con.ps predRight.con.rs (predRight.lp n) n x = predRight.con.f n x := by kernel_rfl
theorem predRight.sound : Sound Tryd.prog globs 25 predRight.con :=
  sound_by (E := predRight.env) (c := predRight.body) (envOk (G := globs) (lc := [(47, valueMay.con)]) (lo := []) (envB_spec (by kernel_rfl)) rfl rfl ⟨.inl ⟨valueMay.sound, by kernel_rfl⟩, trivial⟩ rfl trivial (by kernel_rfl) (by kernel_rfl)) Tryd.func25 (by kernel_rfl) predRight.lp (l := []) (by kernel_rfl) (fun n => trivial) predRight.eq
noncomputable def predMay1 (fu : Nat) (tv : S1) : Option (Bool × Unit) :=
  (predRight fu tv).bind fun r1 =>
  some (!r1.1, ())

noncomputable def predMay1.body : Code := Tryd.f24.body.getD .skip
noncomputable def predMay1.con : Con := { ps := [kS1], rs := [.bool], f := fun n x => predMay1 n x.1 }
noncomputable def predMay1.env : Env := { tys := [(50, ⟨kS1, 48⟩), (4, ⟨.bool, 1⟩)], elems := [], ptrs := [], cons := [(25, predRight.con)], objs := [], loops := [], cuts := [], globs := globs, base := 0 }
noncomputable def predMay1.lp (n : Nat) : LP (Kd.struct predMay1.con.rs).T := fun lo κ body nm K s =>
  loops n (Kd.struct predMay1.con.rs).T lo κ body nm K s
theorem predMay1.eq (n : Nat) (x : (Kd.struct predMay1.con.ps).T) : evFunc predMay1.env Tryd.f24 predMay1.body predMay1.con.ps predMay1.con.rs (predMay1.lp n) n x = predMay1.con.f n x := by kernel_rfl
theorem predMay1.sound : Sound Tryd.prog globs 24 predMay1.con :=
  sound_by (E := predMay1.env) (c := predMay1.body) (envOk (G := globs) (lc := [(25, predRight.con)]) (lo := []) (envB_spec (by kernel_rfl)) rfl rfl ⟨.inl ⟨predRight.sound, by kernel_rfl⟩, trivial⟩ rfl trivial (by kernel_rfl) (by kernel_rfl)) Tryd.func24 (by kernel_rfl) predMay1.lp (l := []) (by kernel_rfl) (fun n => trivial) predMay1.eq
noncomputable def slicesIndexFunc.b2 (fu : Nat) (next : (List S1) → Int → Int → Option ((Int × Unit) × (Unit))) (k1 : Int → Option ((Int × Unit) × (Unit))) (k2 : Unit → Option ((Int × Unit) × (Unit))) (sv : List S1) (v : Int) (vx2 : Int) : Option ((Int × Unit) × (Unit)) :=
  cond (decide (vx2 < v)) (
    chk (ixOk sv vx2) <|
    let e1 := ixL ((0 : Int), (0 : Int), ((0 : Int), (0 : Int), (0 : Nat), [], ()), ()) sv vx2
    (predMay1 fu e1).bind fun r2 =>
    cond r2.1 (
      k1 vx2) (
      let t3 := IntKind.i64.wrap (vx2 + (1 : Int))
      next sv v t3)) (
    k2 ())
noncomputable def slicesIndexFunc.l2 (fu : Nat) (k1 : Int → Option ((Int × Unit) × (Unit))) (k2 : Unit → Option ((Int × Unit) × (Unit))) : Nat → (List S1) → Int → Int → Option ((Int × Unit) × (Unit))
  | 0, _, _, _ => none
  | m + 1, sv, v, vx2 => slicesIndexFunc.b2 fu (slicesIndexFunc.l2 fu k1 k2 m) k1 k2 sv v vx2
noncomputable def slicesIndexFunc (fu : Nat) (sv : List S1) : Option ((Int × Unit) × (Unit)) :=
  slicesIndexFunc.l2 fu (fun vq3 => 
      some ((vq3, ()), (()))) (fun (_ : Unit) => 
      some (((-1 : Int), ()), (()))) fu sv (sv.length : Int) (0 : Int)

noncomputable def slicesIndexFunc.body : Code := Tryd.f46.body.getD .skip
abbrev slicesIndexFunc.shl2 : Shp := ⟨[.d (.slice kS1), .f 24, .u, .u, .u, .u, .u, .d (.int .i64), .d (.int .i64), .u, .u, .u, .u, .u, .u, .u, .u, .u, .u], []⟩
abbrev slicesIndexFunc.outl2e1 : Shp := ⟨[.u, .u, .u, .u, .d (.int .i64), .u, .u, .u, .u, .u, .u, .u, .u, .u, .u, .u, .u, .u, .u], []⟩
abbrev slicesIndexFunc.outl2e2 : Shp := ⟨[.u, .u, .u, .u, .u, .u, .u, .u, .u, .u, .u, .u, .u, .u, .u, .u, .u, .u, .u], []⟩
noncomputable def slicesIndexFunc.nml2 : Norm := ⟨{ keep := [0, 1, 7, 8], shut := [(0, (.slice kS1)), (7, (.int .i64)), (8, (.int .i64))], retag := [], heap := 0, dead := [], cshut := [], cretag := [] }, [(1, { keep := [4], shut := [(4, (.int .i64))], retag := [], heap := 0, dead := [], cshut := [], cretag := [] }), (2, { keep := [], shut := [], retag := [], heap := 0, dead := [], cshut := [], cretag := [] })]⟩
noncomputable def slicesIndexFunc.con : OCon := { ps := [.dat (.slice kS1), .fn 24], rs := [.dat (.int .i64)], f := fun n x => slicesIndexFunc n x.1 }
noncomputable def slicesIndexFunc.env : Env := { tys := [(3, ⟨(.int .i64), 8⟩), (50, ⟨kS1, 48⟩)], elems := [(28, 50)], ptrs := [], cons := [(24, predMay1.con)], objs := [], loops := [(2, slicesIndexFunc.nml2)], cuts := [], globs := globs, base := 0 }
noncomputable def slicesIndexFunc.lp (n : Nat) : LP (RT slicesIndexFunc.con.rs × BT slicesIndexFunc.con.ps) := fun lo κ body nm K s =>
  cond (lo && Nat.beq κ 2)
    (match slicesIndexFunc.shl2.dec s with
    | some v => slicesIndexFunc.l2 n (fun w0 => K .ret (slicesIndexFunc.outl2e1.enc (w0, ()))) (fun _ => K (.exit 0) (slicesIndexFunc.outl2e2.enc (()))) n v.1 v.2.1 v.2.2.1
    | none => loops n (RT slicesIndexFunc.con.rs × BT slicesIndexFunc.con.ps) lo κ body nm K s)
    (loops n (RT slicesIndexFunc.con.rs × BT slicesIndexFunc.con.ps) lo κ body nm K s)
theorem slicesIndexFunc.atl2 (n : Nat) (s : St) (K : Ex → St → Option (RT slicesIndexFunc.con.rs × BT slicesIndexFunc.con.ps)) : (slicesIndexFunc.lp n) true 2 (evK slicesIndexFunc.env (slicesIndexFunc.lp n) n (sub [1, 0, 1, 0, 0] slicesIndexFunc.body)) slicesIndexFunc.nml2 K s = loops n (RT slicesIndexFunc.con.rs × BT slicesIndexFunc.con.ps) true 2 (evK slicesIndexFunc.env (slicesIndexFunc.lp n) n (sub [1, 0, 1, 0, 0] slicesIndexFunc.body)) slicesIndexFunc.nml2 K s := by
  show (match slicesIndexFunc.shl2.dec s with | some v => slicesIndexFunc.l2 n (fun w0 => K .ret (slicesIndexFunc.outl2e1.enc (w0, ()))) (fun _ => K (.exit 0) (slicesIndexFunc.outl2e2.enc (()))) n v.1 v.2.1 v.2.2.1 | none => loops n (RT slicesIndexFunc.con.rs × BT slicesIndexFunc.con.ps) true 2 (evK slicesIndexFunc.env (slicesIndexFunc.lp n) n (sub [1, 0, 1, 0, 0] slicesIndexFunc.body)) slicesIndexFunc.nml2 K s) = _
  cases h : slicesIndexFunc.shl2.dec s with
  | none => rfl
  | some v =>
    rw [Shp.dec_enc h]
    exact (evLoop_eq (sh := slicesIndexFunc.shl2) (body := evK slicesIndexFunc.env (slicesIndexFunc.lp n) n (sub [1, 0, 1, 0, 0] slicesIndexFunc.body)) (nm := slicesIndexFunc.nml2) (K := K) (b := fun nx v => slicesIndexFunc.b2 n (fun x0 x1 x2 => nx (x0, x1, x2, ())) (fun w0 => K .ret (slicesIndexFunc.outl2e1.enc (w0, ()))) (fun _ => K (.exit 0) (slicesIndexFunc.outl2e2.enc (()))) v.1 v.2.1 v.2.2.1) (l := fun m v => slicesIndexFunc.l2 n (fun w0 => K .ret (slicesIndexFunc.outl2e1.enc (w0, ()))) (fun _ => K (.exit 0) (slicesIndexFunc.outl2e2.enc (()))) m v.1 v.2.1 v.2.2.1) (fun _ => rfl) (fun _ _ => rfl) (fun m v => by kernel_rfl) n v).symm
theorem slicesIndexFunc.eq (n : Nat) (x : PT slicesIndexFunc.con.ps) : evFuncO slicesIndexFunc.env Tryd.f46 slicesIndexFunc.body slicesIndexFunc.con.ps slicesIndexFunc.con.rs (slicesIndexFunc.lp n) n x = slicesIndexFunc.con.f n x := by kernel_rfl
theorem slicesIndexFunc.sound : SoundO Tryd.prog globs 46 slicesIndexFunc.con :=
  sound_byO (E := slicesIndexFunc.env) (c := slicesIndexFunc.body) (envOk (G := globs) (lc := [(24, predMay1.con)]) (lo := []) (envB_spec (by kernel_rfl)) rfl rfl ⟨.inl ⟨predMay1.sound, by kernel_rfl⟩, trivial⟩ rfl trivial (by kernel_rfl) (by kernel_rfl)) Tryd.func46 (by kernel_rfl) (by kernel_rfl) (by kernel_rfl) slicesIndexFunc.lp (l := [(true, sub [1, 0, 1, 0, 0] slicesIndexFunc.body, slicesIndexFunc.nml2)]) (by kernel_rfl) (fun n => ⟨slicesIndexFunc.atl2 n, trivial⟩) slicesIndexFunc.eq
noncomputable def slicesContainsFunc (fu : Nat) (sv : List S1) : Option ((Bool × Unit) × (Unit)) :=
  (slicesIndexFunc fu sv).bind fun r1 =>
  let t2 := decide (r1.1.1 ≥ (0 : Int))
  some ((t2, ()), (()))

noncomputable def slicesContainsFunc.body : Code := Tryd.f23.body.getD .skip
noncomputable def slicesContainsFunc.con : OCon := { ps := [.dat (.slice kS1), .fn 24], rs := [.dat .bool], f := fun n x => slicesContainsFunc n x.1 }
noncomputable def slicesContainsFunc.env : Env := { tys := [(4, ⟨.bool, 1⟩)], elems := [], ptrs := [], cons := [], objs := [(46, [slicesIndexFunc.con])], loops := [], cuts := [], globs := globs, base := 0 }
noncomputable def slicesContainsFunc.lp (n : Nat) : LP (RT slicesContainsFunc.con.rs × BT slicesContainsFunc.con.ps) := fun lo κ body nm K s =>
  loops n (RT slicesContainsFunc.con.rs × BT slicesContainsFunc.con.ps) lo κ body nm K s
theorem slicesContainsFunc.eq (n : Nat) (x : PT slicesContainsFunc.con.ps) : evFuncO slicesContainsFunc.env Tryd.f23 slicesContainsFunc.body slicesContainsFunc.con.ps slicesContainsFunc.con.rs (slicesContainsFunc.lp n) n x = slicesContainsFunc.con.f n x := by kernel_rfl
theorem slicesContainsFunc.sound : SoundO Tryd.prog globs 23 slicesContainsFunc.con :=
  sound_byO (E := slicesContainsFunc.env) (c := slicesContainsFunc.body) (envOk (G := globs) (lc := []) (lo := [(46, [slicesIndexFunc.con])]) (envB_spec (by kernel_rfl)) rfl rfl trivial rfl ⟨⟨⟨slicesIndexFunc.sound, trivial⟩, by kernel_rfl⟩, trivial⟩ (by kernel_rfl) (by kernel_rfl)) Tryd.func23 (by kernel_rfl) (by kernel_rfl) (by kernel_rfl) slicesContainsFunc.lp (l := []) (by kernel_rfl) (fun n => trivial) slicesContainsFunc.eq
noncomputable def predMay (fu : Nat) (p : S2) : Option (Bool × Unit) :=
  cond p.1 (
    cond (p.2.1 != (0 : Int)) (
      some (false, ())) (
      let t1 := decide ((p.2.2.1.length : Int) > (4 : Int))
      cond t1 (
        some (false, ())) (
        (slicesContainsFunc fu p.2.2.1).bind fun r2 =>
        some (!r2.1.1, ())))) (
    let t3 := decide ((p.2.2.1.length : Int) > (4 : Int))
    cond t3 (
      some (false, ())) (
      (slicesContainsFunc fu p.2.2.1).bind fun r4 =>
      some (!r4.1.1, ())))

noncomputable def predMay.body : Code := Tryd.f12.body.getD .skip
noncomputable def predMay.con : Con := { ps := [kS2], rs := [.bool], f := fun n x => predMay n x.1 }
noncomputable def predMay.env : Env := { tys := [(30, ⟨kS2, 32⟩), (4, ⟨.bool, 1⟩), (5, ⟨(.int .u8), 1⟩), (28, ⟨(.slice kS1), 24⟩), (50, ⟨kS1, 48⟩)], elems := [(28, 50)], ptrs := [], cons := [], objs := [(23, [slicesContainsFunc.con])], loops := [], cuts := [], globs := globs, base := 0 }
noncomputable def predMay.lp (n : Nat) : LP (Kd.struct predMay.con.rs).T := fun lo κ body nm K s =>
  loops n (Kd.struct predMay.con.rs).T lo κ body nm K s
theorem predMay.eq (n : Nat) (x : (Kd.struct predMay.con.ps).T) : evFunc predMay.env Tryd.f12 predMay.body predMay.con.ps predMay.con.rs (predMay.lp n) n x = predMay.con.f n x := by kernel_rfl
theorem predMay.sound : Sound Tryd.prog globs 12 predMay.con :=
  sound_by (E := predMay.env) (c := predMay.body) (envOk (G := globs) (lc := []) (lo := [(23, [slicesContainsFunc.con])]) (envB_spec (by kernel_rfl)) rfl rfl trivial rfl ⟨⟨⟨slicesContainsFunc.sound, trivial⟩, by kernel_rfl⟩, trivial⟩ (by kernel_rfl) (by kernel_rfl)) Tryd.func12 (by kernel_rfl) predMay.lp (l := []) (by kernel_rfl) (fun n => trivial) predMay.eq
noncomputable def eventMay1 (fu : Nat) (v : S0) : Option (Bool × Unit) :=
  (valueMay fu v).bind fun r1 =>
  some (!r1.1, ())

noncomputable def eventMay1.body : Code := Tryd.f49.body.getD .skip
noncomputable def eventMay1.con : Con := { ps := [kS0], rs := [.bool], f := fun n x => eventMay1 n x.1 }
noncomputable def eventMay1.env : Env := { tys := [(46, ⟨kS0, 40⟩), (4, ⟨.bool, 1⟩)], elems := [], ptrs := [], cons := [(47, valueMay.con)], objs := [], loops := [], cuts := [], globs := globs, base := 0 }
noncomputable def eventMay1.lp (n : Nat) : LP (Kd.struct eventMay1.con.rs).T := fun lo κ body nm K s =>
  loops n (Kd.struct eventMay1.con.rs).T lo κ body nm K s
theorem eventMay1.eq (n : Nat) (x : (Kd.struct eventMay1.con.ps).T) : evFunc eventMay1.env Tryd.f49 eventMay1.body eventMay1.con.ps eventMay1.con.rs (eventMay1.lp n) n x = eventMay1.con.f n x := by kernel_rfl
theorem eventMay1.sound : Sound Tryd.prog globs 49 eventMay1.con :=
  sound_by (E := eventMay1.env) (c := eventMay1.body) (envOk (G := globs) (lc := [(47, valueMay.con)]) (lo := []) (envB_spec (by kernel_rfl)) rfl rfl ⟨.inl ⟨valueMay.sound, by kernel_rfl⟩, trivial⟩ rfl trivial (by kernel_rfl) (by kernel_rfl)) Tryd.func49 (by kernel_rfl) eventMay1.lp (l := []) (by kernel_rfl) (fun n => trivial) eventMay1.eq
noncomputable def slicesIndexFuncF70.b2 (fu : Nat) (next : (List S0) → Int → Int → Option ((Int × Unit) × (Unit))) (k1 : Int → Option ((Int × Unit) × (Unit))) (k2 : Unit → Option ((Int × Unit) × (Unit))) (sv : List S0) (v : Int) (vx2 : Int) : Option ((Int × Unit) × (Unit)) :=
  cond (decide (vx2 < v)) (
    chk (ixOk sv vx2) <|
    let e1 := ixL ((0 : Int), (0 : Int), (0 : Nat), [], ()) sv vx2
    (eventMay1 fu e1).bind fun r2 =>
    cond r2.1 (
      k1 vx2) (
      let t3 := IntKind.i64.wrap (vx2 + (1 : Int))
      next sv v t3)) (
    k2 ())
noncomputable def slicesIndexFuncF70.l2 (fu : Nat) (k1 : Int → Option ((Int × Unit) × (Unit))) (k2 : Unit → Option ((Int × Unit) × (Unit))) : Nat → (List S0) → Int → Int → Option ((Int × Unit) × (Unit))
  | 0, _, _, _ => none
  | m + 1, sv, v, vx2 => slicesIndexFuncF70.b2 fu (slicesIndexFuncF70.l2 fu k1 k2 m) k1 k2 sv v vx2
noncomputable def slicesIndexFuncF70 (fu : Nat) (sv : List S0) : Option ((Int × Unit) × (Unit)) :=
  slicesIndexFuncF70.l2 fu (fun vq3 => 
      some ((vq3, ()), (()))) (fun (_ : Unit) => 
      some (((-1 : Int), ()), (()))) fu sv (sv.length : Int) (0 : Int)

noncomputable def slicesIndexFuncF70.body : Code := Tryd.f70.body.getD .skip
abbrev slicesIndexFuncF70.shl2 : Shp := ⟨[.d (.slice kS0), .f 49, .u, .u, .u, .u, .u, .d (.int .i64), .d (.int .i64), .u, .u, .u, .u, .u, .u, .u, .u, .u, .u], []⟩
abbrev slicesIndexFuncF70.outl2e1 : Shp := ⟨[.u, .u, .u, .u, .d (.int .i64), .u, .u, .u, .u, .u, .u, .u, .u, .u, .u, .u, .u, .u, .u], []⟩
abbrev slicesIndexFuncF70.outl2e2 : Shp := ⟨[.u, .u, .u, .u, .u, .u, .u, .u, .u, .u, .u, .u, .u, .u, .u, .u, .u, .u, .u], []⟩
noncomputable def slicesIndexFuncF70.nml2 : Norm := ⟨{ keep := [0, 1, 7, 8], shut := [(0, (.slice kS0)), (7, (.int .i64)), (8, (.int .i64))], retag := [], heap := 0, dead := [], cshut := [], cretag := [] }, [(1, { keep := [4], shut := [(4, (.int .i64))], retag := [], heap := 0, dead := [], cshut := [], cretag := [] }), (2, { keep := [], shut := [], retag := [], heap := 0, dead := [], cshut := [], cretag := [] })]⟩
noncomputable def slicesIndexFuncF70.con : OCon := { ps := [.dat (.slice kS0), .fn 49], rs := [.dat (.int .i64)], f := fun n x => slicesIndexFuncF70 n x.1 }
noncomputable def slicesIndexFuncF70.env : Env := { tys := [(3, ⟨(.int .i64), 8⟩), (46, ⟨kS0, 40⟩)], elems := [(32, 46)], ptrs := [], cons := [(49, eventMay1.con)], objs := [], loops := [(2, slicesIndexFuncF70.nml2)], cuts := [], globs := globs, base := 0 }
noncomputable def slicesIndexFuncF70.lp (n : Nat) : LP (RT slicesIndexFuncF70.con.rs × BT slicesIndexFuncF70.con.ps) := fun lo κ body nm K s =>
  cond (lo && Nat.beq κ 2)
    (match slicesIndexFuncF70.shl2.dec s with
    | some v => slicesIndexFuncF70.l2 n (fun w0 => K .ret (slicesIndexFuncF70.outl2e1.enc (w0, ()))) (fun _ => K (.exit 0) (slicesIndexFuncF70.outl2e2.enc (()))) n v.1 v.2.1 v.2.2.1
    | none => loops n (RT slicesIndexFuncF70.con.rs × BT slicesIndexFuncF70.con.ps) lo κ body nm K s)
    (loops n (RT slicesIndexFuncF70.con.rs × BT slicesIndexFuncF70.con.ps) lo κ body nm K s)
theorem slicesIndexFuncF70.atl2 (n : Nat) (s : St) (K : Ex → St → Option (RT slicesIndexFuncF70.con.rs × BT slicesIndexFuncF70.con.ps)) : (slicesIndexFuncF70.lp n) true 2 (evK slicesIndexFuncF70.env (slicesIndexFuncF70.lp n) n (sub [1, 0, 1, 0, 0] slicesIndexFuncF70.body)) slicesIndexFuncF70.nml2 K s = loops n (RT slicesIndexFuncF70.con.rs × BT slicesIndexFuncF70.con.ps) true 2 (evK slicesIndexFuncF70.env (slicesIndexFuncF70.lp n) n (sub [1, 0, 1, 0, 0] slicesIndexFuncF70.body)) slicesIndexFuncF70.nml2 K s := by
  show (match slicesIndexFuncF70.shl2.dec s with | some v => slicesIndexFuncF70.l2 n (fun w0 => K .ret (slicesIndexFuncF70.outl2e1.enc (w0, ()))) (fun _ => K (.exit 0) (slicesIndexFuncF70.outl2e2.enc (()))) n v.1 v.2.1 v.2.2.1 | none => loops n (RT slicesIndexFuncF70.con.rs × BT slicesIndexFuncF70.con.ps) true 2 (evK slicesIndexFuncF70.env (slicesIndexFuncF70.lp n) n (sub [1, 0, 1, 0, 0] slicesIndexFuncF70.body)) slicesIndexFuncF70.nml2 K s) = _
  cases h : slicesIndexFuncF70.shl2.dec s with
  | none => rfl
  | some v =>
    rw [Shp.dec_enc h]
    exact (evLoop_eq (sh := slicesIndexFuncF70.shl2) (body := evK slicesIndexFuncF70.env (slicesIndexFuncF70.lp n) n (sub [1, 0, 1, 0, 0] slicesIndexFuncF70.body)) (nm := slicesIndexFuncF70.nml2) (K := K) (b := fun nx v => slicesIndexFuncF70.b2 n (fun x0 x1 x2 => nx (x0, x1, x2, ())) (fun w0 => K .ret (slicesIndexFuncF70.outl2e1.enc (w0, ()))) (fun _ => K (.exit 0) (slicesIndexFuncF70.outl2e2.enc (()))) v.1 v.2.1 v.2.2.1) (l := fun m v => slicesIndexFuncF70.l2 n (fun w0 => K .ret (slicesIndexFuncF70.outl2e1.enc (w0, ()))) (fun _ => K (.exit 0) (slicesIndexFuncF70.outl2e2.enc (()))) m v.1 v.2.1 v.2.2.1) (fun _ => rfl) (fun _ _ => rfl) (fun m v => by kernel_rfl) n v).symm
theorem slicesIndexFuncF70.eq (n : Nat) (x : PT slicesIndexFuncF70.con.ps) : evFuncO slicesIndexFuncF70.env Tryd.f70 slicesIndexFuncF70.body slicesIndexFuncF70.con.ps slicesIndexFuncF70.con.rs (slicesIndexFuncF70.lp n) n x = slicesIndexFuncF70.con.f n x := by kernel_rfl
theorem slicesIndexFuncF70.sound : SoundO Tryd.prog globs 70 slicesIndexFuncF70.con :=
  sound_byO (E := slicesIndexFuncF70.env) (c := slicesIndexFuncF70.body) (envOk (G := globs) (lc := [(49, eventMay1.con)]) (lo := []) (envB_spec (by kernel_rfl)) rfl rfl ⟨.inl ⟨eventMay1.sound, by kernel_rfl⟩, trivial⟩ rfl trivial (by kernel_rfl) (by kernel_rfl)) Tryd.func70 (by kernel_rfl) (by kernel_rfl) (by kernel_rfl) slicesIndexFuncF70.lp (l := [(true, sub [1, 0, 1, 0, 0] slicesIndexFuncF70.body, slicesIndexFuncF70.nml2)]) (by kernel_rfl) (fun n => ⟨slicesIndexFuncF70.atl2 n, trivial⟩) slicesIndexFuncF70.eq
noncomputable def slicesContainsFuncF48 (fu : Nat) (sv : List S0) : Option ((Bool × Unit) × (Unit)) :=
  (slicesIndexFuncF70 fu sv).bind fun r1 =>
  let t2 := decide (r1.1.1 ≥ (0 : Int))
  some ((t2, ()), (()))

noncomputable def slicesContainsFuncF48.body : Code := Tryd.f48.body.getD .skip
noncomputable def slicesContainsFuncF48.con : OCon := { ps := [.dat (.slice kS0), .fn 49], rs := [.dat .bool], f := fun n x => slicesContainsFuncF48 n x.1 }
noncomputable def slicesContainsFuncF48.env : Env := { tys := [(4, ⟨.bool, 1⟩)], elems := [], ptrs := [], cons := [], objs := [(70, [slicesIndexFuncF70.con])], loops := [], cuts := [], globs := globs, base := 0 }
noncomputable def slicesContainsFuncF48.lp (n : Nat) : LP (RT slicesContainsFuncF48.con.rs × BT slicesContainsFuncF48.con.ps) := fun lo κ body nm K s =>
  loops n (RT slicesContainsFuncF48.con.rs × BT slicesContainsFuncF48.con.ps) lo κ body nm K s
theorem slicesContainsFuncF48.eq (n : Nat) (x : PT slicesContainsFuncF48.con.ps) : evFuncO slicesContainsFuncF48.env Tryd.f48 slicesContainsFuncF48.body slicesContainsFuncF48.con.ps slicesContainsFuncF48.con.rs (slicesContainsFuncF48.lp n) n x = slicesContainsFuncF48.con.f n x := by kernel_rfl
theorem slicesContainsFuncF48.sound : SoundO Tryd.prog globs 48 slicesContainsFuncF48.con :=
  sound_byO (E := slicesContainsFuncF48.env) (c := slicesContainsFuncF48.body) (envOk (G := globs) (lc := []) (lo := [(70, [slicesIndexFuncF70.con])]) (envB_spec (by kernel_rfl)) rfl rfl trivial rfl ⟨⟨⟨slicesIndexFuncF70.sound, trivial⟩, by kernel_rfl⟩, trivial⟩ (by kernel_rfl) (by kernel_rfl)) Tryd.func48 (by kernel_rfl) (by kernel_rfl) (by kernel_rfl) slicesContainsFuncF48.lp (l := []) (by kernel_rfl) (fun n => trivial) slicesContainsFuncF48.eq
noncomputable def eventMay (fu : Nat) (ev : S3) : Option (Bool × Unit) :=
  let t1 := decide ((ev.2.1.length : Int) ≤ (8 : Int))
  cond t1 (
    (slicesContainsFuncF48 fu ev.2.1).bind fun r2 =>
    some (!r2.1.1, ())) (
    some (false, ()))

noncomputable def eventMay.body : Code := Tryd.f27.body.getD .skip
noncomputable def eventMay.con : Con := { ps := [kS3], rs := [.bool], f := fun n x => eventMay n x.1 }
noncomputable def eventMay.env : Env := { tys := [(34, ⟨kS3, 32⟩), (4, ⟨.bool, 1⟩), (32, ⟨(.slice kS0), 24⟩), (46, ⟨kS0, 40⟩)], elems := [(32, 46)], ptrs := [], cons := [], objs := [(48, [slicesContainsFuncF48.con])], loops := [], cuts := [], globs := globs, base := 0 }
noncomputable def eventMay.lp (n : Nat) : LP (Kd.struct eventMay.con.rs).T := fun lo κ body nm K s =>
  loops n (Kd.struct eventMay.con.rs).T lo κ body nm K s
theorem eventMay.eq (n : Nat) (x : (Kd.struct eventMay.con.ps).T) : evFunc eventMay.env Tryd.f27 eventMay.body eventMay.con.ps eventMay.con.rs (eventMay.lp n) n x = eventMay.con.f n x := by kernel_rfl
theorem eventMay.sound : Sound Tryd.prog globs 27 eventMay.con :=
  sound_by (E := eventMay.env) (c := eventMay.body) (envOk (G := globs) (lc := []) (lo := [(48, [slicesContainsFuncF48.con])]) (envB_spec (by kernel_rfl)) rfl rfl trivial rfl ⟨⟨⟨slicesContainsFuncF48.sound, trivial⟩, by kernel_rfl⟩, trivial⟩ (by kernel_rfl) (by kernel_rfl)) Tryd.func27 (by kernel_rfl) eventMay.lp (l := []) (by kernel_rfl) (fun n => trivial) eventMay.eq
noncomputable def stringsliteHasPrefix (fu : Nat) (sv : List Int) (prefixv : List Int) : Option (Bool × Unit) :=
  let t1 := decide ((sv.length : Int) ≥ (prefixv.length : Int))
  cond t1 (
    chk (cutOk sv (0 : Int) (prefixv.length : Int)) <|
    let t2 := cutL sv (0 : Int) (prefixv.length : Int)
    some (t2 == prefixv, ())) (
    some (false, ()))

noncomputable def stringsliteHasPrefix.body : Code := Tryd.f71.body.getD .skip
noncomputable def stringsliteHasPrefix.con : Con := { ps := [.str, .str], rs := [.bool], f := fun n x => stringsliteHasPrefix n x.1 x.2.1 }
noncomputable def stringsliteHasPrefix.env : Env := { tys := [(4, ⟨.bool, 1⟩), (9, ⟨.str, 16⟩)], elems := [], ptrs := [], cons := [], objs := [], loops := [], cuts := [], globs := globs, base := 0 }
noncomputable def stringsliteHasPrefix.lp (n : Nat) : LP (Kd.struct stringsliteHasPrefix.con.rs).T := fun lo κ body nm K s =>
  loops n (Kd.struct stringsliteHasPrefix.con.rs).T lo κ body nm K s
theorem stringsliteHasPrefix.eq (n : Nat) (x : (Kd.struct stringsliteHasPrefix.con.ps).T) : evFunc stringsliteHasPrefix.env Tryd.f71 stringsliteHasPrefix.body stringsliteHasPrefix.con.ps stringsliteHasPrefix.con.rs (stringsliteHasPrefix.lp n) n x = stringsliteHasPrefix.con.f n x := by kernel_rfl
theorem stringsliteHasPrefix.sound : Sound Tryd.prog globs 71 stringsliteHasPrefix.con :=
  sound_by (E := stringsliteHasPrefix.env) (c := stringsliteHasPrefix.body) (envOk (G := globs) (lc := []) (lo := []) (envB_spec (by kernel_rfl)) rfl rfl trivial rfl trivial (by kernel_rfl) (by kernel_rfl)) Tryd.func71 (by kernel_rfl) stringsliteHasPrefix.lp (l := []) (by kernel_rfl) (fun n => trivial) stringsliteHasPrefix.eq
noncomputable def stringsHasPrefix (fu : Nat) (sv : List Int) (prefixv : List Int) : Option (Bool × Unit) :=
  (stringsliteHasPrefix fu sv prefixv).bind fun r1 =>
  some (r1.1, ())

noncomputable def stringsHasPrefix.body : Code := Tryd.f50.body.getD .skip
noncomputable def stringsHasPrefix.con : Con := { ps := [.str, .str], rs := [.bool], f := fun n x => stringsHasPrefix n x.1 x.2.1 }
noncomputable def stringsHasPrefix.env : Env := { tys := [(4, ⟨.bool, 1⟩)], elems := [], ptrs := [], cons := [(71, stringsliteHasPrefix.con)], objs := [], loops := [], cuts := [], globs := globs, base := 0 }
noncomputable def stringsHasPrefix.lp (n : Nat) : LP (Kd.struct stringsHasPrefix.con.rs).T := fun lo κ body nm K s =>
  loops n (Kd.struct stringsHasPrefix.con.rs).T lo κ body nm K s
theorem stringsHasPrefix.eq (n : Nat) (x : (Kd.struct stringsHasPrefix.con.ps).T) : evFunc stringsHasPrefix.env Tryd.f50 stringsHasPrefix.body stringsHasPrefix.con.ps stringsHasPrefix.con.rs (stringsHasPrefix.lp n) n x = stringsHasPrefix.con.f n x := by kernel_rfl
theorem stringsHasPrefix.sound : Sound Tryd.prog globs 50 stringsHasPrefix.con :=
  sound_by (E := stringsHasPrefix.env) (c := stringsHasPrefix.body) (envOk (G := globs) (lc := [(71, stringsliteHasPrefix.con)]) (lo := []) (envB_spec (by kernel_rfl)) rfl rfl ⟨.inl ⟨stringsliteHasPrefix.sound, by kernel_rfl⟩, trivial⟩ rfl trivial (by kernel_rfl) (by kernel_rfl)) Tryd.func50 (by kernel_rfl) stringsHasPrefix.lp (l := []) (by kernel_rfl) (fun n => trivial) stringsHasPrefix.eq
noncomputable def bytealgCompareString (fu : Nat) (a : List Int) (b : List Int) : Option (Int × Unit) :=
  (extCmp.f fu (a, b, ())).bind fun r1 =>
  some (r1.1, ())

noncomputable def bytealgCompareString.body : Code := Tryd.f83.body.getD .skip
noncomputable def bytealgCompareString.con : Con := { ps := [.str, .str], rs := [(.int .i64)], f := fun n x => bytealgCompareString n x.1 x.2.1 }
noncomputable def bytealgCompareString.env : Env := { tys := [(3, ⟨(.int .i64), 8⟩)], elems := [], ptrs := [], cons := [(87, extCmp)], objs := [], loops := [], cuts := [], globs := globs, base := 0 }
noncomputable def bytealgCompareString.lp (n : Nat) : LP (Kd.struct bytealgCompareString.con.rs).T := fun lo κ body nm K s =>
  loops n (Kd.struct bytealgCompareString.con.rs).T lo κ body nm K s
theorem bytealgCompareString.eq (n : Nat) (x : (Kd.struct bytealgCompareString.con.ps).T) : evFunc bytealgCompareString.env Tryd.f83 bytealgCompareString.body bytealgCompareString.con.ps bytealgCompareString.con.rs (bytealgCompareString.lp n) n x = bytealgCompareString.con.f n x := by kernel_rfl
theorem bytealgCompareString.sound : Sound Tryd.prog globs 83 bytealgCompareString.con :=
  sound_by (E := bytealgCompareString.env) (c := bytealgCompareString.body) (envOk (G := globs) (lc := [(87, extCmp)]) (lo := []) (envB_spec (by kernel_rfl)) rfl rfl ⟨.inr (extCmp_ok Tryd.func87 (by kernel_rfl) (by kernel_rfl) (by kernel_rfl) (by kernel_rfl)), trivial⟩ rfl trivial (by kernel_rfl) (by kernel_rfl)) Tryd.func83 (by kernel_rfl) bytealgCompareString.lp (l := []) (by kernel_rfl) (fun n => trivial) bytealgCompareString.eq
noncomputable def stringsCompare (fu : Nat) (a : List Int) (b : List Int) : Option (Int × Unit) :=
  (bytealgCompareString fu a b).bind fun r1 =>
  some (r1.1, ())

noncomputable def stringsCompare.body : Code := Tryd.f72.body.getD .skip
noncomputable def stringsCompare.con : Con := { ps := [.str, .str], rs := [(.int .i64)], f := fun n x => stringsCompare n x.1 x.2.1 }
noncomputable def stringsCompare.env : Env := { tys := [(3, ⟨(.int .i64), 8⟩)], elems := [], ptrs := [], cons := [(83, bytealgCompareString.con)], objs := [], loops := [], cuts := [], globs := globs, base := 0 }
noncomputable def stringsCompare.lp (n : Nat) : LP (Kd.struct stringsCompare.con.rs).T := fun lo κ body nm K s =>
  loops n (Kd.struct stringsCompare.con.rs).T lo κ body nm K s
theorem stringsCompare.eq (n : Nat) (x : (Kd.struct stringsCompare.con.ps).T) : evFunc stringsCompare.env Tryd.f72 stringsCompare.body stringsCompare.con.ps stringsCompare.con.rs (stringsCompare.lp n) n x = stringsCompare.con.f n x := by kernel_rfl
theorem stringsCompare.sound : Sound Tryd.prog globs 72 stringsCompare.con :=
  sound_by (E := stringsCompare.env) (c := stringsCompare.body) (envOk (G := globs) (lc := [(83, bytealgCompareString.con)]) (lo := []) (envB_spec (by kernel_rfl)) rfl rfl ⟨.inl ⟨bytealgCompareString.sound, by kernel_rfl⟩, trivial⟩ rfl trivial (by kernel_rfl) (by kernel_rfl)) Tryd.func72 (by kernel_rfl) stringsCompare.lp (l := []) (by kernel_rfl) (fun n => trivial) stringsCompare.eq
noncomputable def realCompare (fu : Nat) (a : Nat) (b : Nat) : Option (Int × Bool × Unit) :=
  cond (fLss a b) (
    some ((-1 : Int), true, ())) (
    cond (fGtr a b) (
      some ((1 : Int), true, ())) (
      some ((0 : Int), fEql a b, ())))

noncomputable def realCompare.body : Code := Tryd.f73.body.getD .skip
noncomputable def realCompare.con : Con := { ps := [.flt, .flt], rs := [(.int .i64), .bool], f := fun n x => realCompare n x.1 x.2.1 }
noncomputable def realCompare.env : Env := { tys := [(3, ⟨(.int .i64), 8⟩), (4, ⟨.bool, 1⟩)], elems := [], ptrs := [], cons := [], objs := [], loops := [], cuts := [], globs := globs, base := 0 }
noncomputable def realCompare.lp (n : Nat) : LP (Kd.struct realCompare.con.rs).T := fun lo κ body nm K s =>
  loops n (Kd.struct realCompare.con.rs).T lo κ body nm K s
theorem realCompare.eq (n : Nat) (x : (Kd.struct realCompare.con.ps).T) : evFunc realCompare.env Tryd.f73 realCompare.body realCompare.con.ps realCompare.con.rs (realCompare.lp n) n x = realCompare.con.f n x := by kernel_rfl
theorem realCompare.sound : Sound Tryd.prog globs 73 realCompare.con :=
  sound_by (E := realCompare.env) (c := realCompare.body) (envOk (G := globs) (lc := []) (lo := []) (envB_spec (by kernel_rfl)) rfl rfl trivial rfl trivial (by kernel_rfl) (by kernel_rfl)) Tryd.func73 (by kernel_rfl) realCompare.lp (l := []) (by kernel_rfl) (fun n => trivial) realCompare.eq
noncomputable def mathFloor (fu : Nat) (xv : Nat) : Option (Nat × Unit) :=
  (extFloor.f fu (xv, ())).bind fun r1 =>
  some (r1.1, ())

noncomputable def mathFloor.body : Code := Tryd.f84.body.getD .skip
noncomputable def mathFloor.con : Con := { ps := [.flt], rs := [.flt], f := fun n x => mathFloor n x.1 }
noncomputable def mathFloor.env : Env := { tys := [(44, ⟨.flt, 8⟩)], elems := [], ptrs := [], cons := [(88, extFloor)], objs := [], loops := [], cuts := [], globs := globs, base := 0 }
noncomputable def mathFloor.lp (n : Nat) : LP (Kd.struct mathFloor.con.rs).T := fun lo κ body nm K s =>
  loops n (Kd.struct mathFloor.con.rs).T lo κ body nm K s
theorem mathFloor.eq (n : Nat) (x : (Kd.struct mathFloor.con.ps).T) : evFunc mathFloor.env Tryd.f84 mathFloor.body mathFloor.con.ps mathFloor.con.rs (mathFloor.lp n) n x = mathFloor.con.f n x := by kernel_rfl
theorem mathFloor.sound : Sound Tryd.prog globs 84 mathFloor.con :=
  sound_by (E := mathFloor.env) (c := mathFloor.body) (envOk (G := globs) (lc := [(88, extFloor)]) (lo := []) (envB_spec (by kernel_rfl)) rfl rfl ⟨.inr (extFloor_ok Tryd.func88 (by kernel_rfl) (by kernel_rfl) (by kernel_rfl) (by kernel_rfl)), trivial⟩ rfl trivial (by kernel_rfl) (by kernel_rfl)) Tryd.func84 (by kernel_rfl) mathFloor.lp (l := []) (by kernel_rfl) (fun n => trivial) mathFloor.eq
noncomputable def cmpIsNaN (fu : Nat) (xv : Int) : Option (Bool × Unit) :=
  some (xv != xv, ())

noncomputable def cmpIsNaN.body : Code := Tryd.f90.body.getD .skip
noncomputable def cmpIsNaN.con : Con := { ps := [(.int .i64)], rs := [.bool], f := fun n x => cmpIsNaN n x.1 }
noncomputable def cmpIsNaN.env : Env := { tys := [(4, ⟨.bool, 1⟩)], elems := [], ptrs := [], cons := [], objs := [], loops := [], cuts := [], globs := globs, base := 0 }
noncomputable def cmpIsNaN.lp (n : Nat) : LP (Kd.struct cmpIsNaN.con.rs).T := fun lo κ body nm K s =>
  loops n (Kd.struct cmpIsNaN.con.rs).T lo κ body nm K s
theorem cmpIsNaN.eq (n : Nat) (x : (Kd.struct cmpIsNaN.con.ps).T) : evFunc cmpIsNaN.env Tryd.f90 cmpIsNaN.body cmpIsNaN.con.ps cmpIsNaN.con.rs (cmpIsNaN.lp n) n x = cmpIsNaN.con.f n x := by kernel_rfl
theorem cmpIsNaN.sound : Sound Tryd.prog globs 90 cmpIsNaN.con :=
  sound_by (E := cmpIsNaN.env) (c := cmpIsNaN.body) (envOk (G := globs) (lc := []) (lo := []) (envB_spec (by kernel_rfl)) rfl rfl trivial rfl trivial (by kernel_rfl) (by kernel_rfl)) Tryd.func90 (by kernel_rfl) cmpIsNaN.lp (l := []) (by kernel_rfl) (fun n => trivial) cmpIsNaN.eq
noncomputable def cmpCompare (fu : Nat) (xv : Int) (yv : Int) : Option (Int × Unit) :=
  (cmpIsNaN fu xv).bind fun r1 =>
  (cmpIsNaN fu yv).bind fun r2 =>
  cond r1.1 (
    cond r2.1 (
      some ((0 : Int), ())) (
      some ((-1 : Int), ()))) (
    cond r2.1 (
      some ((1 : Int), ())) (
      cond (decide (xv < yv)) (
        some ((-1 : Int), ())) (
        cond (decide (xv > yv)) (
          some ((1 : Int), ())) (
          some ((0 : Int), ())))))

noncomputable def cmpCompare.body : Code := Tryd.f85.body.getD .skip
noncomputable def cmpCompare.con : Con := { ps := [(.int .i64), (.int .i64)], rs := [(.int .i64)], f := fun n x => cmpCompare n x.1 x.2.1 }
noncomputable def cmpCompare.env : Env := { tys := [(3, ⟨(.int .i64), 8⟩)], elems := [], ptrs := [], cons := [(90, cmpIsNaN.con)], objs := [], loops := [], cuts := [], globs := globs, base := 0 }
noncomputable def cmpCompare.lp (n : Nat) : LP (Kd.struct cmpCompare.con.rs).T := fun lo κ body nm K s =>
  loops n (Kd.struct cmpCompare.con.rs).T lo κ body nm K s
theorem cmpCompare.eq (n : Nat) (x : (Kd.struct cmpCompare.con.ps).T) : evFunc cmpCompare.env Tryd.f85 cmpCompare.body cmpCompare.con.ps cmpCompare.con.rs (cmpCompare.lp n) n x = cmpCompare.con.f n x := by kernel_rfl
theorem cmpCompare.sound : Sound Tryd.prog globs 85 cmpCompare.con :=
  sound_by (E := cmpCompare.env) (c := cmpCompare.body) (envOk (G := globs) (lc := [(90, cmpIsNaN.con)]) (lo := []) (envB_spec (by kernel_rfl)) rfl rfl ⟨.inl ⟨cmpIsNaN.sound, by kernel_rfl⟩, trivial⟩ rfl trivial (by kernel_rfl) (by kernel_rfl)) Tryd.func85 (by kernel_rfl) cmpCompare.lp (l := []) (by kernel_rfl) (fun n => trivial) cmpCompare.eq
noncomputable def realAgainst (fu : Nat) (n : Int) (xv : Nat) : Option (Int × Bool × Unit) :=
  cond (fNeq xv xv) (
    some ((0 : Int), false, ())) (
    let t1 := fGeq xv (4890909195324358656 : Nat)
    cond t1 (
      some ((-1 : Int), true, ())) (
      let t2 := fLss xv (14114281232179134464 : Nat)
      cond t2 (
        some ((1 : Int), true, ())) (
        (mathFloor fu xv).bind fun r3 =>
        chk (fIntOk .i64 r3.1) <|
        (cmpCompare fu n (fInt .i64 r3.1)).bind fun r4 =>
        cond (r4.1 == (0 : Int)) (
          cond (fGtr xv r3.1) (
            some ((-1 : Int), true, ())) (
            some (r4.1, true, ()))) (
          some (r4.1, true, ())))))

noncomputable def realAgainst.body : Code := Tryd.f74.body.getD .skip
noncomputable def realAgainst.con : Con := { ps := [(.int .i64), .flt], rs := [(.int .i64), .bool], f := fun n x => realAgainst n x.1 x.2.1 }
noncomputable def realAgainst.env : Env := { tys := [(3, ⟨(.int .i64), 8⟩), (4, ⟨.bool, 1⟩), (2, ⟨(.int .i64), 8⟩), (44, ⟨.flt, 8⟩)], elems := [], ptrs := [], cons := [(84, mathFloor.con), (85, cmpCompare.con)], objs := [], loops := [], cuts := [], globs := globs, base := 0 }
noncomputable def realAgainst.lp (n : Nat) : LP (Kd.struct realAgainst.con.rs).T := fun lo κ body nm K s =>
  loops n (Kd.struct realAgainst.con.rs).T lo κ body nm K s
theorem realAgainst.eq (n : Nat) (x : (Kd.struct realAgainst.con.ps).T) : evFunc realAgainst.env Tryd.f74 realAgainst.body realAgainst.con.ps realAgainst.con.rs (realAgainst.lp n) n x = realAgainst.con.f n x := by kernel_rfl
theorem realAgainst.sound : Sound Tryd.prog globs 74 realAgainst.con :=
  sound_by (E := realAgainst.env) (c := realAgainst.body) (envOk (G := globs) (lc := [(84, mathFloor.con), (85, cmpCompare.con)]) (lo := []) (envB_spec (by kernel_rfl)) rfl rfl ⟨.inl ⟨mathFloor.sound, by kernel_rfl⟩, ⟨.inl ⟨cmpCompare.sound, by kernel_rfl⟩, trivial⟩⟩ rfl trivial (by kernel_rfl) (by kernel_rfl)) Tryd.func74 (by kernel_rfl) realAgainst.lp (l := []) (by kernel_rfl) (fun n => trivial) realAgainst.eq
noncomputable def valueCompare (fu : Nat) (a : S0) (b : S0) : Option (Int × Bool × Unit) :=
  (valueMay fu a).bind fun r1 =>
  cond (!r1.1) (
    some ((0 : Int), false, ())) (
    (valueMay fu b).bind fun r2 =>
    cond (!r2.1) (
      some ((0 : Int), false, ())) (
      let t3 := [List.getD ([a.1, b.1]) 0 (0 : Int), List.getD ([a.1, b.1]) 1 (0 : Int)]
      let t4 := t3 == ([(3 : Int), (3 : Int)])
      cond t4 (
        (stringsCompare fu a.2.2.2.1 b.2.2.2.1).bind fun r5 =>
        some (r5.1, true, ())) (
        let t6 := [List.getD ([a.1, b.1]) 0 (0 : Int), List.getD ([a.1, b.1]) 1 (0 : Int)]
        let t7 := t6 == ([(2 : Int), (2 : Int)])
        cond t7 (
          (realCompare fu a.2.2.1 b.2.2.1).bind fun r8 =>
          some (r8.1, r8.2.1, ())) (
          let t9 := [List.getD ([a.1, b.1]) 0 (0 : Int), List.getD ([a.1, b.1]) 1 (0 : Int)]
          let t10 := t9 == ([(1 : Int), (2 : Int)])
          cond t10 (
            (realAgainst fu a.2.1 b.2.2.1).bind fun r11 =>
            some (r11.1, r11.2.1, ())) (
            let t12 := [List.getD ([a.1, b.1]) 0 (0 : Int), List.getD ([a.1, b.1]) 1 (0 : Int)]
            let t13 := t12 == ([(2 : Int), (1 : Int)])
            cond t13 (
              (realAgainst fu b.2.1 a.2.2.1).bind fun r14 =>
              let t15 := IntKind.i64.wrap (0 - r14.1)
              some (t15, r14.2.1, ())) (
              let t16 := [List.getD ([a.1, b.1]) 0 (0 : Int), List.getD ([a.1, b.1]) 1 (0 : Int)]
              let t17 := t16 == ([(1 : Int), (1 : Int)])
              cond t17 (
                cond (decide (a.2.1 < b.2.1)) (
                  some ((-1 : Int), true, ())) (
                  cond (decide (a.2.1 > b.2.1)) (
                    some ((1 : Int), true, ())) (
                    some ((0 : Int), true, ())))) (
                some ((0 : Int), false, ()))))))))

noncomputable def valueCompare.body : Code := Tryd.f51.body.getD .skip
noncomputable def valueCompare.con : Con := { ps := [kS0, kS0], rs := [(.int .i64), .bool], f := fun n x => valueCompare n x.1 x.2.1 }
noncomputable def valueCompare.env : Env := { tys := [(46, ⟨kS0, 40⟩), (3, ⟨(.int .i64), 8⟩), (4, ⟨.bool, 1⟩), (5, ⟨(.int .u8), 1⟩), (113, ⟨(.arr 2 (.int .u8)), 2⟩), (9, ⟨.str, 16⟩), (44, ⟨.flt, 8⟩), (2, ⟨(.int .i64), 8⟩)], elems := [], ptrs := [], cons := [(47, valueMay.con), (72, stringsCompare.con), (73, realCompare.con), (74, realAgainst.con)], objs := [], loops := [], cuts := [], globs := globs, base := 0 }
noncomputable def valueCompare.lp (n : Nat) : LP (Kd.struct valueCompare.con.rs).T := fun lo κ body nm K s =>
  loops n (Kd.struct valueCompare.con.rs).T lo κ body nm K s
theorem valueCompare.eq (n : Nat) (x : (Kd.struct valueCompare.con.ps).T) : evFunc valueCompare.env Tryd.f51 valueCompare.body valueCompare.con.ps valueCompare.con.rs (valueCompare.lp n) n x = valueCompare.con.f n x := by kernel_rfl
theorem valueCompare.sound : Sound Tryd.prog globs 51 valueCompare.con :=
  sound_by (E := valueCompare.env) (c := valueCompare.body) (envOk (G := globs) (lc := [(47, valueMay.con), (72, stringsCompare.con), (73, realCompare.con), (74, realAgainst.con)]) (lo := []) (envB_spec (by kernel_rfl)) rfl rfl ⟨.inl ⟨valueMay.sound, by kernel_rfl⟩, ⟨.inl ⟨stringsCompare.sound, by kernel_rfl⟩, ⟨.inl ⟨realCompare.sound, by kernel_rfl⟩, ⟨.inl ⟨realAgainst.sound, by kernel_rfl⟩, trivial⟩⟩⟩⟩ rfl trivial (by kernel_rfl) (by kernel_rfl)) Tryd.func51 (by kernel_rfl) valueCompare.lp (l := []) (by kernel_rfl) (fun n => trivial) valueCompare.eq
noncomputable def predHoldsF28 (fu : Nat) (tv : S1) (fields : List S0) : Option (Bool × Unit) :=
  let t1 := decide (IntKind.i64.wrap tv.1 ≥ (fields.length : Int))
  cond t1 (
    some (false, ())) (
    chk (ixOk fields tv.1) <|
    let e2 := ixL ((0 : Int), (0 : Int), (0 : Nat), [], ()) fields tv.1
    cond (tv.2.1 == (7 : Int)) (
      some (e2.1 != (0 : Int), ())) (
      cond (tv.2.1 == (8 : Int)) (
        cond (e2.1 == (3 : Int)) (
          (stringsHasPrefix fu e2.2.2.2.1 tv.2.2.1.2.2.2.1).bind fun r3 =>
          some (r3.1, ())) (
          some (false, ()))) (
        (valueCompare fu e2 tv.2.2.1).bind fun r4 =>
        cond r4.2.1 (
          let t5 := IntKind.i64.wrap (r4.1 + (1 : Int))
          chk (ixArr 7 tv.2.1) <|
          let e6 := ixL (List.replicate 3 false) tabPredSays tv.2.1
          chk (ixArr 3 t5) <|
          let e7 := ixL false e6 t5
          some (e7, ())) (
          some (false, ())))))

noncomputable def predHoldsF28.body : Code := Tryd.f28.body.getD .skip
noncomputable def predHoldsF28.con : Con := { ps := [kS1, (.slice kS0)], rs := [.bool], f := fun n x => predHoldsF28 n x.1 x.2.1 }
noncomputable def predHoldsF28.env : Env := { tys := [(50, ⟨kS1, 48⟩), (4, ⟨.bool, 1⟩), (5, ⟨(.int .u8), 1⟩), (3, ⟨(.int .i64), 8⟩), (46, ⟨kS0, 40⟩), (9, ⟨.str, 16⟩), (93, ⟨(.arr 7 (.arr 3 .bool)), 21⟩), (92, ⟨(.arr 3 .bool), 3⟩)], elems := [(32, 46)], ptrs := [], cons := [(50, stringsHasPrefix.con), (51, valueCompare.con)], objs := [], loops := [], cuts := [], globs := globs, base := 0 }
noncomputable def predHoldsF28.lp (n : Nat) : LP (Kd.struct predHoldsF28.con.rs).T := fun lo κ body nm K s =>
  loops n (Kd.struct predHoldsF28.con.rs).T lo κ body nm K s
theorem predHoldsF28.eq (n : Nat) (x : (Kd.struct predHoldsF28.con.ps).T) : evFunc predHoldsF28.env Tryd.f28 predHoldsF28.body predHoldsF28.con.ps predHoldsF28.con.rs (predHoldsF28.lp n) n x = predHoldsF28.con.f n x := by kernel_rfl
theorem predHoldsF28.sound : Sound Tryd.prog globs 28 predHoldsF28.con :=
  sound_by (E := predHoldsF28.env) (c := predHoldsF28.body) (envOk (G := globs) (lc := [(50, stringsHasPrefix.con), (51, valueCompare.con)]) (lo := []) (envB_spec (by kernel_rfl)) rfl rfl ⟨.inl ⟨stringsHasPrefix.sound, by kernel_rfl⟩, ⟨.inl ⟨valueCompare.sound, by kernel_rfl⟩, trivial⟩⟩ rfl trivial (by kernel_rfl) (by kernel_rfl)) Tryd.func28 (by kernel_rfl) predHoldsF28.lp (l := []) (by kernel_rfl) (fun n => trivial) predHoldsF28.eq
noncomputable def predHolds.b4 (fu : Nat) (next : (List S1) → Int → Int → S3 → Option (Bool × Unit)) (k1 : Bool → Option (Bool × Unit)) (k2 : Unit → Option (Bool × Unit)) (v : List S1) (vx2 : Int) (vx3 : Int) (b1 : S3) : Option (Bool × Unit) :=
  cond (decide (vx3 < vx2)) (
    chk (ixOk v vx3) <|
    let e1 := ixL ((0 : Int), (0 : Int), ((0 : Int), (0 : Int), (0 : Nat), [], ()), ()) v vx3
    (predHoldsF28 fu e1 b1.2.1).bind fun r2 =>
    cond (!r2.1) (
      k1 false) (
      let t3 := IntKind.i64.wrap (vx3 + (1 : Int))
      next v vx2 t3 b1)) (
    k2 ())
noncomputable def predHolds.l4 (fu : Nat) (k1 : Bool → Option (Bool × Unit)) (k2 : Unit → Option (Bool × Unit)) : Nat → (List S1) → Int → Int → S3 → Option (Bool × Unit)
  | 0, _, _, _, _ => none
  | m + 1, v, vx2, vx3, b1 => predHolds.b4 fu (predHolds.l4 fu k1 k2 m) k1 k2 v vx2 vx3 b1
noncomputable def predHolds.j3 (fu : Nat) (k1 : Bool → Option (Bool × Unit)) (b0 : S2) (b1 : S3) : Option (Bool × Unit) :=
  predHolds.l4 fu (fun vq5 => 
      k1 vq5) (fun (_ : Unit) => 
      k1 true) fu b0.2.2.1 (b0.2.2.1.length : Int) (0 : Int) b1
noncomputable def predHolds (fu : Nat) (p : S2) (ev : S3) : Option (Bool × Unit) :=
  (predMay fu p).bind fun r1 =>
  cond (!r1.1) (
    some (false, ())) (
    (eventMay fu ev).bind fun r2 =>
    cond (!r2.1) (
      some (false, ())) (
      cond (!p.1) (
        cond (p.2.1 != ev.1) (
          some (false, ())) (
          predHolds.j3 fu (fun vq1 => 
              some (vq1, ())) p ev)) (
        predHolds.j3 fu (fun vq2 => 
            some (vq2, ())) p ev)))

noncomputable def predHolds.body : Code := Tryd.f14.body.getD .skip
abbrev predHolds.shl4 : Shp := ⟨[.u, .u, .u, .p 1 0, .u, .u, .u, .u, .u, .u, .u, .u, .u, .u, .u, .u, .u, .u, .u, .u, .u, .u, .u, .u, .u, .u, .u, .u, .d (.slice kS1), .d (.int .i64), .d (.int .i64), .u, .u, .u, .u, .u, .u, .u, .u, .u], [.c [.u, .u, .u], .c [.g kS3]]⟩
abbrev predHolds.outl4e1 : Shp := ⟨[.u, .u, .u, .u, .d .bool, .u, .u, .u, .u, .u, .u, .u, .u, .u, .u, .u, .u, .u, .u, .u, .u, .u, .u, .u, .u, .u, .u, .u, .u, .u, .u, .u, .u, .u, .u, .u, .u, .u, .u, .u], []⟩
abbrev predHolds.outl4e2 : Shp := ⟨[.u, .u, .u, .u, .u, .u, .u, .u, .u, .u, .u, .u, .u, .u, .u, .u, .u, .u, .u, .u, .u, .u, .u, .u, .u, .u, .u, .u, .u, .u, .u, .u, .u, .u, .u, .u, .u, .u, .u, .u], []⟩
noncomputable def predHolds.nml4 : Norm := ⟨{ keep := [3, 28, 29, 30], shut := [(28, (.slice kS1)), (29, (.int .i64)), (30, (.int .i64))], retag := [], heap := 2, dead := [0], cshut := [(1, 0, (.int .u8)), (1, 1, (.slice kS0))], cretag := [] }, [(1, { keep := [4], shut := [(4, .bool)], retag := [], heap := 0, dead := [], cshut := [], cretag := [] }), (2, { keep := [], shut := [], retag := [], heap := 0, dead := [], cshut := [], cretag := [] })]⟩
abbrev predHolds.shj3 : Shp := ⟨[.u, .u, .p 0 0, .p 1 0, .u, .u, .u, .u, .u, .u, .u, .u, .u, .u, .u, .u, .u, .u, .u, .u, .u, .u, .u, .u, .u, .u, .u, .u, .u, .u, .u, .u, .u, .u, .u, .u, .u, .u, .u, .u], [.c [.g kS2], .c [.g kS3]]⟩
abbrev predHolds.outj3e1 : Shp := ⟨[.u, .u, .u, .u, .d .bool, .u, .u, .u, .u, .u, .u, .u, .u, .u, .u, .u, .u, .u, .u, .u, .u, .u, .u, .u, .u, .u, .u, .u, .u, .u, .u, .u, .u, .u, .u, .u, .u, .u, .u, .u], []⟩
noncomputable def predHolds.nmj3 : Norm := ⟨{ keep := [2, 3], shut := [], retag := [], heap := 2, dead := [], cshut := [(0, 0, .bool), (0, 1, (.int .u8)), (0, 2, (.slice kS1)), (1, 0, (.int .u8)), (1, 1, (.slice kS0))], cretag := [] }, [(1, { keep := [4], shut := [(4, .bool)], retag := [], heap := 0, dead := [], cshut := [], cretag := [] })]⟩
noncomputable def predHolds.con : Con := { ps := [kS2, kS3], rs := [.bool], f := fun n x => predHolds n x.1 x.2.1 }
noncomputable def predHolds.env : Env := { tys := [(30, ⟨kS2, 32⟩), (34, ⟨kS3, 32⟩), (4, ⟨.bool, 1⟩), (5, ⟨(.int .u8), 1⟩), (28, ⟨(.slice kS1), 24⟩), (50, ⟨kS1, 48⟩), (3, ⟨(.int .i64), 8⟩), (32, ⟨(.slice kS0), 24⟩)], elems := [(28, 50)], ptrs := [], cons := [(12, predMay.con), (27, eventMay.con), (28, predHoldsF28.con)], objs := [], loops := [(4, predHolds.nml4)], cuts := [(3, predHolds.nmj3)], globs := globs, base := 0 }
noncomputable def predHolds.lp (n : Nat) : LP (Kd.struct predHolds.con.rs).T := fun lo κ body nm K s =>
  cond (lo && Nat.beq κ 4)
    (match predHolds.shl4.dec s with
    | some v => predHolds.l4 n (fun w0 => K .ret (predHolds.outl4e1.enc (w0, ()))) (fun _ => K (.exit 0) (predHolds.outl4e2.enc (()))) n v.1 v.2.1 v.2.2.1 v.2.2.2.1
    | none => loops n (Kd.struct predHolds.con.rs).T lo κ body nm K s)
    (cond (!lo && Nat.beq κ 3)
    (match predHolds.shj3.dec s with
    | some v => predHolds.j3 n (fun w0 => K .ret (predHolds.outj3e1.enc (w0, ()))) v.1 v.2.1
    | none => loops n (Kd.struct predHolds.con.rs).T lo κ body nm K s)
    (loops n (Kd.struct predHolds.con.rs).T lo κ body nm K s))
theorem predHolds.atl4 (n : Nat) (s : St) (K : Ex → St → Option (Kd.struct predHolds.con.rs).T) : (predHolds.lp n) true 4 (evK predHolds.env (predHolds.lp n) n (sub [1, 1, 0, 1, 0, 0] predHolds.body)) predHolds.nml4 K s = loops n (Kd.struct predHolds.con.rs).T true 4 (evK predHolds.env (predHolds.lp n) n (sub [1, 1, 0, 1, 0, 0] predHolds.body)) predHolds.nml4 K s := by
  show (match predHolds.shl4.dec s with | some v => predHolds.l4 n (fun w0 => K .ret (predHolds.outl4e1.enc (w0, ()))) (fun _ => K (.exit 0) (predHolds.outl4e2.enc (()))) n v.1 v.2.1 v.2.2.1 v.2.2.2.1 | none => loops n (Kd.struct predHolds.con.rs).T true 4 (evK predHolds.env (predHolds.lp n) n (sub [1, 1, 0, 1, 0, 0] predHolds.body)) predHolds.nml4 K s) = _
  cases h : predHolds.shl4.dec s with
  | none => rfl
  | some v =>
    rw [Shp.dec_enc h]
    exact (evLoop_eq (sh := predHolds.shl4) (body := evK predHolds.env (predHolds.lp n) n (sub [1, 1, 0, 1, 0, 0] predHolds.body)) (nm := predHolds.nml4) (K := K) (b := fun nx v => predHolds.b4 n (fun x0 x1 x2 x3 => nx (x0, x1, x2, x3, ())) (fun w0 => K .ret (predHolds.outl4e1.enc (w0, ()))) (fun _ => K (.exit 0) (predHolds.outl4e2.enc (()))) v.1 v.2.1 v.2.2.1 v.2.2.2.1) (l := fun m v => predHolds.l4 n (fun w0 => K .ret (predHolds.outl4e1.enc (w0, ()))) (fun _ => K (.exit 0) (predHolds.outl4e2.enc (()))) m v.1 v.2.1 v.2.2.1 v.2.2.2.1) (fun _ => rfl) (fun _ _ => rfl) (fun m v => by kernel_rfl) n v).symm
theorem predHolds.atj3 (n : Nat) (s : St) (K : Ex → St → Option (Kd.struct predHolds.con.rs).T) : (predHolds.lp n) false 3 (evK predHolds.env (predHolds.lp n) n (sub [1, 1] predHolds.body)) predHolds.nmj3 K s = loops n (Kd.struct predHolds.con.rs).T false 3 (evK predHolds.env (predHolds.lp n) n (sub [1, 1] predHolds.body)) predHolds.nmj3 K s := by
  show (match predHolds.shj3.dec s with | some v => predHolds.j3 n (fun w0 => K .ret (predHolds.outj3e1.enc (w0, ()))) v.1 v.2.1 | none => loops n (Kd.struct predHolds.con.rs).T false 3 (evK predHolds.env (predHolds.lp n) n (sub [1, 1] predHolds.body)) predHolds.nmj3 K s) = _
  cases h : predHolds.shj3.dec s with
  | none => rfl
  | some v =>
    rw [Shp.dec_enc h]
    kernel_rfl
theorem predHolds.eq (n : Nat) (x : (Kd.struct predHolds.con.ps).T) : evFunc predHolds.env Tryd.f14 predHolds.body predHolds.con.ps predHolds.con.rs (predHolds.lp n) n x = predHolds.con.f n x := by kernel_rfl
theorem predHolds.sound : Sound Tryd.prog globs 14 predHolds.con :=
  sound_by (E := predHolds.env) (c := predHolds.body) (envOk (G := globs) (lc := [(12, predMay.con), (27, eventMay.con), (28, predHoldsF28.con)]) (lo := []) (envB_spec (by kernel_rfl)) rfl rfl ⟨.inl ⟨predMay.sound, by kernel_rfl⟩, ⟨.inl ⟨eventMay.sound, by kernel_rfl⟩, ⟨.inl ⟨predHoldsF28.sound, by kernel_rfl⟩, trivial⟩⟩⟩ rfl trivial (by kernel_rfl) (by kernel_rfl)) Tryd.func14 (by kernel_rfl) predHolds.lp (l := [(true, sub [1, 1, 0, 1, 0, 0] predHolds.body, predHolds.nml4), (false, sub [1, 1] predHolds.body, predHolds.nmj3)]) (by kernel_rfl) (fun n => ⟨predHolds.atl4 n, ⟨predHolds.atj3 n, trivial⟩⟩) predHolds.eq
noncomputable def law10Fixed (fu : Nat) : Option (Bool × Unit) :=
  let t1 := [((0 : Int), (5 : Int), ((1 : Int), (5 : Int), (0 : Nat), [], ()), ())]
  let t2 := [((1 : Int), (7 : Int), (0 : Nat), [], ())]
  (predHolds fu (false, (1 : Int), t1, ()) ((1 : Int), t2, ())).bind fun r3 =>
  cond r3.1 (
    let t4 := [((1 : Int), (5 : Int), (0 : Nat), [], ())]
    (predHolds fu (false, (1 : Int), t1, ()) ((1 : Int), t4, ())).bind fun r5 =>
    cond (!r5.1) (
      (predHolds fu (false, (1 : Int), t1, ()) ((1 : Int), [], ())).bind fun r6 =>
      some (!r6.1, ())) (
      some (false, ()))) (
    some (false, ()))

noncomputable def law10Fixed.body : Code := Tryd.f11.body.getD .skip
noncomputable def law10Fixed.con : Con := { ps := [], rs := [.bool], f := fun n x => law10Fixed n }
noncomputable def law10Fixed.env : Env := { tys := [(4, ⟨.bool, 1⟩), (46, ⟨kS0, 40⟩), (50, ⟨kS1, 48⟩), (30, ⟨kS2, 32⟩), (34, ⟨kS3, 32⟩)], elems := [(28, 50), (32, 46)], ptrs := [], cons := [(14, predHolds.con)], objs := [], loops := [], cuts := [], globs := globs, base := 0 }
noncomputable def law10Fixed.lp (n : Nat) : LP (Kd.struct law10Fixed.con.rs).T := fun lo κ body nm K s =>
  loops n (Kd.struct law10Fixed.con.rs).T lo κ body nm K s
theorem law10Fixed.eq (n : Nat) (x : (Kd.struct law10Fixed.con.ps).T) : evFunc law10Fixed.env Tryd.f11 law10Fixed.body law10Fixed.con.ps law10Fixed.con.rs (law10Fixed.lp n) n x = law10Fixed.con.f n x := by kernel_rfl
theorem law10Fixed.sound : Sound Tryd.prog globs 11 law10Fixed.con :=
  sound_by (E := law10Fixed.env) (c := law10Fixed.body) (envOk (G := globs) (lc := [(14, predHolds.con)]) (lo := []) (envB_spec (by kernel_rfl)) rfl rfl ⟨.inl ⟨predHolds.sound, by kernel_rfl⟩, trivial⟩ rfl trivial (by kernel_rfl) (by kernel_rfl)) Tryd.func11 (by kernel_rfl) law10Fixed.lp (l := []) (by kernel_rfl) (fun n => trivial) law10Fixed.eq
noncomputable def law04RawValue (fu : Nat) (rv : S4) : Option (S0 × Unit) :=
  (extFrom.f fu (rv.2.2.1, ())).bind fun r1 =>
  some ((rv.1, rv.2.1, r1.1, rv.2.2.2.1, ()), ())

noncomputable def law04RawValue.body : Code := Tryd.f16.body.getD .skip
noncomputable def law04RawValue.con : Con := { ps := [kS4], rs := [kS0], f := fun n x => law04RawValue n x.1 }
noncomputable def law04RawValue.env : Env := { tys := [(43, ⟨kS4, 40⟩), (46, ⟨kS0, 40⟩), (5, ⟨(.int .u8), 1⟩), (2, ⟨(.int .i64), 8⟩), (41, ⟨(.int .u64), 8⟩), (9, ⟨.str, 16⟩)], elems := [], ptrs := [], cons := [(31, extFrom)], objs := [], loops := [], cuts := [], globs := globs, base := 0 }
noncomputable def law04RawValue.lp (n : Nat) : LP (Kd.struct law04RawValue.con.rs).T := fun lo κ body nm K s =>
  loops n (Kd.struct law04RawValue.con.rs).T lo κ body nm K s
theorem law04RawValue.eq (n : Nat) (x : (Kd.struct law04RawValue.con.ps).T) : evFunc law04RawValue.env Tryd.f16 law04RawValue.body law04RawValue.con.ps law04RawValue.con.rs (law04RawValue.lp n) n x = law04RawValue.con.f n x := by kernel_rfl
theorem law04RawValue.sound : Sound Tryd.prog globs 16 law04RawValue.con :=
  sound_by (E := law04RawValue.env) (c := law04RawValue.body) (envOk (G := globs) (lc := [(31, extFrom)]) (lo := []) (envB_spec (by kernel_rfl)) rfl rfl ⟨.inr (extFrom_ok Tryd.func31 (by kernel_rfl) (by kernel_rfl) (by kernel_rfl) (by kernel_rfl)), trivial⟩ rfl trivial (by kernel_rfl) (by kernel_rfl)) Tryd.func16 (by kernel_rfl) law04RawValue.lp (l := []) (by kernel_rfl) (fun n => trivial) law04RawValue.eq
noncomputable def ref04May.j4 (fu : Nat) (k1 : Bool → Option (Bool × Unit)) (whole : Bool) (point : Bool) (text : Bool) (b0 : S0) : Option (Bool × Unit) :=
  let t1 := decide (b0.1 < (4 : Int))
  cond t1 (
    cond whole (
      cond point (
        cond text (
          let t2 := (b0.2.2.2.1.length : Int)
          let t3 := decide (t2 ≤ (255 : Int))
          k1 t3) (
          k1 false)) (
        k1 false)) (
      k1 false)) (
    k1 false)
noncomputable def ref04May.j3 (fu : Nat) (k1 : Bool → Option (Bool × Unit)) (whole : Bool) (point : Bool) (b0 : S0) : Option (Bool × Unit) :=
  let t1 := b0.2.2.2.1 == ([] : List Int)
  cond t1 (
    ref04May.j4 fu (fun vq3 => 
        k1 vq3) whole point true b0) (
    ref04May.j4 fu (fun vq4 => 
        k1 vq4) whole point (b0.1 == (3 : Int)) b0)
noncomputable def ref04May.j2 (fu : Nat) (k1 : Bool → Option (Bool × Unit)) (whole : Bool) (b0 : S0) : Option (Bool × Unit) :=
  (extBits.f fu (b0.2.2.1, ())).bind fun r1 =>
  cond (r1.1 == (0 : Int)) (
    ref04May.j3 fu (fun vq5 => 
        k1 vq5) whole true b0) (
    ref04May.j3 fu (fun vq6 => 
        k1 vq6) whole (b0.1 == (2 : Int)) b0)
noncomputable def ref04May (fu : Nat) (v : S0) : Option (Bool × Unit) :=
  cond (v.2.1 == (0 : Int)) (
    ref04May.j2 fu (fun vq1 => 
        some (vq1, ())) true v) (
    ref04May.j2 fu (fun vq2 => 
        some (vq2, ())) (v.1 == (1 : Int)) v)

noncomputable def ref04May.body : Code := Tryd.f32.body.getD .skip
abbrev ref04May.shj4 : Shp := ⟨[.u, .p 0 0, .u, .d .bool, .d .bool, .d .bool, .u, .u, .u, .u, .u, .u, .u, .u, .u, .u, .u, .u, .u, .u, .u, .u, .u, .u, .u, .u, .u, .u, .u, .u, .u, .u, .u, .u, .u, .u, .u, .u, .u, .u, .u, .u, .u, .u, .u, .u, .u, .u, .u], [.c [.g kS0]]⟩
abbrev ref04May.outj4e1 : Shp := ⟨[.u, .u, .d .bool, .u, .u, .u, .u, .u, .u, .u, .u, .u, .u, .u, .u, .u, .u, .u, .u, .u, .u, .u, .u, .u, .u, .u, .u, .u, .u, .u, .u, .u, .u, .u, .u, .u, .u, .u, .u, .u, .u, .u, .u, .u, .u, .u, .u, .u, .u], []⟩
noncomputable def ref04May.nmj4 : Norm := ⟨{ keep := [1, 3, 4, 5], shut := [(3, .bool), (4, .bool), (5, .bool)], retag := [], heap := 1, dead := [], cshut := [(0, 0, (.int .u8)), (0, 1, (.int .i64)), (0, 2, .flt), (0, 3, .str)], cretag := [] }, [(1, { keep := [2], shut := [(2, .bool)], retag := [], heap := 0, dead := [], cshut := [], cretag := [] })]⟩
abbrev ref04May.shj3 : Shp := ⟨[.u, .p 0 0, .u, .d .bool, .d .bool, .u, .u, .u, .u, .u, .u, .u, .u, .u, .u, .u, .u, .u, .u, .u, .u, .u, .u, .u, .u, .u, .u, .u, .u, .u, .u, .u, .u, .u, .u, .u, .u, .u, .u, .u, .u, .u, .u, .u, .u, .u, .u, .u, .u], [.c [.g kS0]]⟩
abbrev ref04May.outj3e1 : Shp := ⟨[.u, .u, .d .bool, .u, .u, .u, .u, .u, .u, .u, .u, .u, .u, .u, .u, .u, .u, .u, .u, .u, .u, .u, .u, .u, .u, .u, .u, .u, .u, .u, .u, .u, .u, .u, .u, .u, .u, .u, .u, .u, .u, .u, .u, .u, .u, .u, .u, .u, .u], []⟩
noncomputable def ref04May.nmj3 : Norm := ⟨{ keep := [1, 3, 4], shut := [(3, .bool), (4, .bool)], retag := [], heap := 1, dead := [], cshut := [(0, 0, (.int .u8)), (0, 1, (.int .i64)), (0, 2, .flt), (0, 3, .str)], cretag := [] }, [(1, { keep := [2], shut := [(2, .bool)], retag := [], heap := 0, dead := [], cshut := [], cretag := [] })]⟩
abbrev ref04May.shj2 : Shp := ⟨[.u, .p 0 0, .u, .d .bool, .u, .u, .u, .u, .u, .u, .u, .u, .u, .u, .u, .u, .u, .u, .u, .u, .u, .u, .u, .u, .u, .u, .u, .u, .u, .u, .u, .u, .u, .u, .u, .u, .u, .u, .u, .u, .u, .u, .u, .u, .u, .u, .u, .u, .u], [.c [.g kS0]]⟩
abbrev ref04May.outj2e1 : Shp := ⟨[.u, .u, .d .bool, .u, .u, .u, .u, .u, .u, .u, .u, .u, .u, .u, .u, .u, .u, .u, .u, .u, .u, .u, .u, .u, .u, .u, .u, .u, .u, .u, .u, .u, .u, .u, .u, .u, .u, .u, .u, .u, .u, .u, .u, .u, .u, .u, .u, .u, .u], []⟩
noncomputable def ref04May.nmj2 : Norm := ⟨{ keep := [1, 3], shut := [(3, .bool)], retag := [], heap := 1, dead := [], cshut := [(0, 0, (.int .u8)), (0, 1, (.int .i64)), (0, 2, .flt), (0, 3, .str)], cretag := [] }, [(1, { keep := [2], shut := [(2, .bool)], retag := [], heap := 0, dead := [], cshut := [], cretag := [] })]⟩
noncomputable def ref04May.con : Con := { ps := [kS0], rs := [.bool], f := fun n x => ref04May n x.1 }
noncomputable def ref04May.env : Env := { tys := [(46, ⟨kS0, 40⟩), (4, ⟨.bool, 1⟩), (2, ⟨(.int .i64), 8⟩), (5, ⟨(.int .u8), 1⟩), (44, ⟨.flt, 8⟩), (9, ⟨.str, 16⟩)], elems := [], ptrs := [], cons := [(52, extBits)], objs := [], loops := [], cuts := [(4, ref04May.nmj4), (3, ref04May.nmj3), (2, ref04May.nmj2)], globs := globs, base := 0 }
noncomputable def ref04May.lp (n : Nat) : LP (Kd.struct ref04May.con.rs).T := fun lo κ body nm K s =>
  cond (!lo && Nat.beq κ 4)
    (match ref04May.shj4.dec s with
    | some v => ref04May.j4 n (fun w0 => K .ret (ref04May.outj4e1.enc (w0, ()))) v.1 v.2.1 v.2.2.1 v.2.2.2.1
    | none => loops n (Kd.struct ref04May.con.rs).T lo κ body nm K s)
    (cond (!lo && Nat.beq κ 3)
    (match ref04May.shj3.dec s with
    | some v => ref04May.j3 n (fun w0 => K .ret (ref04May.outj3e1.enc (w0, ()))) v.1 v.2.1 v.2.2.1
    | none => loops n (Kd.struct ref04May.con.rs).T lo κ body nm K s)
    (cond (!lo && Nat.beq κ 2)
    (match ref04May.shj2.dec s with
    | some v => ref04May.j2 n (fun w0 => K .ret (ref04May.outj2e1.enc (w0, ()))) v.1 v.2.1
    | none => loops n (Kd.struct ref04May.con.rs).T lo κ body nm K s)
    (loops n (Kd.struct ref04May.con.rs).T lo κ body nm K s)))
theorem ref04May.atj4 (n : Nat) (s : St) (K : Ex → St → Option (Kd.struct ref04May.con.rs).T) : (ref04May.lp n) false 4 (evK ref04May.env (ref04May.lp n) n (sub [1, 1, 1, 1] ref04May.body)) ref04May.nmj4 K s = loops n (Kd.struct ref04May.con.rs).T false 4 (evK ref04May.env (ref04May.lp n) n (sub [1, 1, 1, 1] ref04May.body)) ref04May.nmj4 K s := by
  show (match ref04May.shj4.dec s with | some v => ref04May.j4 n (fun w0 => K .ret (ref04May.outj4e1.enc (w0, ()))) v.1 v.2.1 v.2.2.1 v.2.2.2.1 | none => loops n (Kd.struct ref04May.con.rs).T false 4 (evK ref04May.env (ref04May.lp n) n (sub [1, 1, 1, 1] ref04May.body)) ref04May.nmj4 K s) = _
  cases h : ref04May.shj4.dec s with
  | none => rfl
  | some v =>
    rw [Shp.dec_enc h]
    kernel_rfl
theorem ref04May.atj3 (n : Nat) (s : St) (K : Ex → St → Option (Kd.struct ref04May.con.rs).T) : (ref04May.lp n) false 3 (evK ref04May.env (ref04May.lp n) n (sub [1, 1, 1] ref04May.body)) ref04May.nmj3 K s = loops n (Kd.struct ref04May.con.rs).T false 3 (evK ref04May.env (ref04May.lp n) n (sub [1, 1, 1] ref04May.body)) ref04May.nmj3 K s := by
  show (match ref04May.shj3.dec s with | some v => ref04May.j3 n (fun w0 => K .ret (ref04May.outj3e1.enc (w0, ()))) v.1 v.2.1 v.2.2.1 | none => loops n (Kd.struct ref04May.con.rs).T false 3 (evK ref04May.env (ref04May.lp n) n (sub [1, 1, 1] ref04May.body)) ref04May.nmj3 K s) = _
  cases h : ref04May.shj3.dec s with
  | none => rfl
  | some v =>
    rw [Shp.dec_enc h]
    kernel_rfl
theorem ref04May.atj2 (n : Nat) (s : St) (K : Ex → St → Option (Kd.struct ref04May.con.rs).T) : (ref04May.lp n) false 2 (evK ref04May.env (ref04May.lp n) n (sub [1, 1] ref04May.body)) ref04May.nmj2 K s = loops n (Kd.struct ref04May.con.rs).T false 2 (evK ref04May.env (ref04May.lp n) n (sub [1, 1] ref04May.body)) ref04May.nmj2 K s := by
  show (match ref04May.shj2.dec s with | some v => ref04May.j2 n (fun w0 => K .ret (ref04May.outj2e1.enc (w0, ()))) v.1 v.2.1 | none => loops n (Kd.struct ref04May.con.rs).T false 2 (evK ref04May.env (ref04May.lp n) n (sub [1, 1] ref04May.body)) ref04May.nmj2 K s) = _
  cases h : ref04May.shj2.dec s with
  | none => rfl
  | some v =>
    rw [Shp.dec_enc h]
    kernel_rfl
theorem ref04May.eq (n : Nat) (x : (Kd.struct ref04May.con.ps).T) : evFunc ref04May.env Tryd.f32 ref04May.body ref04May.con.ps ref04May.con.rs (ref04May.lp n) n x = ref04May.con.f n x := by kernel_rfl
theorem ref04May.sound : Sound Tryd.prog globs 32 ref04May.con :=
  sound_by (E := ref04May.env) (c := ref04May.body) (envOk (G := globs) (lc := [(52, extBits)]) (lo := []) (envB_spec (by kernel_rfl)) rfl rfl ⟨.inr (extBits_ok Tryd.func52 (by kernel_rfl) (by kernel_rfl) (by kernel_rfl) (by kernel_rfl)), trivial⟩ rfl trivial (by kernel_rfl) (by kernel_rfl)) Tryd.func32 (by kernel_rfl) ref04May.lp (l := [(false, sub [1, 1, 1, 1] ref04May.body, ref04May.nmj4), (false, sub [1, 1, 1] ref04May.body, ref04May.nmj3), (false, sub [1, 1] ref04May.body, ref04May.nmj2)]) (by kernel_rfl) (fun n => ⟨ref04May.atj4 n, ⟨ref04May.atj3 n, ⟨ref04May.atj2 n, trivial⟩⟩⟩) ref04May.eq
noncomputable def ref04Texts.b2 (fu : Nat) (next : (List Int) → (List Int) → Int → Option (Int × Unit)) (k1 : Int → Option (Int × Unit)) (k2 : (List Int) → (List Int) → Option (Int × Unit)) (a : List Int) (b : List Int) (i : Int) : Option (Int × Unit) :=
  let t1 := decide (i < (a.length : Int))
  cond t1 (
    let t2 := decide (i < (b.length : Int))
    cond t2 (
      chk (ixOk a i) <|
      chk (ixOk b i) <|
      let t3 := decide (ixL (0 : Int) a i < ixL (0 : Int) b i)
      cond t3 (
        k1 (-1 : Int)) (
        chk (ixOk a i) <|
        chk (ixOk b i) <|
        let t4 := decide (ixL (0 : Int) a i > ixL (0 : Int) b i)
        cond t4 (
          k1 (1 : Int)) (
          let t5 := IntKind.i64.wrap (i + (1 : Int))
          next a b t5))) (
      k2 a b)) (
    k2 a b)
noncomputable def ref04Texts.l2 (fu : Nat) (k1 : Int → Option (Int × Unit)) (k2 : (List Int) → (List Int) → Option (Int × Unit)) : Nat → (List Int) → (List Int) → Int → Option (Int × Unit)
  | 0, _, _, _ => none
  | m + 1, a, b, i => ref04Texts.b2 fu (ref04Texts.l2 fu k1 k2 m) k1 k2 a b i
noncomputable def ref04Texts (fu : Nat) (a : List Int) (b : List Int) : Option (Int × Unit) :=
  ref04Texts.l2 fu (fun vq3 => 
      some (vq3, ())) (fun aq4 bq4 => 
      let t1 := decide ((aq4.length : Int) < (bq4.length : Int))
      cond t1 (
        some ((-1 : Int), ())) (
        let t2 := decide ((aq4.length : Int) > (bq4.length : Int))
        cond t2 (
          some ((1 : Int), ())) (
          some ((0 : Int), ())))) fu a b (0 : Int)

noncomputable def ref04Texts.body : Code := Tryd.f33.body.getD .skip
abbrev ref04Texts.shl2 : Shp := ⟨[.d .str, .d .str, .u, .u, .u, .d (.int .i64), .u, .u, .u, .u, .u, .u, .u, .u, .u, .u, .u, .u, .u, .u, .u, .u, .u, .u, .u, .u, .u, .u, .u, .u, .u, .u, .u, .u, .u, .u, .u, .u, .u, .u, .u, .u], []⟩
abbrev ref04Texts.outl2e1 : Shp := ⟨[.u, .u, .u, .u, .d (.int .i64), .u, .u, .u, .u, .u, .u, .u, .u, .u, .u, .u, .u, .u, .u, .u, .u, .u, .u, .u, .u, .u, .u, .u, .u, .u, .u, .u, .u, .u, .u, .u, .u, .u, .u, .u, .u, .u], []⟩
abbrev ref04Texts.outl2e2 : Shp := ⟨[.d .str, .d .str, .u, .u, .u, .u, .u, .u, .u, .u, .u, .u, .u, .u, .u, .u, .u, .u, .u, .u, .u, .u, .u, .u, .u, .u, .u, .u, .u, .u, .u, .u, .u, .u, .u, .u, .u, .u, .u, .u, .u, .u], []⟩
noncomputable def ref04Texts.nml2 : Norm := ⟨{ keep := [0, 1, 5], shut := [(0, .str), (1, .str), (5, (.int .i64))], retag := [], heap := 0, dead := [], cshut := [], cretag := [] }, [(1, { keep := [4], shut := [(4, (.int .i64))], retag := [], heap := 0, dead := [], cshut := [], cretag := [] }), (2, { keep := [0, 1], shut := [(0, .str), (1, .str)], retag := [], heap := 0, dead := [], cshut := [], cretag := [] })]⟩
noncomputable def ref04Texts.con : Con := { ps := [.str, .str], rs := [(.int .i64)], f := fun n x => ref04Texts n x.1 x.2.1 }
noncomputable def ref04Texts.env : Env := { tys := [(3, ⟨(.int .i64), 8⟩), (9, ⟨.str, 16⟩), (4, ⟨.bool, 1⟩)], elems := [], ptrs := [], cons := [], objs := [], loops := [(2, ref04Texts.nml2)], cuts := [], globs := globs, base := 0 }
noncomputable def ref04Texts.lp (n : Nat) : LP (Kd.struct ref04Texts.con.rs).T := fun lo κ body nm K s =>
  cond (lo && Nat.beq κ 2)
    (match ref04Texts.shl2.dec s with
    | some v => ref04Texts.l2 n (fun w0 => K .ret (ref04Texts.outl2e1.enc (w0, ()))) (fun w0 w1 => K (.exit 0) (ref04Texts.outl2e2.enc (w0, w1, ()))) n v.1 v.2.1 v.2.2.1
    | none => loops n (Kd.struct ref04Texts.con.rs).T lo κ body nm K s)
    (loops n (Kd.struct ref04Texts.con.rs).T lo κ body nm K s)
theorem ref04Texts.atl2 (n : Nat) (s : St) (K : Ex → St → Option (Kd.struct ref04Texts.con.rs).T) : (ref04Texts.lp n) true 2 (evK ref04Texts.env (ref04Texts.lp n) n (sub [1, 0, 1, 0, 0] ref04Texts.body)) ref04Texts.nml2 K s = loops n (Kd.struct ref04Texts.con.rs).T true 2 (evK ref04Texts.env (ref04Texts.lp n) n (sub [1, 0, 1, 0, 0] ref04Texts.body)) ref04Texts.nml2 K s := by
  show (match ref04Texts.shl2.dec s with | some v => ref04Texts.l2 n (fun w0 => K .ret (ref04Texts.outl2e1.enc (w0, ()))) (fun w0 w1 => K (.exit 0) (ref04Texts.outl2e2.enc (w0, w1, ()))) n v.1 v.2.1 v.2.2.1 | none => loops n (Kd.struct ref04Texts.con.rs).T true 2 (evK ref04Texts.env (ref04Texts.lp n) n (sub [1, 0, 1, 0, 0] ref04Texts.body)) ref04Texts.nml2 K s) = _
  cases h : ref04Texts.shl2.dec s with
  | none => rfl
  | some v =>
    rw [Shp.dec_enc h]
    exact (evLoop_eq (sh := ref04Texts.shl2) (body := evK ref04Texts.env (ref04Texts.lp n) n (sub [1, 0, 1, 0, 0] ref04Texts.body)) (nm := ref04Texts.nml2) (K := K) (b := fun nx v => ref04Texts.b2 n (fun x0 x1 x2 => nx (x0, x1, x2, ())) (fun w0 => K .ret (ref04Texts.outl2e1.enc (w0, ()))) (fun w0 w1 => K (.exit 0) (ref04Texts.outl2e2.enc (w0, w1, ()))) v.1 v.2.1 v.2.2.1) (l := fun m v => ref04Texts.l2 n (fun w0 => K .ret (ref04Texts.outl2e1.enc (w0, ()))) (fun w0 w1 => K (.exit 0) (ref04Texts.outl2e2.enc (w0, w1, ()))) m v.1 v.2.1 v.2.2.1) (fun _ => rfl) (fun _ _ => rfl) (fun m v => by kernel_rfl) n v).symm
theorem ref04Texts.eq (n : Nat) (x : (Kd.struct ref04Texts.con.ps).T) : evFunc ref04Texts.env Tryd.f33 ref04Texts.body ref04Texts.con.ps ref04Texts.con.rs (ref04Texts.lp n) n x = ref04Texts.con.f n x := by kernel_rfl
theorem ref04Texts.sound : Sound Tryd.prog globs 33 ref04Texts.con :=
  sound_by (E := ref04Texts.env) (c := ref04Texts.body) (envOk (G := globs) (lc := []) (lo := []) (envB_spec (by kernel_rfl)) rfl rfl trivial rfl trivial (by kernel_rfl) (by kernel_rfl)) Tryd.func33 (by kernel_rfl) ref04Texts.lp (l := [(true, sub [1, 0, 1, 0, 0] ref04Texts.body, ref04Texts.nml2)]) (by kernel_rfl) (fun n => ⟨ref04Texts.atl2 n, trivial⟩) ref04Texts.eq
noncomputable def ref02OfBits (fu : Nat) (b : Int) : Option (S5 × Unit) :=
  let t1 := decide (b ≥ (9223372036854775808 : Int))
  let t2 := IntKind.u64.wrap (Int.tdiv b (4503599627370496 : Int))
  let t3 := IntKind.i64.wrap (Int.tmod t2 (2048 : Int))
  let t4 := Int.tmod b (4503599627370496 : Int)
  some ((t1, t3, t4, ()), ())

noncomputable def ref02OfBits.body : Code := Tryd.f56.body.getD .skip
noncomputable def ref02OfBits.con : Con := { ps := [(.int .u64)], rs := [kS5], f := fun n x => ref02OfBits n x.1 }
noncomputable def ref02OfBits.env : Env := { tys := [(76, ⟨kS5, 24⟩), (3, ⟨(.int .i64), 8⟩), (41, ⟨(.int .u64), 8⟩)], elems := [], ptrs := [], cons := [], objs := [], loops := [], cuts := [], globs := globs, base := 0 }
noncomputable def ref02OfBits.lp (n : Nat) : LP (Kd.struct ref02OfBits.con.rs).T := fun lo κ body nm K s =>
  loops n (Kd.struct ref02OfBits.con.rs).T lo κ body nm K s
theorem ref02OfBits.eq (n : Nat) (x : (Kd.struct ref02OfBits.con.ps).T) : evFunc ref02OfBits.env Tryd.f56 ref02OfBits.body ref02OfBits.con.ps ref02OfBits.con.rs (ref02OfBits.lp n) n x = ref02OfBits.con.f n x := by kernel_rfl
theorem ref02OfBits.sound : Sound Tryd.prog globs 56 ref02OfBits.con :=
  sound_by (E := ref02OfBits.env) (c := ref02OfBits.body) (envOk (G := globs) (lc := []) (lo := []) (envB_spec (by kernel_rfl)) rfl rfl trivial rfl trivial (by kernel_rfl) (by kernel_rfl)) Tryd.func56 (by kernel_rfl) ref02OfBits.lp (l := []) (by kernel_rfl) (fun n => trivial) ref02OfBits.eq
noncomputable def ref02Of (fu : Nat) (xv : Nat) : Option (S5 × Unit) :=
  (extBits.f fu (xv, ())).bind fun r1 =>
  (ref02OfBits fu r1.1).bind fun r2 =>
  some (r2.1, ())

noncomputable def ref02Of.body : Code := Tryd.f35.body.getD .skip
noncomputable def ref02Of.con : Con := { ps := [.flt], rs := [kS5], f := fun n x => ref02Of n x.1 }
noncomputable def ref02Of.env : Env := { tys := [(76, ⟨kS5, 24⟩)], elems := [], ptrs := [], cons := [(52, extBits), (56, ref02OfBits.con)], objs := [], loops := [], cuts := [], globs := globs, base := 0 }
noncomputable def ref02Of.lp (n : Nat) : LP (Kd.struct ref02Of.con.rs).T := fun lo κ body nm K s =>
  loops n (Kd.struct ref02Of.con.rs).T lo κ body nm K s
theorem ref02Of.eq (n : Nat) (x : (Kd.struct ref02Of.con.ps).T) : evFunc ref02Of.env Tryd.f35 ref02Of.body ref02Of.con.ps ref02Of.con.rs (ref02Of.lp n) n x = ref02Of.con.f n x := by kernel_rfl
theorem ref02Of.sound : Sound Tryd.prog globs 35 ref02Of.con :=
  sound_by (E := ref02Of.env) (c := ref02Of.body) (envOk (G := globs) (lc := [(52, extBits), (56, ref02OfBits.con)]) (lo := []) (envB_spec (by kernel_rfl)) rfl rfl ⟨.inr (extBits_ok Tryd.func52 (by kernel_rfl) (by kernel_rfl) (by kernel_rfl) (by kernel_rfl)), ⟨.inl ⟨ref02OfBits.sound, by kernel_rfl⟩, trivial⟩⟩ rfl trivial (by kernel_rfl) (by kernel_rfl)) Tryd.func35 (by kernel_rfl) ref02Of.lp (l := []) (by kernel_rfl) (fun n => trivial) ref02Of.eq
noncomputable def ref02PartsNaN (fu : Nat) (p : S5) : Option (Bool × Unit) :=
  cond (p.2.1 == (2047 : Int)) (
    some (p.2.2.1 != (0 : Int), ())) (
    some (false, ()))

noncomputable def ref02PartsNaN.body : Code := Tryd.f53.body.getD .skip
noncomputable def ref02PartsNaN.con : Con := { ps := [kS5], rs := [.bool], f := fun n x => ref02PartsNaN n x.1 }
noncomputable def ref02PartsNaN.env : Env := { tys := [(76, ⟨kS5, 24⟩), (4, ⟨.bool, 1⟩), (3, ⟨(.int .i64), 8⟩), (41, ⟨(.int .u64), 8⟩)], elems := [], ptrs := [], cons := [], objs := [], loops := [], cuts := [], globs := globs, base := 0 }
noncomputable def ref02PartsNaN.lp (n : Nat) : LP (Kd.struct ref02PartsNaN.con.rs).T := fun lo κ body nm K s =>
  loops n (Kd.struct ref02PartsNaN.con.rs).T lo κ body nm K s
theorem ref02PartsNaN.eq (n : Nat) (x : (Kd.struct ref02PartsNaN.con.ps).T) : evFunc ref02PartsNaN.env Tryd.f53 ref02PartsNaN.body ref02PartsNaN.con.ps ref02PartsNaN.con.rs (ref02PartsNaN.lp n) n x = ref02PartsNaN.con.f n x := by kernel_rfl
theorem ref02PartsNaN.sound : Sound Tryd.prog globs 53 ref02PartsNaN.con :=
  sound_by (E := ref02PartsNaN.env) (c := ref02PartsNaN.body) (envOk (G := globs) (lc := []) (lo := []) (envB_spec (by kernel_rfl)) rfl rfl trivial rfl trivial (by kernel_rfl) (by kernel_rfl)) Tryd.func53 (by kernel_rfl) ref02PartsNaN.lp (l := []) (by kernel_rfl) (fun n => trivial) ref02PartsNaN.eq
noncomputable def ref02PartsClass (fu : Nat) (p : S5) : Option (Int × Unit) :=
  cond (p.2.1 == (2047 : Int)) (
    cond (p.2.2.1 != (0 : Int)) (
      some ((4 : Int), ())) (
      some ((3 : Int), ()))) (
    cond (p.2.1 == (0 : Int)) (
      cond (p.2.2.1 != (0 : Int)) (
        some ((1 : Int), ())) (
        some ((0 : Int), ()))) (
      some ((2 : Int), ())))

noncomputable def ref02PartsClass.body : Code := Tryd.f54.body.getD .skip
noncomputable def ref02PartsClass.con : Con := { ps := [kS5], rs := [(.int .i64)], f := fun n x => ref02PartsClass n x.1 }
noncomputable def ref02PartsClass.env : Env := { tys := [(76, ⟨kS5, 24⟩), (3, ⟨(.int .i64), 8⟩), (41, ⟨(.int .u64), 8⟩)], elems := [], ptrs := [], cons := [], objs := [], loops := [], cuts := [], globs := globs, base := 0 }
noncomputable def ref02PartsClass.lp (n : Nat) : LP (Kd.struct ref02PartsClass.con.rs).T := fun lo κ body nm K s =>
  loops n (Kd.struct ref02PartsClass.con.rs).T lo κ body nm K s
theorem ref02PartsClass.eq (n : Nat) (x : (Kd.struct ref02PartsClass.con.ps).T) : evFunc ref02PartsClass.env Tryd.f54 ref02PartsClass.body ref02PartsClass.con.ps ref02PartsClass.con.rs (ref02PartsClass.lp n) n x = ref02PartsClass.con.f n x := by kernel_rfl
theorem ref02PartsClass.sound : Sound Tryd.prog globs 54 ref02PartsClass.con :=
  sound_by (E := ref02PartsClass.env) (c := ref02PartsClass.body) (envOk (G := globs) (lc := []) (lo := []) (envB_spec (by kernel_rfl)) rfl rfl trivial rfl trivial (by kernel_rfl) (by kernel_rfl)) Tryd.func54 (by kernel_rfl) ref02PartsClass.lp (l := []) (by kernel_rfl) (fun n => trivial) ref02PartsClass.eq
noncomputable def ref02PartsSize (fu : Nat) (p : S5) : Option (Int × Unit) :=
  let t1 := IntKind.u64.wrap (IntKind.u64.wrap p.2.1 * (4503599627370496 : Int))
  let t2 := IntKind.u64.wrap (t1 + p.2.2.1)
  some (t2, ())

noncomputable def ref02PartsSize.body : Code := Tryd.f75.body.getD .skip
noncomputable def ref02PartsSize.con : Con := { ps := [kS5], rs := [(.int .u64)], f := fun n x => ref02PartsSize n x.1 }
noncomputable def ref02PartsSize.env : Env := { tys := [(76, ⟨kS5, 24⟩), (41, ⟨(.int .u64), 8⟩), (3, ⟨(.int .i64), 8⟩)], elems := [], ptrs := [], cons := [], objs := [], loops := [], cuts := [], globs := globs, base := 0 }
noncomputable def ref02PartsSize.lp (n : Nat) : LP (Kd.struct ref02PartsSize.con.rs).T := fun lo κ body nm K s =>
  loops n (Kd.struct ref02PartsSize.con.rs).T lo κ body nm K s
theorem ref02PartsSize.eq (n : Nat) (x : (Kd.struct ref02PartsSize.con.ps).T) : evFunc ref02PartsSize.env Tryd.f75 ref02PartsSize.body ref02PartsSize.con.ps ref02PartsSize.con.rs (ref02PartsSize.lp n) n x = ref02PartsSize.con.f n x := by kernel_rfl
theorem ref02PartsSize.sound : Sound Tryd.prog globs 75 ref02PartsSize.con :=
  sound_by (E := ref02PartsSize.env) (c := ref02PartsSize.body) (envOk (G := globs) (lc := []) (lo := []) (envB_spec (by kernel_rfl)) rfl rfl trivial rfl trivial (by kernel_rfl) (by kernel_rfl)) Tryd.func75 (by kernel_rfl) ref02PartsSize.lp (l := []) (by kernel_rfl) (fun n => trivial) ref02PartsSize.eq
noncomputable def ref02Order.j13002 (fu : Nat) (k0 : S5 → S5 → Option (Int × Unit)) (k1 : Int → Option (Int × Unit)) (v : Bool) (b0 : S5) (b1 : S5) : Option (Int × Unit) :=
  cond v (
    (ref02PartsNaN fu b0).bind fun r1 =>
    cond r1.1 (
      (ref02PartsNaN fu b1).bind fun r2 =>
      cond r2.1 (
        k1 (0 : Int)) (
        (ref02PartsNaN fu b0).bind fun r3 =>
        cond r3.1 (
          k1 (1 : Int)) (
          k1 (-1 : Int)))) (
      (ref02PartsNaN fu b0).bind fun r4 =>
      cond r4.1 (
        k1 (1 : Int)) (
        k1 (-1 : Int)))) (
    k0 b0 b1)
noncomputable def ref02Order.j16 (fu : Nat) (k1 : Int → Option (Int × Unit)) (xv : Int) (yv : Int) : Option (Int × Unit) :=
  cond (decide (xv < yv)) (
    k1 (-1 : Int)) (
    cond (decide (xv > yv)) (
      k1 (1 : Int)) (
      k1 (0 : Int)))
noncomputable def ref02Order.j7 (fu : Nat) (k1 : Int → Option (Int × Unit)) (b0 : S5) (b1 : S5) : Option (Int × Unit) :=
  cond (!(b0.1 == b1.1)) (
    cond b0.1 (
      k1 (-1 : Int)) (
      k1 (1 : Int))) (
    (ref02PartsSize fu b0).bind fun r1 =>
    (ref02PartsSize fu b1).bind fun r2 =>
    cond b0.1 (
      (ref02PartsSize fu b1).bind fun r3 =>
      (ref02PartsSize fu b0).bind fun r4 =>
      ref02Order.j16 fu (fun vq7 => 
          k1 vq7) r3.1 r4.1) (
      ref02Order.j16 fu (fun vq8 => 
          k1 vq8) r1.1 r2.1))
noncomputable def ref02Order (fu : Nat) (a : S5) (b : S5) : Option (Int × Unit) :=
  (ref02PartsNaN fu a).bind fun r1 =>
  cond r1.1 (
    ref02Order.j13002 fu (fun b0q1 b1q1 => 
        ref02Order.j7 fu (fun vq2 => 
            some (vq2, ())) b0q1 b1q1) (fun vq3 => 
        some (vq3, ())) true a b) (
    (ref02PartsNaN fu b).bind fun r2 =>
    ref02Order.j13002 fu (fun b0q4 b1q4 => 
        ref02Order.j7 fu (fun vq5 => 
            some (vq5, ())) b0q4 b1q4) (fun vq6 => 
        some (vq6, ())) r2.1 a b)

noncomputable def ref02Order.body : Code := Tryd.f55.body.getD .skip
abbrev ref02Order.shj13002 : Shp := ⟨[.u, .u, .p 0 0, .p 1 0, .u, .u, .u, .u, .u, .u, .u, .u, .d .bool, .u, .u, .u, .u, .u, .u, .u, .u, .u, .u, .u, .u, .u, .u, .u, .u, .u, .u, .u, .u, .u, .u, .u, .u, .u, .u, .u, .u, .u, .u, .u], [.c [.g kS5], .c [.g kS5]]⟩
abbrev ref02Order.outj13002e0 : Shp := ⟨[.u, .u, .p 0 0, .p 1 0, .u, .u, .u, .u, .u, .u, .u, .u, .u, .u, .u, .u, .u, .u, .u, .u, .u, .u, .u, .u, .u, .u, .u, .u, .u, .u, .u, .u, .u, .u, .u, .u, .u, .u, .u, .u, .u, .u, .u, .u], [.c [.g kS5], .c [.g kS5]]⟩
abbrev ref02Order.outj13002e1 : Shp := ⟨[.u, .u, .u, .u, .d (.int .i64), .u, .u, .u, .u, .u, .u, .u, .u, .u, .u, .u, .u, .u, .u, .u, .u, .u, .u, .u, .u, .u, .u, .u, .u, .u, .u, .u, .u, .u, .u, .u, .u, .u, .u, .u, .u, .u, .u, .u], []⟩
noncomputable def ref02Order.nmj13002 : Norm := ⟨{ keep := [2, 3, 12], shut := [(12, .bool)], retag := [], heap := 2, dead := [], cshut := [(0, 0, .bool), (0, 1, (.int .i64)), (0, 2, (.int .u64)), (1, 0, .bool), (1, 1, (.int .i64)), (1, 2, (.int .u64))], cretag := [] }, [(0, { keep := [2, 3], shut := [], retag := [], heap := 2, dead := [], cshut := [(0, 0, .bool), (0, 1, (.int .i64)), (0, 2, (.int .u64)), (1, 0, .bool), (1, 1, (.int .i64)), (1, 2, (.int .u64))], cretag := [] }), (1, { keep := [4], shut := [(4, (.int .i64))], retag := [], heap := 0, dead := [], cshut := [], cretag := [] })]⟩
abbrev ref02Order.shj16 : Shp := ⟨[.u, .u, .u, .u, .u, .d (.int .u64), .d (.int .u64), .u, .u, .u, .u, .u, .u, .u, .u, .u, .u, .u, .u, .u, .u, .u, .u, .u, .u, .u, .u, .u, .u, .u, .u, .u, .u, .u, .u, .u, .u, .u, .u, .u, .u, .u, .u, .u], []⟩
abbrev ref02Order.outj16e1 : Shp := ⟨[.u, .u, .u, .u, .d (.int .i64), .u, .u, .u, .u, .u, .u, .u, .u, .u, .u, .u, .u, .u, .u, .u, .u, .u, .u, .u, .u, .u, .u, .u, .u, .u, .u, .u, .u, .u, .u, .u, .u, .u, .u, .u, .u, .u, .u, .u], []⟩
noncomputable def ref02Order.nmj16 : Norm := ⟨{ keep := [5, 6], shut := [(5, (.int .u64)), (6, (.int .u64))], retag := [], heap := 0, dead := [], cshut := [], cretag := [] }, [(1, { keep := [4], shut := [(4, (.int .i64))], retag := [], heap := 0, dead := [], cshut := [], cretag := [] })]⟩
abbrev ref02Order.shj7 : Shp := ⟨[.u, .u, .p 0 0, .p 1 0, .u, .u, .u, .u, .u, .u, .u, .u, .u, .u, .u, .u, .u, .u, .u, .u, .u, .u, .u, .u, .u, .u, .u, .u, .u, .u, .u, .u, .u, .u, .u, .u, .u, .u, .u, .u, .u, .u, .u, .u], [.c [.g kS5], .c [.g kS5]]⟩
abbrev ref02Order.outj7e1 : Shp := ⟨[.u, .u, .u, .u, .d (.int .i64), .u, .u, .u, .u, .u, .u, .u, .u, .u, .u, .u, .u, .u, .u, .u, .u, .u, .u, .u, .u, .u, .u, .u, .u, .u, .u, .u, .u, .u, .u, .u, .u, .u, .u, .u, .u, .u, .u, .u], []⟩
noncomputable def ref02Order.nmj7 : Norm := ⟨{ keep := [2, 3], shut := [], retag := [], heap := 2, dead := [], cshut := [(0, 0, .bool), (0, 1, (.int .i64)), (0, 2, (.int .u64)), (1, 0, .bool), (1, 1, (.int .i64)), (1, 2, (.int .u64))], cretag := [] }, [(1, { keep := [4], shut := [(4, (.int .i64))], retag := [], heap := 0, dead := [], cshut := [], cretag := [] })]⟩
noncomputable def ref02Order.con : Con := { ps := [kS5, kS5], rs := [(.int .i64)], f := fun n x => ref02Order n x.1 x.2.1 }
noncomputable def ref02Order.env : Env := { tys := [(76, ⟨kS5, 24⟩), (3, ⟨(.int .i64), 8⟩), (4, ⟨.bool, 1⟩)], elems := [], ptrs := [], cons := [(53, ref02PartsNaN.con), (75, ref02PartsSize.con)], objs := [], loops := [], cuts := [(13002, ref02Order.nmj13002), (16, ref02Order.nmj16), (7, ref02Order.nmj7)], globs := globs, base := 0 }
noncomputable def ref02Order.lp (n : Nat) : LP (Kd.struct ref02Order.con.rs).T := fun lo κ body nm K s =>
  cond (!lo && Nat.beq κ 13002)
    (match ref02Order.shj13002.dec s with
    | some v => ref02Order.j13002 n (fun w0 w1 => K .normal (ref02Order.outj13002e0.enc (w0, w1, ()))) (fun w0 => K .ret (ref02Order.outj13002e1.enc (w0, ()))) v.1 v.2.1 v.2.2.1
    | none => loops n (Kd.struct ref02Order.con.rs).T lo κ body nm K s)
    (cond (!lo && Nat.beq κ 16)
    (match ref02Order.shj16.dec s with
    | some v => ref02Order.j16 n (fun w0 => K .ret (ref02Order.outj16e1.enc (w0, ()))) v.1 v.2.1
    | none => loops n (Kd.struct ref02Order.con.rs).T lo κ body nm K s)
    (cond (!lo && Nat.beq κ 7)
    (match ref02Order.shj7.dec s with
    | some v => ref02Order.j7 n (fun w0 => K .ret (ref02Order.outj7e1.enc (w0, ()))) v.1 v.2.1
    | none => loops n (Kd.struct ref02Order.con.rs).T lo κ body nm K s)
    (loops n (Kd.struct ref02Order.con.rs).T lo κ body nm K s)))
theorem ref02Order.atj13002 (n : Nat) (s : St) (K : Ex → St → Option (Kd.struct ref02Order.con.rs).T) : (ref02Order.lp n) false 13002 (evK ref02Order.env (ref02Order.lp n) n (sub [1, 0, 1] ref02Order.body)) ref02Order.nmj13002 K s = loops n (Kd.struct ref02Order.con.rs).T false 13002 (evK ref02Order.env (ref02Order.lp n) n (sub [1, 0, 1] ref02Order.body)) ref02Order.nmj13002 K s := by
  show (match ref02Order.shj13002.dec s with | some v => ref02Order.j13002 n (fun w0 w1 => K .normal (ref02Order.outj13002e0.enc (w0, w1, ()))) (fun w0 => K .ret (ref02Order.outj13002e1.enc (w0, ()))) v.1 v.2.1 v.2.2.1 | none => loops n (Kd.struct ref02Order.con.rs).T false 13002 (evK ref02Order.env (ref02Order.lp n) n (sub [1, 0, 1] ref02Order.body)) ref02Order.nmj13002 K s) = _
  cases h : ref02Order.shj13002.dec s with
  | none => rfl
  | some v =>
    rw [Shp.dec_enc h]
    kernel_rfl
theorem ref02Order.atj16 (n : Nat) (s : St) (K : Ex → St → Option (Kd.struct ref02Order.con.rs).T) : (ref02Order.lp n) false 16 (evK ref02Order.env (ref02Order.lp n) n (sub [1, 1, 1, 1, 1, 1] ref02Order.body)) ref02Order.nmj16 K s = loops n (Kd.struct ref02Order.con.rs).T false 16 (evK ref02Order.env (ref02Order.lp n) n (sub [1, 1, 1, 1, 1, 1] ref02Order.body)) ref02Order.nmj16 K s := by
  show (match ref02Order.shj16.dec s with | some v => ref02Order.j16 n (fun w0 => K .ret (ref02Order.outj16e1.enc (w0, ()))) v.1 v.2.1 | none => loops n (Kd.struct ref02Order.con.rs).T false 16 (evK ref02Order.env (ref02Order.lp n) n (sub [1, 1, 1, 1, 1, 1] ref02Order.body)) ref02Order.nmj16 K s) = _
  cases h : ref02Order.shj16.dec s with
  | none => rfl
  | some v =>
    rw [Shp.dec_enc h]
    kernel_rfl
theorem ref02Order.atj7 (n : Nat) (s : St) (K : Ex → St → Option (Kd.struct ref02Order.con.rs).T) : (ref02Order.lp n) false 7 (evK ref02Order.env (ref02Order.lp n) n (sub [1, 1] ref02Order.body)) ref02Order.nmj7 K s = loops n (Kd.struct ref02Order.con.rs).T false 7 (evK ref02Order.env (ref02Order.lp n) n (sub [1, 1] ref02Order.body)) ref02Order.nmj7 K s := by
  show (match ref02Order.shj7.dec s with | some v => ref02Order.j7 n (fun w0 => K .ret (ref02Order.outj7e1.enc (w0, ()))) v.1 v.2.1 | none => loops n (Kd.struct ref02Order.con.rs).T false 7 (evK ref02Order.env (ref02Order.lp n) n (sub [1, 1] ref02Order.body)) ref02Order.nmj7 K s) = _
  cases h : ref02Order.shj7.dec s with
  | none => rfl
  | some v =>
    rw [Shp.dec_enc h]
    kernel_rfl
theorem ref02Order.eq (n : Nat) (x : (Kd.struct ref02Order.con.ps).T) : evFunc ref02Order.env Tryd.f55 ref02Order.body ref02Order.con.ps ref02Order.con.rs (ref02Order.lp n) n x = ref02Order.con.f n x := by kernel_rfl
theorem ref02Order.sound : Sound Tryd.prog globs 55 ref02Order.con :=
  sound_by (E := ref02Order.env) (c := ref02Order.body) (envOk (G := globs) (lc := [(53, ref02PartsNaN.con), (75, ref02PartsSize.con)]) (lo := []) (envB_spec (by kernel_rfl)) rfl rfl ⟨.inl ⟨ref02PartsNaN.sound, by kernel_rfl⟩, ⟨.inl ⟨ref02PartsSize.sound, by kernel_rfl⟩, trivial⟩⟩ rfl trivial (by kernel_rfl) (by kernel_rfl)) Tryd.func55 (by kernel_rfl) ref02Order.lp (l := [(false, sub [1, 0, 1] ref02Order.body, ref02Order.nmj13002), (false, sub [1, 1, 1, 1, 1, 1] ref02Order.body, ref02Order.nmj16), (false, sub [1, 1] ref02Order.body, ref02Order.nmj7)]) (by kernel_rfl) (fun n => ⟨ref02Order.atj13002 n, ⟨ref02Order.atj16 n, ⟨ref02Order.atj7 n, trivial⟩⟩⟩) ref02Order.eq
noncomputable def ref02Compare (fu : Nat) (a : S5) (b : S5) : Option (Int × Bool × Unit) :=
  (ref02PartsNaN fu a).bind fun r1 =>
  cond r1.1 (
    some ((0 : Int), false, ())) (
    (ref02PartsNaN fu b).bind fun r2 =>
    cond r2.1 (
      some ((0 : Int), false, ())) (
      (ref02PartsClass fu a).bind fun r3 =>
      cond (r3.1 == (0 : Int)) (
        (ref02PartsClass fu b).bind fun r4 =>
        cond (r4.1 == (0 : Int)) (
          some ((0 : Int), true, ())) (
          (ref02Order fu a b).bind fun r5 =>
          some (r5.1, true, ()))) (
        (ref02Order fu a b).bind fun r6 =>
        some (r6.1, true, ()))))

noncomputable def ref02Compare.body : Code := Tryd.f34.body.getD .skip
noncomputable def ref02Compare.con : Con := { ps := [kS5, kS5], rs := [(.int .i64), .bool], f := fun n x => ref02Compare n x.1 x.2.1 }
noncomputable def ref02Compare.env : Env := { tys := [(76, ⟨kS5, 24⟩), (3, ⟨(.int .i64), 8⟩), (4, ⟨.bool, 1⟩)], elems := [], ptrs := [], cons := [(53, ref02PartsNaN.con), (54, ref02PartsClass.con), (55, ref02Order.con)], objs := [], loops := [], cuts := [], globs := globs, base := 0 }
noncomputable def ref02Compare.lp (n : Nat) : LP (Kd.struct ref02Compare.con.rs).T := fun lo κ body nm K s =>
  loops n (Kd.struct ref02Compare.con.rs).T lo κ body nm K s
theorem ref02Compare.eq (n : Nat) (x : (Kd.struct ref02Compare.con.ps).T) : evFunc ref02Compare.env Tryd.f34 ref02Compare.body ref02Compare.con.ps ref02Compare.con.rs (ref02Compare.lp n) n x = ref02Compare.con.f n x := by kernel_rfl
theorem ref02Compare.sound : Sound Tryd.prog globs 34 ref02Compare.con :=
  sound_by (E := ref02Compare.env) (c := ref02Compare.body) (envOk (G := globs) (lc := [(53, ref02PartsNaN.con), (54, ref02PartsClass.con), (55, ref02Order.con)]) (lo := []) (envB_spec (by kernel_rfl)) rfl rfl ⟨.inl ⟨ref02PartsNaN.sound, by kernel_rfl⟩, ⟨.inl ⟨ref02PartsClass.sound, by kernel_rfl⟩, ⟨.inl ⟨ref02Order.sound, by kernel_rfl⟩, trivial⟩⟩⟩ rfl trivial (by kernel_rfl) (by kernel_rfl)) Tryd.func34 (by kernel_rfl) ref02Compare.lp (l := []) (by kernel_rfl) (fun n => trivial) ref02Compare.eq
noncomputable def ref02PartsValue (fu : Nat) (p : S5) : Option (Int × Int × Unit) :=
  cond (p.2.1 == (0 : Int)) (
    some (p.2.2.1, (-1074 : Int), ())) (
    let t1 := IntKind.u64.wrap (p.2.2.1 + (4503599627370496 : Int))
    let t2 := IntKind.i64.wrap (p.2.1 - (1075 : Int))
    some (t1, t2, ()))

noncomputable def ref02PartsValue.body : Code := Tryd.f76.body.getD .skip
noncomputable def ref02PartsValue.con : Con := { ps := [kS5], rs := [(.int .u64), (.int .i64)], f := fun n x => ref02PartsValue n x.1 }
noncomputable def ref02PartsValue.env : Env := { tys := [(76, ⟨kS5, 24⟩), (41, ⟨(.int .u64), 8⟩), (3, ⟨(.int .i64), 8⟩)], elems := [], ptrs := [], cons := [], objs := [], loops := [], cuts := [], globs := globs, base := 0 }
noncomputable def ref02PartsValue.lp (n : Nat) : LP (Kd.struct ref02PartsValue.con.rs).T := fun lo κ body nm K s =>
  loops n (Kd.struct ref02PartsValue.con.rs).T lo κ body nm K s
theorem ref02PartsValue.eq (n : Nat) (x : (Kd.struct ref02PartsValue.con.ps).T) : evFunc ref02PartsValue.env Tryd.f76 ref02PartsValue.body ref02PartsValue.con.ps ref02PartsValue.con.rs (ref02PartsValue.lp n) n x = ref02PartsValue.con.f n x := by kernel_rfl
theorem ref02PartsValue.sound : Sound Tryd.prog globs 76 ref02PartsValue.con :=
  sound_by (E := ref02PartsValue.env) (c := ref02PartsValue.body) (envOk (G := globs) (lc := []) (lo := []) (envB_spec (by kernel_rfl)) rfl rfl trivial rfl trivial (by kernel_rfl) (by kernel_rfl)) Tryd.func76 (by kernel_rfl) ref02PartsValue.lp (l := []) (by kernel_rfl) (fun n => trivial) ref02PartsValue.eq
noncomputable def ref02PartsFloor.b10 (fu : Nat) (next : Int → Int → Int → Bool → S5 → Option (Int × Bool × Int × Unit)) (k2 : Int → Int → Int → Bool → S5 → Option (Int × Bool × Int × Unit)) (side : Int) (mv : Int) (ev : Int) (exact : Bool) (b0 : S5) : Option (Int × Bool × Int × Unit) :=
  cond (decide (ev < (0 : Int))) (
    let t1 := Int.tmod mv (2 : Int) == (1 : Int)
    cond t1 (
      let t2 := IntKind.u64.wrap (Int.tdiv mv (2 : Int))
      let t3 := IntKind.i64.wrap (ev + (1 : Int))
      next side t2 t3 false b0) (
      let t4 := IntKind.u64.wrap (Int.tdiv mv (2 : Int))
      let t5 := IntKind.i64.wrap (ev + (1 : Int))
      next side t4 t5 exact b0)) (
    k2 side mv ev exact b0)
noncomputable def ref02PartsFloor.l10 (fu : Nat) (k2 : Int → Int → Int → Bool → S5 → Option (Int × Bool × Int × Unit)) : Nat → Int → Int → Int → Bool → S5 → Option (Int × Bool × Int × Unit)
  | 0, _, _, _, _, _ => none
  | m + 1, side, mv, ev, exact, b0 => ref02PartsFloor.b10 fu (ref02PartsFloor.l10 fu k2 m) k2 side mv ev exact b0
noncomputable def ref02PartsFloor.b15 (fu : Nat) (next : Int → Int → Int → Bool → S5 → Option (Int × Bool × Int × Unit)) (k1 : Int → Bool → Int → Option (Int × Bool × Int × Unit)) (k4 : Int → Bool → S5 → Option (Int × Bool × Int × Unit)) (side : Int) (mv : Int) (ev : Int) (exact : Bool) (b0 : S5) : Option (Int × Bool × Int × Unit) :=
  cond (decide (ev > (0 : Int))) (
    let t1 := decide (mv ≥ (9223372036854775808 : Int))
    cond t1 (
      k1 (0 : Int) false side) (
      let t2 := IntKind.u64.wrap (mv * (2 : Int))
      let t3 := IntKind.i64.wrap (ev - (1 : Int))
      next side t2 t3 exact b0)) (
    k4 mv exact b0)
noncomputable def ref02PartsFloor.l15 (fu : Nat) (k1 : Int → Bool → Int → Option (Int × Bool × Int × Unit)) (k4 : Int → Bool → S5 → Option (Int × Bool × Int × Unit)) : Nat → Int → Int → Int → Bool → S5 → Option (Int × Bool × Int × Unit)
  | 0, _, _, _, _, _ => none
  | m + 1, side, mv, ev, exact, b0 => ref02PartsFloor.b15 fu (ref02PartsFloor.l15 fu k1 k4 m) k1 k4 side mv ev exact b0
noncomputable def ref02PartsFloor.j26 (fu : Nat) (k1 : Int → Bool → Int → Option (Int × Bool × Int × Unit)) (mv : Int) (exact : Bool) : Option (Int × Bool × Int × Unit) :=
  let t1 := decide (mv > (9223372036854775808 : Int))
  cond t1 (
    k1 (0 : Int) false (-1 : Int)) (
    let t2 := IntKind.u64.wrap (0 - mv)
    k1 (IntKind.i64.wrap t2) exact (0 : Int))
noncomputable def ref02PartsFloor.j4 (fu : Nat) (k1 : Int → Bool → Int → Option (Int × Bool × Int × Unit)) (side : Int) (b0 : S5) : Option (Int × Bool × Int × Unit) :=
  cond (b0.2.1 == (2047 : Int)) (
    k1 (0 : Int) false side) (
    (ref02PartsValue fu b0).bind fun r1 =>
    cond (r1.1 == (0 : Int)) (
      k1 (0 : Int) true (0 : Int)) (
      ref02PartsFloor.l10 fu (fun sideq4 mvq4 evq4 exactq4 b0q4 => 
          ref02PartsFloor.l15 fu (fun vq7 vq7x2 vq7x3 => 
              k1 vq7 vq7x2 vq7x3) (fun mvq8 exactq8 b0q8 => 
              cond (!b0q8.1) (
                let t2 := decide (mvq8 ≥ (9223372036854775808 : Int))
                cond t2 (
                  k1 (0 : Int) false (1 : Int)) (
                  k1 (IntKind.i64.wrap mvq8) exactq8 (0 : Int))) (
                cond (!exactq8) (
                  let t3 := IntKind.u64.wrap (mvq8 + (1 : Int))
                  ref02PartsFloor.j26 fu (fun vq9 vq9x2 vq9x3 => 
                      k1 vq9 vq9x2 vq9x3) t3 exactq8) (
                  ref02PartsFloor.j26 fu (fun vq10 vq10x2 vq10x3 => 
                      k1 vq10 vq10x2 vq10x3) mvq8 exactq8))) fu sideq4 mvq4 evq4 exactq4 b0q4) fu side r1.1 r1.2.1 true b0))
noncomputable def ref02PartsFloor (fu : Nat) (p : S5) : Option (Int × Bool × Int × Unit) :=
  cond p.1 (
    ref02PartsFloor.j4 fu (fun vq1 vq1x2 vq1x3 => 
        some (vq1, vq1x2, vq1x3, ())) (-1 : Int) p) (
    ref02PartsFloor.j4 fu (fun vq2 vq2x2 vq2x3 => 
        some (vq2, vq2x2, vq2x3, ())) (1 : Int) p)

noncomputable def ref02PartsFloor.body : Code := Tryd.f57.body.getD .skip
abbrev ref02PartsFloor.shl10 : Shp := ⟨[.u, .p 0 0, .u, .u, .u, .d (.int .i64), .d (.int .u64), .d (.int .i64), .d .bool, .u, .u, .u, .u, .u, .u, .u, .u, .u, .u, .u, .u, .u, .u, .u, .u, .u, .u, .u, .u, .u, .u, .u, .u, .u, .u, .u, .u, .u, .u, .u, .u, .u, .u, .u, .u, .u, .u, .u, .u, .u, .u, .u, .u, .u, .u, .u, .u, .u], [.c [.g kS5]]⟩
abbrev ref02PartsFloor.outl10e2 : Shp := ⟨[.u, .p 0 0, .u, .u, .u, .d (.int .i64), .d (.int .u64), .d (.int .i64), .d .bool, .u, .u, .u, .u, .u, .u, .u, .u, .u, .u, .u, .u, .u, .u, .u, .u, .u, .u, .u, .u, .u, .u, .u, .u, .u, .u, .u, .u, .u, .u, .u, .u, .u, .u, .u, .u, .u, .u, .u, .u, .u, .u, .u, .u, .u, .u, .u, .u, .u], [.c [.g kS5]]⟩
noncomputable def ref02PartsFloor.nml10 : Norm := ⟨{ keep := [1, 5, 6, 7, 8], shut := [(5, (.int .i64)), (6, (.int .u64)), (7, (.int .i64)), (8, .bool)], retag := [], heap := 1, dead := [], cshut := [(0, 0, .bool), (0, 1, (.int .i64)), (0, 2, (.int .u64))], cretag := [] }, [(2, { keep := [1, 5, 6, 7, 8], shut := [(5, (.int .i64)), (6, (.int .u64)), (7, (.int .i64)), (8, .bool)], retag := [], heap := 1, dead := [], cshut := [(0, 0, .bool), (0, 1, (.int .i64)), (0, 2, (.int .u64))], cretag := [] })]⟩
abbrev ref02PartsFloor.shl15 : Shp := ⟨[.u, .p 0 0, .u, .u, .u, .d (.int .i64), .d (.int .u64), .d (.int .i64), .d .bool, .u, .u, .u, .u, .u, .u, .u, .u, .u, .u, .u, .u, .u, .u, .u, .u, .u, .u, .u, .u, .u, .u, .u, .u, .u, .u, .u, .u, .u, .u, .u, .u, .u, .u, .u, .u, .u, .u, .u, .u, .u, .u, .u, .u, .u, .u, .u, .u, .u], [.c [.g kS5]]⟩
abbrev ref02PartsFloor.outl15e1 : Shp := ⟨[.u, .u, .d (.int .i64), .d .bool, .d (.int .i64), .u, .u, .u, .u, .u, .u, .u, .u, .u, .u, .u, .u, .u, .u, .u, .u, .u, .u, .u, .u, .u, .u, .u, .u, .u, .u, .u, .u, .u, .u, .u, .u, .u, .u, .u, .u, .u, .u, .u, .u, .u, .u, .u, .u, .u, .u, .u, .u, .u, .u, .u, .u, .u], []⟩
abbrev ref02PartsFloor.outl15e4 : Shp := ⟨[.u, .p 0 0, .u, .u, .u, .u, .d (.int .u64), .u, .d .bool, .u, .u, .u, .u, .u, .u, .u, .u, .u, .u, .u, .u, .u, .u, .u, .u, .u, .u, .u, .u, .u, .u, .u, .u, .u, .u, .u, .u, .u, .u, .u, .u, .u, .u, .u, .u, .u, .u, .u, .u, .u, .u, .u, .u, .u, .u, .u, .u, .u], [.c [.g kS5]]⟩
noncomputable def ref02PartsFloor.nml15 : Norm := ⟨{ keep := [1, 5, 6, 7, 8], shut := [(5, (.int .i64)), (6, (.int .u64)), (7, (.int .i64)), (8, .bool)], retag := [], heap := 1, dead := [], cshut := [(0, 0, .bool), (0, 1, (.int .i64)), (0, 2, (.int .u64))], cretag := [] }, [(1, { keep := [2, 3, 4], shut := [(2, (.int .i64)), (3, .bool), (4, (.int .i64))], retag := [], heap := 0, dead := [], cshut := [], cretag := [] }), (4, { keep := [1, 6, 8], shut := [(6, (.int .u64)), (8, .bool)], retag := [], heap := 1, dead := [], cshut := [(0, 0, .bool), (0, 1, (.int .i64)), (0, 2, (.int .u64))], cretag := [] })]⟩
abbrev ref02PartsFloor.shj26 : Shp := ⟨[.u, .u, .u, .u, .u, .u, .d (.int .u64), .u, .d .bool, .u, .u, .u, .u, .u, .u, .u, .u, .u, .u, .u, .u, .u, .u, .u, .u, .u, .u, .u, .u, .u, .u, .u, .u, .u, .u, .u, .u, .u, .u, .u, .u, .u, .u, .u, .u, .u, .u, .u, .u, .u, .u, .u, .u, .u, .u, .u, .u, .u], []⟩
abbrev ref02PartsFloor.outj26e1 : Shp := ⟨[.u, .u, .d (.int .i64), .d .bool, .d (.int .i64), .u, .u, .u, .u, .u, .u, .u, .u, .u, .u, .u, .u, .u, .u, .u, .u, .u, .u, .u, .u, .u, .u, .u, .u, .u, .u, .u, .u, .u, .u, .u, .u, .u, .u, .u, .u, .u, .u, .u, .u, .u, .u, .u, .u, .u, .u, .u, .u, .u, .u, .u, .u, .u], []⟩
noncomputable def ref02PartsFloor.nmj26 : Norm := ⟨{ keep := [6, 8], shut := [(6, (.int .u64)), (8, .bool)], retag := [], heap := 0, dead := [], cshut := [], cretag := [] }, [(1, { keep := [2, 3, 4], shut := [(2, (.int .i64)), (3, .bool), (4, (.int .i64))], retag := [], heap := 0, dead := [], cshut := [], cretag := [] })]⟩
abbrev ref02PartsFloor.shj4 : Shp := ⟨[.u, .p 0 0, .u, .u, .u, .d (.int .i64), .u, .u, .u, .u, .u, .u, .u, .u, .u, .u, .u, .u, .u, .u, .u, .u, .u, .u, .u, .u, .u, .u, .u, .u, .u, .u, .u, .u, .u, .u, .u, .u, .u, .u, .u, .u, .u, .u, .u, .u, .u, .u, .u, .u, .u, .u, .u, .u, .u, .u, .u, .u], [.c [.g kS5]]⟩
abbrev ref02PartsFloor.outj4e1 : Shp := ⟨[.u, .u, .d (.int .i64), .d .bool, .d (.int .i64), .u, .u, .u, .u, .u, .u, .u, .u, .u, .u, .u, .u, .u, .u, .u, .u, .u, .u, .u, .u, .u, .u, .u, .u, .u, .u, .u, .u, .u, .u, .u, .u, .u, .u, .u, .u, .u, .u, .u, .u, .u, .u, .u, .u, .u, .u, .u, .u, .u, .u, .u, .u, .u], []⟩
noncomputable def ref02PartsFloor.nmj4 : Norm := ⟨{ keep := [1, 5], shut := [(5, (.int .i64))], retag := [], heap := 1, dead := [], cshut := [(0, 0, .bool), (0, 1, (.int .i64)), (0, 2, (.int .u64))], cretag := [] }, [(1, { keep := [2, 3, 4], shut := [(2, (.int .i64)), (3, .bool), (4, (.int .i64))], retag := [], heap := 0, dead := [], cshut := [], cretag := [] })]⟩
noncomputable def ref02PartsFloor.con : Con := { ps := [kS5], rs := [(.int .i64), .bool, (.int .i64)], f := fun n x => ref02PartsFloor n x.1 }
noncomputable def ref02PartsFloor.env : Env := { tys := [(76, ⟨kS5, 24⟩), (2, ⟨(.int .i64), 8⟩), (4, ⟨.bool, 1⟩), (3, ⟨(.int .i64), 8⟩), (41, ⟨(.int .u64), 8⟩)], elems := [], ptrs := [], cons := [(76, ref02PartsValue.con)], objs := [], loops := [(10, ref02PartsFloor.nml10), (15, ref02PartsFloor.nml15)], cuts := [(26, ref02PartsFloor.nmj26), (4, ref02PartsFloor.nmj4)], globs := globs, base := 0 }
noncomputable def ref02PartsFloor.lp (n : Nat) : LP (Kd.struct ref02PartsFloor.con.rs).T := fun lo κ body nm K s =>
  cond (lo && Nat.beq κ 10)
    (match ref02PartsFloor.shl10.dec s with
    | some v => ref02PartsFloor.l10 n (fun w0 w1 w2 w3 w4 => K (.exit 0) (ref02PartsFloor.outl10e2.enc (w0, w1, w2, w3, w4, ()))) n v.1 v.2.1 v.2.2.1 v.2.2.2.1 v.2.2.2.2.1
    | none => loops n (Kd.struct ref02PartsFloor.con.rs).T lo κ body nm K s)
    (cond (lo && Nat.beq κ 15)
    (match ref02PartsFloor.shl15.dec s with
    | some v => ref02PartsFloor.l15 n (fun w0 w1 w2 => K .ret (ref02PartsFloor.outl15e1.enc (w0, w1, w2, ()))) (fun w0 w1 w2 => K (.exit 2) (ref02PartsFloor.outl15e4.enc (w0, w1, w2, ()))) n v.1 v.2.1 v.2.2.1 v.2.2.2.1 v.2.2.2.2.1
    | none => loops n (Kd.struct ref02PartsFloor.con.rs).T lo κ body nm K s)
    (cond (!lo && Nat.beq κ 26)
    (match ref02PartsFloor.shj26.dec s with
    | some v => ref02PartsFloor.j26 n (fun w0 w1 w2 => K .ret (ref02PartsFloor.outj26e1.enc (w0, w1, w2, ()))) v.1 v.2.1
    | none => loops n (Kd.struct ref02PartsFloor.con.rs).T lo κ body nm K s)
    (cond (!lo && Nat.beq κ 4)
    (match ref02PartsFloor.shj4.dec s with
    | some v => ref02PartsFloor.j4 n (fun w0 w1 w2 => K .ret (ref02PartsFloor.outj4e1.enc (w0, w1, w2, ()))) v.1 v.2.1
    | none => loops n (Kd.struct ref02PartsFloor.con.rs).T lo κ body nm K s)
    (loops n (Kd.struct ref02PartsFloor.con.rs).T lo κ body nm K s))))
theorem ref02PartsFloor.atl10 (n : Nat) (s : St) (K : Ex → St → Option (Kd.struct ref02PartsFloor.con.rs).T) : (ref02PartsFloor.lp n) true 10 (evK ref02PartsFloor.env (ref02PartsFloor.lp n) n (sub [1, 1, 1, 1, 1, 1, 1, 0, 0, 0] ref02PartsFloor.body)) ref02PartsFloor.nml10 K s = loops n (Kd.struct ref02PartsFloor.con.rs).T true 10 (evK ref02PartsFloor.env (ref02PartsFloor.lp n) n (sub [1, 1, 1, 1, 1, 1, 1, 0, 0, 0] ref02PartsFloor.body)) ref02PartsFloor.nml10 K s := by
  show (match ref02PartsFloor.shl10.dec s with | some v => ref02PartsFloor.l10 n (fun w0 w1 w2 w3 w4 => K (.exit 0) (ref02PartsFloor.outl10e2.enc (w0, w1, w2, w3, w4, ()))) n v.1 v.2.1 v.2.2.1 v.2.2.2.1 v.2.2.2.2.1 | none => loops n (Kd.struct ref02PartsFloor.con.rs).T true 10 (evK ref02PartsFloor.env (ref02PartsFloor.lp n) n (sub [1, 1, 1, 1, 1, 1, 1, 0, 0, 0] ref02PartsFloor.body)) ref02PartsFloor.nml10 K s) = _
  cases h : ref02PartsFloor.shl10.dec s with
  | none => rfl
  | some v =>
    rw [Shp.dec_enc h]
    exact (evLoop_eq (sh := ref02PartsFloor.shl10) (body := evK ref02PartsFloor.env (ref02PartsFloor.lp n) n (sub [1, 1, 1, 1, 1, 1, 1, 0, 0, 0] ref02PartsFloor.body)) (nm := ref02PartsFloor.nml10) (K := K) (b := fun nx v => ref02PartsFloor.b10 n (fun x0 x1 x2 x3 x4 => nx (x0, x1, x2, x3, x4, ())) (fun w0 w1 w2 w3 w4 => K (.exit 0) (ref02PartsFloor.outl10e2.enc (w0, w1, w2, w3, w4, ()))) v.1 v.2.1 v.2.2.1 v.2.2.2.1 v.2.2.2.2.1) (l := fun m v => ref02PartsFloor.l10 n (fun w0 w1 w2 w3 w4 => K (.exit 0) (ref02PartsFloor.outl10e2.enc (w0, w1, w2, w3, w4, ()))) m v.1 v.2.1 v.2.2.1 v.2.2.2.1 v.2.2.2.2.1) (fun _ => rfl) (fun _ _ => rfl) (fun m v => by kernel_rfl) n v).symm
theorem ref02PartsFloor.atl15 (n : Nat) (s : St) (K : Ex → St → Option (Kd.struct ref02PartsFloor.con.rs).T) : (ref02PartsFloor.lp n) true 15 (evK ref02PartsFloor.env (ref02PartsFloor.lp n) n (sub [1, 1, 1, 1, 1, 1, 1, 1, 0, 0, 0] ref02PartsFloor.body)) ref02PartsFloor.nml15 K s = loops n (Kd.struct ref02PartsFloor.con.rs).T true 15 (evK ref02PartsFloor.env (ref02PartsFloor.lp n) n (sub [1, 1, 1, 1, 1, 1, 1, 1, 0, 0, 0] ref02PartsFloor.body)) ref02PartsFloor.nml15 K s := by
  show (match ref02PartsFloor.shl15.dec s with | some v => ref02PartsFloor.l15 n (fun w0 w1 w2 => K .ret (ref02PartsFloor.outl15e1.enc (w0, w1, w2, ()))) (fun w0 w1 w2 => K (.exit 2) (ref02PartsFloor.outl15e4.enc (w0, w1, w2, ()))) n v.1 v.2.1 v.2.2.1 v.2.2.2.1 v.2.2.2.2.1 | none => loops n (Kd.struct ref02PartsFloor.con.rs).T true 15 (evK ref02PartsFloor.env (ref02PartsFloor.lp n) n (sub [1, 1, 1, 1, 1, 1, 1, 1, 0, 0, 0] ref02PartsFloor.body)) ref02PartsFloor.nml15 K s) = _
  cases h : ref02PartsFloor.shl15.dec s with
  | none => rfl
  | some v =>
    rw [Shp.dec_enc h]
    exact (evLoop_eq (sh := ref02PartsFloor.shl15) (body := evK ref02PartsFloor.env (ref02PartsFloor.lp n) n (sub [1, 1, 1, 1, 1, 1, 1, 1, 0, 0, 0] ref02PartsFloor.body)) (nm := ref02PartsFloor.nml15) (K := K) (b := fun nx v => ref02PartsFloor.b15 n (fun x0 x1 x2 x3 x4 => nx (x0, x1, x2, x3, x4, ())) (fun w0 w1 w2 => K .ret (ref02PartsFloor.outl15e1.enc (w0, w1, w2, ()))) (fun w0 w1 w2 => K (.exit 2) (ref02PartsFloor.outl15e4.enc (w0, w1, w2, ()))) v.1 v.2.1 v.2.2.1 v.2.2.2.1 v.2.2.2.2.1) (l := fun m v => ref02PartsFloor.l15 n (fun w0 w1 w2 => K .ret (ref02PartsFloor.outl15e1.enc (w0, w1, w2, ()))) (fun w0 w1 w2 => K (.exit 2) (ref02PartsFloor.outl15e4.enc (w0, w1, w2, ()))) m v.1 v.2.1 v.2.2.1 v.2.2.2.1 v.2.2.2.2.1) (fun _ => rfl) (fun _ _ => rfl) (fun m v => by kernel_rfl) n v).symm
theorem ref02PartsFloor.atj26 (n : Nat) (s : St) (K : Ex → St → Option (Kd.struct ref02PartsFloor.con.rs).T) : (ref02PartsFloor.lp n) false 26 (evK ref02PartsFloor.env (ref02PartsFloor.lp n) n (sub [1, 1, 1, 1, 1, 1, 1, 1, 1, 1, 1] ref02PartsFloor.body)) ref02PartsFloor.nmj26 K s = loops n (Kd.struct ref02PartsFloor.con.rs).T false 26 (evK ref02PartsFloor.env (ref02PartsFloor.lp n) n (sub [1, 1, 1, 1, 1, 1, 1, 1, 1, 1, 1] ref02PartsFloor.body)) ref02PartsFloor.nmj26 K s := by
  show (match ref02PartsFloor.shj26.dec s with | some v => ref02PartsFloor.j26 n (fun w0 w1 w2 => K .ret (ref02PartsFloor.outj26e1.enc (w0, w1, w2, ()))) v.1 v.2.1 | none => loops n (Kd.struct ref02PartsFloor.con.rs).T false 26 (evK ref02PartsFloor.env (ref02PartsFloor.lp n) n (sub [1, 1, 1, 1, 1, 1, 1, 1, 1, 1, 1] ref02PartsFloor.body)) ref02PartsFloor.nmj26 K s) = _
  cases h : ref02PartsFloor.shj26.dec s with
  | none => rfl
  | some v =>
    rw [Shp.dec_enc h]
    kernel_rfl
theorem ref02PartsFloor.atj4 (n : Nat) (s : St) (K : Ex → St → Option (Kd.struct ref02PartsFloor.con.rs).T) : (ref02PartsFloor.lp n) false 4 (evK ref02PartsFloor.env (ref02PartsFloor.lp n) n (sub [1, 1, 1] ref02PartsFloor.body)) ref02PartsFloor.nmj4 K s = loops n (Kd.struct ref02PartsFloor.con.rs).T false 4 (evK ref02PartsFloor.env (ref02PartsFloor.lp n) n (sub [1, 1, 1] ref02PartsFloor.body)) ref02PartsFloor.nmj4 K s := by
  show (match ref02PartsFloor.shj4.dec s with | some v => ref02PartsFloor.j4 n (fun w0 w1 w2 => K .ret (ref02PartsFloor.outj4e1.enc (w0, w1, w2, ()))) v.1 v.2.1 | none => loops n (Kd.struct ref02PartsFloor.con.rs).T false 4 (evK ref02PartsFloor.env (ref02PartsFloor.lp n) n (sub [1, 1, 1] ref02PartsFloor.body)) ref02PartsFloor.nmj4 K s) = _
  cases h : ref02PartsFloor.shj4.dec s with
  | none => rfl
  | some v =>
    rw [Shp.dec_enc h]
    kernel_rfl
theorem ref02PartsFloor.eq (n : Nat) (x : (Kd.struct ref02PartsFloor.con.ps).T) : evFunc ref02PartsFloor.env Tryd.f57 ref02PartsFloor.body ref02PartsFloor.con.ps ref02PartsFloor.con.rs (ref02PartsFloor.lp n) n x = ref02PartsFloor.con.f n x := by kernel_rfl
theorem ref02PartsFloor.sound : Sound Tryd.prog globs 57 ref02PartsFloor.con :=
  sound_by (E := ref02PartsFloor.env) (c := ref02PartsFloor.body) (envOk (G := globs) (lc := [(76, ref02PartsValue.con)]) (lo := []) (envB_spec (by kernel_rfl)) rfl rfl ⟨.inl ⟨ref02PartsValue.sound, by kernel_rfl⟩, trivial⟩ rfl trivial (by kernel_rfl) (by kernel_rfl)) Tryd.func57 (by kernel_rfl) ref02PartsFloor.lp (l := [(true, sub [1, 1, 1, 1, 1, 1, 1, 0, 0, 0] ref02PartsFloor.body, ref02PartsFloor.nml10), (true, sub [1, 1, 1, 1, 1, 1, 1, 1, 0, 0, 0] ref02PartsFloor.body, ref02PartsFloor.nml15), (false, sub [1, 1, 1, 1, 1, 1, 1, 1, 1, 1, 1] ref02PartsFloor.body, ref02PartsFloor.nmj26), (false, sub [1, 1, 1] ref02PartsFloor.body, ref02PartsFloor.nmj4)]) (by kernel_rfl) (fun n => ⟨ref02PartsFloor.atl10 n, ⟨ref02PartsFloor.atl15 n, ⟨ref02PartsFloor.atj26 n, ⟨ref02PartsFloor.atj4 n, trivial⟩⟩⟩⟩) ref02PartsFloor.eq
noncomputable def ref02Against (fu : Nat) (n : Int) (p : S5) : Option (Int × Bool × Unit) :=
  (ref02PartsNaN fu p).bind fun r1 =>
  cond r1.1 (
    some ((0 : Int), false, ())) (
    (ref02PartsFloor fu p).bind fun r2 =>
    cond (r2.2.2.1 != (0 : Int)) (
      let t3 := IntKind.i64.wrap (0 - r2.2.2.1)
      some (t3, true, ())) (
      cond (decide (n < r2.1)) (
        some ((-1 : Int), true, ())) (
        cond (decide (n > r2.1)) (
          some ((1 : Int), true, ())) (
          cond (!r2.2.1) (
            some ((-1 : Int), true, ())) (
            some ((0 : Int), true, ()))))))

noncomputable def ref02Against.body : Code := Tryd.f36.body.getD .skip
noncomputable def ref02Against.con : Con := { ps := [(.int .i64), kS5], rs := [(.int .i64), .bool], f := fun n x => ref02Against n x.1 x.2.1 }
noncomputable def ref02Against.env : Env := { tys := [(76, ⟨kS5, 24⟩), (3, ⟨(.int .i64), 8⟩), (4, ⟨.bool, 1⟩)], elems := [], ptrs := [], cons := [(53, ref02PartsNaN.con), (57, ref02PartsFloor.con)], objs := [], loops := [], cuts := [], globs := globs, base := 0 }
noncomputable def ref02Against.lp (n : Nat) : LP (Kd.struct ref02Against.con.rs).T := fun lo κ body nm K s =>
  loops n (Kd.struct ref02Against.con.rs).T lo κ body nm K s
theorem ref02Against.eq (n : Nat) (x : (Kd.struct ref02Against.con.ps).T) : evFunc ref02Against.env Tryd.f36 ref02Against.body ref02Against.con.ps ref02Against.con.rs (ref02Against.lp n) n x = ref02Against.con.f n x := by kernel_rfl
theorem ref02Against.sound : Sound Tryd.prog globs 36 ref02Against.con :=
  sound_by (E := ref02Against.env) (c := ref02Against.body) (envOk (G := globs) (lc := [(53, ref02PartsNaN.con), (57, ref02PartsFloor.con)]) (lo := []) (envB_spec (by kernel_rfl)) rfl rfl ⟨.inl ⟨ref02PartsNaN.sound, by kernel_rfl⟩, ⟨.inl ⟨ref02PartsFloor.sound, by kernel_rfl⟩, trivial⟩⟩ rfl trivial (by kernel_rfl) (by kernel_rfl)) Tryd.func36 (by kernel_rfl) ref02Against.lp (l := []) (by kernel_rfl) (fun n => trivial) ref02Against.eq
noncomputable def ref04Compare.j51006 (fu : Nat) (k0 : S0 → S0 → Option (Int × Bool × Unit)) (k1 : Int → Bool → Option (Int × Bool × Unit)) (v : Bool) (b0 : S0) (b1 : S0) : Option (Int × Bool × Unit) :=
  cond v (
    (ref02Of fu b0.2.2.1).bind fun r1 =>
    (ref02Of fu b1.2.2.1).bind fun r2 =>
    (ref02Compare fu r1.1 r2.1).bind fun r3 =>
    k1 r3.1 r3.2.1) (
    k0 b0 b1)
noncomputable def ref04Compare.j7 (fu : Nat) (k1 : Int → Bool → Option (Int × Bool × Unit)) (b0 : S0) (b1 : S0) : Option (Int × Bool × Unit) :=
  cond (b1.1 == (2 : Int)) (
    (ref02Of fu b1.2.2.1).bind fun r1 =>
    (ref02Against fu b0.2.1 r1.1).bind fun r2 =>
    k1 r2.1 r2.2.1) (
    cond (b0.1 == (2 : Int)) (
      (ref02Of fu b0.2.2.1).bind fun r3 =>
      (ref02Against fu b1.2.1 r3.1).bind fun r4 =>
      let t5 := IntKind.i64.wrap (0 - r4.1)
      k1 t5 r4.2.1) (
      cond (decide (b0.2.1 < b1.2.1)) (
        k1 (-1 : Int) true) (
        cond (decide (b0.2.1 > b1.2.1)) (
          k1 (1 : Int) true) (
          k1 (0 : Int) true))))
noncomputable def ref04Compare (fu : Nat) (a : S0) (b : S0) : Option (Int × Bool × Unit) :=
  (ref04May fu a).bind fun r1 =>
  cond (!r1.1) (
    some ((0 : Int), false, ())) (
    (ref04May fu b).bind fun r2 =>
    cond (!r2.1) (
      some ((0 : Int), false, ())) (
      cond (a.1 == (0 : Int)) (
        some ((0 : Int), false, ())) (
        cond (b.1 == (0 : Int)) (
          some ((0 : Int), false, ())) (
          let t3 := !((a.1 == (3 : Int)) == (b.1 == (3 : Int)))
          cond t3 (
            some ((0 : Int), false, ())) (
            cond (a.1 == (3 : Int)) (
              (ref04Texts fu a.2.2.2.1 b.2.2.2.1).bind fun r4 =>
              some (r4.1, true, ())) (
              cond (a.1 == (2 : Int)) (
                ref04Compare.j51006 fu (fun b0q1 b1q1 => 
                    ref04Compare.j7 fu (fun vq2 vq2x2 => 
                        some (vq2, vq2x2, ())) b0q1 b1q1) (fun vq3 vq3x2 => 
                    some (vq3, vq3x2, ())) (b.1 == (2 : Int)) a b) (
                ref04Compare.j51006 fu (fun b0q4 b1q4 => 
                    ref04Compare.j7 fu (fun vq5 vq5x2 => 
                        some (vq5, vq5x2, ())) b0q4 b1q4) (fun vq6 vq6x2 => 
                    some (vq6, vq6x2, ())) false a b)))))))

noncomputable def ref04Compare.body : Code := Tryd.f17.body.getD .skip
abbrev ref04Compare.shj51006 : Shp := ⟨[.u, .u, .p 0 0, .p 1 0, .u, .u, .u, .u, .u, .u, .u, .u, .u, .u, .u, .u, .u, .u, .u, .u, .u, .u, .u, .u, .u, .u, .u, .u, .u, .u, .u, .u, .u, .u, .u, .u, .u, .u, .u, .u, .u, .u, .u, .u, .u, .u, .u, .u, .u, .u, .d .bool, .u, .u, .u, .u, .u, .u, .u, .u, .u, .u, .u, .u, .u, .u, .u, .u, .u, .u, .u, .u, .u, .u, .u, .u, .u, .u, .u, .u, .u, .u, .u, .u, .u, .u, .u, .u, .u, .u, .u, .u, .u, .u, .u, .u, .u], [.c [.g kS0], .c [.g kS0]]⟩
abbrev ref04Compare.outj51006e0 : Shp := ⟨[.u, .u, .p 0 0, .p 1 0, .u, .u, .u, .u, .u, .u, .u, .u, .u, .u, .u, .u, .u, .u, .u, .u, .u, .u, .u, .u, .u, .u, .u, .u, .u, .u, .u, .u, .u, .u, .u, .u, .u, .u, .u, .u, .u, .u, .u, .u, .u, .u, .u, .u, .u, .u, .u, .u, .u, .u, .u, .u, .u, .u, .u, .u, .u, .u, .u, .u, .u, .u, .u, .u, .u, .u, .u, .u, .u, .u, .u, .u, .u, .u, .u, .u, .u, .u, .u, .u, .u, .u, .u, .u, .u, .u, .u, .u, .u, .u, .u, .u], [.c [.g kS0], .c [.g kS0]]⟩
abbrev ref04Compare.outj51006e1 : Shp := ⟨[.u, .u, .u, .u, .d (.int .i64), .d .bool, .u, .u, .u, .u, .u, .u, .u, .u, .u, .u, .u, .u, .u, .u, .u, .u, .u, .u, .u, .u, .u, .u, .u, .u, .u, .u, .u, .u, .u, .u, .u, .u, .u, .u, .u, .u, .u, .u, .u, .u, .u, .u, .u, .u, .u, .u, .u, .u, .u, .u, .u, .u, .u, .u, .u, .u, .u, .u, .u, .u, .u, .u, .u, .u, .u, .u, .u, .u, .u, .u, .u, .u, .u, .u, .u, .u, .u, .u, .u, .u, .u, .u, .u, .u, .u, .u, .u, .u, .u, .u], []⟩
noncomputable def ref04Compare.nmj51006 : Norm := ⟨{ keep := [2, 3, 50], shut := [(50, .bool)], retag := [], heap := 2, dead := [], cshut := [(0, 0, (.int .u8)), (0, 1, (.int .i64)), (0, 2, .flt), (0, 3, .str), (1, 0, (.int .u8)), (1, 1, (.int .i64)), (1, 2, .flt), (1, 3, .str)], cretag := [] }, [(0, { keep := [2, 3], shut := [], retag := [], heap := 2, dead := [], cshut := [(0, 0, (.int .u8)), (0, 1, (.int .i64)), (0, 2, .flt), (0, 3, .str), (1, 0, (.int .u8)), (1, 1, (.int .i64)), (1, 2, .flt), (1, 3, .str)], cretag := [] }), (1, { keep := [4, 5], shut := [(4, (.int .i64)), (5, .bool)], retag := [], heap := 0, dead := [], cshut := [], cretag := [] })]⟩
abbrev ref04Compare.shj7 : Shp := ⟨[.u, .u, .p 0 0, .p 1 0, .u, .u, .u, .u, .u, .u, .u, .u, .u, .u, .u, .u, .u, .u, .u, .u, .u, .u, .u, .u, .u, .u, .u, .u, .u, .u, .u, .u, .u, .u, .u, .u, .u, .u, .u, .u, .u, .u, .u, .u, .u, .u, .u, .u, .u, .u, .u, .u, .u, .u, .u, .u, .u, .u, .u, .u, .u, .u, .u, .u, .u, .u, .u, .u, .u, .u, .u, .u, .u, .u, .u, .u, .u, .u, .u, .u, .u, .u, .u, .u, .u, .u, .u, .u, .u, .u, .u, .u, .u, .u, .u, .u], [.c [.g kS0], .c [.g kS0]]⟩
abbrev ref04Compare.outj7e1 : Shp := ⟨[.u, .u, .u, .u, .d (.int .i64), .d .bool, .u, .u, .u, .u, .u, .u, .u, .u, .u, .u, .u, .u, .u, .u, .u, .u, .u, .u, .u, .u, .u, .u, .u, .u, .u, .u, .u, .u, .u, .u, .u, .u, .u, .u, .u, .u, .u, .u, .u, .u, .u, .u, .u, .u, .u, .u, .u, .u, .u, .u, .u, .u, .u, .u, .u, .u, .u, .u, .u, .u, .u, .u, .u, .u, .u, .u, .u, .u, .u, .u, .u, .u, .u, .u, .u, .u, .u, .u, .u, .u, .u, .u, .u, .u, .u, .u, .u, .u, .u, .u], []⟩
noncomputable def ref04Compare.nmj7 : Norm := ⟨{ keep := [2, 3], shut := [], retag := [], heap := 2, dead := [], cshut := [(0, 0, (.int .u8)), (0, 1, (.int .i64)), (0, 2, .flt), (0, 3, .str), (1, 0, (.int .u8)), (1, 1, (.int .i64)), (1, 2, .flt), (1, 3, .str)], cretag := [] }, [(1, { keep := [4, 5], shut := [(4, (.int .i64)), (5, .bool)], retag := [], heap := 0, dead := [], cshut := [], cretag := [] })]⟩
noncomputable def ref04Compare.con : Con := { ps := [kS0, kS0], rs := [(.int .i64), .bool], f := fun n x => ref04Compare n x.1 x.2.1 }
noncomputable def ref04Compare.env : Env := { tys := [(46, ⟨kS0, 40⟩), (3, ⟨(.int .i64), 8⟩), (4, ⟨.bool, 1⟩), (5, ⟨(.int .u8), 1⟩), (9, ⟨.str, 16⟩), (44, ⟨.flt, 8⟩), (2, ⟨(.int .i64), 8⟩)], elems := [], ptrs := [], cons := [(32, ref04May.con), (33, ref04Texts.con), (35, ref02Of.con), (34, ref02Compare.con), (36, ref02Against.con)], objs := [], loops := [], cuts := [(51006, ref04Compare.nmj51006), (7, ref04Compare.nmj7)], globs := globs, base := 0 }
noncomputable def ref04Compare.lp (n : Nat) : LP (Kd.struct ref04Compare.con.rs).T := fun lo κ body nm K s =>
  cond (!lo && Nat.beq κ 51006)
    (match ref04Compare.shj51006.dec s with
    | some v => ref04Compare.j51006 n (fun w0 w1 => K .normal (ref04Compare.outj51006e0.enc (w0, w1, ()))) (fun w0 w1 => K .ret (ref04Compare.outj51006e1.enc (w0, w1, ()))) v.1 v.2.1 v.2.2.1
    | none => loops n (Kd.struct ref04Compare.con.rs).T lo κ body nm K s)
    (cond (!lo && Nat.beq κ 7)
    (match ref04Compare.shj7.dec s with
    | some v => ref04Compare.j7 n (fun w0 w1 => K .ret (ref04Compare.outj7e1.enc (w0, w1, ()))) v.1 v.2.1
    | none => loops n (Kd.struct ref04Compare.con.rs).T lo κ body nm K s)
    (loops n (Kd.struct ref04Compare.con.rs).T lo κ body nm K s))
theorem ref04Compare.atj51006 (n : Nat) (s : St) (K : Ex → St → Option (Kd.struct ref04Compare.con.rs).T) : (ref04Compare.lp n) false 51006 (evK ref04Compare.env (ref04Compare.lp n) n (sub [1, 1, 1, 0, 1] ref04Compare.body)) ref04Compare.nmj51006 K s = loops n (Kd.struct ref04Compare.con.rs).T false 51006 (evK ref04Compare.env (ref04Compare.lp n) n (sub [1, 1, 1, 0, 1] ref04Compare.body)) ref04Compare.nmj51006 K s := by
  show (match ref04Compare.shj51006.dec s with | some v => ref04Compare.j51006 n (fun w0 w1 => K .normal (ref04Compare.outj51006e0.enc (w0, w1, ()))) (fun w0 w1 => K .ret (ref04Compare.outj51006e1.enc (w0, w1, ()))) v.1 v.2.1 v.2.2.1 | none => loops n (Kd.struct ref04Compare.con.rs).T false 51006 (evK ref04Compare.env (ref04Compare.lp n) n (sub [1, 1, 1, 0, 1] ref04Compare.body)) ref04Compare.nmj51006 K s) = _
  cases h : ref04Compare.shj51006.dec s with
  | none => rfl
  | some v =>
    rw [Shp.dec_enc h]
    kernel_rfl
theorem ref04Compare.atj7 (n : Nat) (s : St) (K : Ex → St → Option (Kd.struct ref04Compare.con.rs).T) : (ref04Compare.lp n) false 7 (evK ref04Compare.env (ref04Compare.lp n) n (sub [1, 1, 1, 1] ref04Compare.body)) ref04Compare.nmj7 K s = loops n (Kd.struct ref04Compare.con.rs).T false 7 (evK ref04Compare.env (ref04Compare.lp n) n (sub [1, 1, 1, 1] ref04Compare.body)) ref04Compare.nmj7 K s := by
  show (match ref04Compare.shj7.dec s with | some v => ref04Compare.j7 n (fun w0 w1 => K .ret (ref04Compare.outj7e1.enc (w0, w1, ()))) v.1 v.2.1 | none => loops n (Kd.struct ref04Compare.con.rs).T false 7 (evK ref04Compare.env (ref04Compare.lp n) n (sub [1, 1, 1, 1] ref04Compare.body)) ref04Compare.nmj7 K s) = _
  cases h : ref04Compare.shj7.dec s with
  | none => rfl
  | some v =>
    rw [Shp.dec_enc h]
    kernel_rfl
theorem ref04Compare.eq (n : Nat) (x : (Kd.struct ref04Compare.con.ps).T) : evFunc ref04Compare.env Tryd.f17 ref04Compare.body ref04Compare.con.ps ref04Compare.con.rs (ref04Compare.lp n) n x = ref04Compare.con.f n x := by kernel_rfl
theorem ref04Compare.sound : Sound Tryd.prog globs 17 ref04Compare.con :=
  sound_by (E := ref04Compare.env) (c := ref04Compare.body) (envOk (G := globs) (lc := [(32, ref04May.con), (33, ref04Texts.con), (35, ref02Of.con), (34, ref02Compare.con), (36, ref02Against.con)]) (lo := []) (envB_spec (by kernel_rfl)) rfl rfl ⟨.inl ⟨ref04May.sound, by kernel_rfl⟩, ⟨.inl ⟨ref04Texts.sound, by kernel_rfl⟩, ⟨.inl ⟨ref02Of.sound, by kernel_rfl⟩, ⟨.inl ⟨ref02Compare.sound, by kernel_rfl⟩, ⟨.inl ⟨ref02Against.sound, by kernel_rfl⟩, trivial⟩⟩⟩⟩⟩ rfl trivial (by kernel_rfl) (by kernel_rfl)) Tryd.func17 (by kernel_rfl) ref04Compare.lp (l := [(false, sub [1, 1, 1, 0, 1] ref04Compare.body, ref04Compare.nmj51006), (false, sub [1, 1, 1, 1] ref04Compare.body, ref04Compare.nmj7)]) (by kernel_rfl) (fun n => ⟨ref04Compare.atj51006 n, ⟨ref04Compare.atj7 n, trivial⟩⟩) ref04Compare.eq
noncomputable def law10PredThree.b7 (fu : Nat) (next : Int → Int → S0 → S0 → (List Bool) → Option (Bool × Unit)) (k2 : Int → S0 → S0 → (List Bool) → Option (Bool × Unit)) (n : Int) (v : Int) (b2 : S0) (b3 : S0) (c4 : List Bool) : Option (Bool × Unit) :=
  cond (decide (v < (7 : Int))) (
    (predHolds fu (true, (0 : Int), [((0 : Int), v, b3, ())], ()) ((0 : Int), [b2], ())).bind fun r1 =>
    chk (ixArr 7 v) <|
    chk (nOk c4 7) <|
    let w2 := stL c4 v r1.1
    chk (ixArr 7 v) <|
    chk (nOk w2 7) <|
    cond (ixL false w2 v) (
      let t3 := IntKind.i64.wrap (n + (1 : Int))
      let t4 := IntKind.u8.wrap (v + (1 : Int))
      next t3 t4 b2 b3 w2) (
      let t5 := IntKind.u8.wrap (v + (1 : Int))
      next n t5 b2 b3 w2)) (
    k2 n b2 b3 c4)
noncomputable def law10PredThree.l7 (fu : Nat) (k2 : Int → S0 → S0 → (List Bool) → Option (Bool × Unit)) : Nat → Int → Int → S0 → S0 → (List Bool) → Option (Bool × Unit)
  | 0, _, _, _, _, _ => none
  | m + 1, n, v, b2, b3, c4 => law10PredThree.b7 fu (law10PredThree.l7 fu k2 m) k2 n v b2 b3 c4
noncomputable def law10PredThree.j18 (fu : Nat) (k1 : Bool → Option (Bool × Unit)) (one : Bool) (c4 : List Bool) : Option (Bool × Unit) :=
  (law10Fixed fu).bind fun r1 =>
  cond r1.1 (
    chk (ixArr 7 (0 : Int)) <|
    chk (nOk c4 7) <|
    let t2 := !(ixL false c4 (0 : Int))
    cond t2 (
      cond one (
        chk (ixArr 7 (2 : Int)) <|
        chk (nOk c4 7) <|
        chk (ixArr 7 (1 : Int)) <|
        chk (nOk c4 7) <|
        let t3 := !(ixL false c4 (1 : Int))
        let t4 := (ixL false c4 (2 : Int)) == t3
        cond t4 (
          chk (ixArr 7 (4 : Int)) <|
          chk (nOk c4 7) <|
          chk (ixArr 7 (5 : Int)) <|
          chk (nOk c4 7) <|
          let t5 := !(ixL false c4 (5 : Int))
          let t6 := (ixL false c4 (4 : Int)) == t5
          cond t6 (
            chk (ixArr 7 (6 : Int)) <|
            chk (nOk c4 7) <|
            chk (ixArr 7 (3 : Int)) <|
            chk (nOk c4 7) <|
            let t7 := !(ixL false c4 (3 : Int))
            let t8 := (ixL false c4 (6 : Int)) == t7
            k1 t8) (
            k1 false)) (
          k1 false)) (
        k1 false)) (
      k1 false)) (
    k1 false)
noncomputable def law10PredThree.j4 (fu : Nat) (k1 : Bool → Option (Bool × Unit)) (b2 : S0) (b3 : S0) : Option (Bool × Unit) :=
  law10PredThree.l7 fu (fun nq3 b2q3 b3q3 c4q3 => 
      (ref04Compare fu b2q3 b3q3).bind fun r1 =>
      cond (!r1.2.1) (
        (law10Fixed fu).bind fun r2 =>
        cond r2.1 (
          k1 (nq3 == (0 : Int))) (
          k1 false)) (
        chk (ixArr 7 (3 : Int)) <|
        chk (nOk c4q3 7) <|
        cond (ixL false c4q3 (3 : Int)) (
          chk (ixArr 7 (1 : Int)) <|
          chk (nOk c4q3 7) <|
          let t3 := !(ixL false c4q3 (1 : Int))
          cond t3 (
            chk (ixArr 7 (5 : Int)) <|
            chk (nOk c4q3 7) <|
            let t4 := !(ixL false c4q3 (5 : Int))
            cond t4 (
              law10PredThree.j18 fu (fun vq4 => 
                  k1 vq4) true c4q3) (
              chk (ixArr 7 (3 : Int)) <|
              chk (nOk c4q3 7) <|
              let t5 := !(ixL false c4q3 (3 : Int))
              cond t5 (
                chk (ixArr 7 (1 : Int)) <|
                chk (nOk c4q3 7) <|
                cond (ixL false c4q3 (1 : Int)) (
                  chk (ixArr 7 (5 : Int)) <|
                  chk (nOk c4q3 7) <|
                  let t6 := !(ixL false c4q3 (5 : Int))
                  cond t6 (
                    law10PredThree.j18 fu (fun vq5 => 
                        k1 vq5) true c4q3) (
                    chk (ixArr 7 (3 : Int)) <|
                    chk (nOk c4q3 7) <|
                    let t7 := !(ixL false c4q3 (3 : Int))
                    cond t7 (
                      chk (ixArr 7 (1 : Int)) <|
                      chk (nOk c4q3 7) <|
                      let t8 := !(ixL false c4q3 (1 : Int))
                      cond t8 (
                        chk (ixArr 7 (5 : Int)) <|
                        chk (nOk c4q3 7) <|
                        law10PredThree.j18 fu (fun vq6 => 
                            k1 vq6) (ixL false c4q3 (5 : Int)) c4q3) (
                        law10PredThree.j18 fu (fun vq7 => 
                            k1 vq7) false c4q3)) (
                      law10PredThree.j18 fu (fun vq8 => 
                          k1 vq8) false c4q3))) (
                  chk (ixArr 7 (3 : Int)) <|
                  chk (nOk c4q3 7) <|
                  let t9 := !(ixL false c4q3 (3 : Int))
                  cond t9 (
                    chk (ixArr 7 (1 : Int)) <|
                    chk (nOk c4q3 7) <|
                    let t10 := !(ixL false c4q3 (1 : Int))
                    cond t10 (
                      chk (ixArr 7 (5 : Int)) <|
                      chk (nOk c4q3 7) <|
                      law10PredThree.j18 fu (fun vq9 => 
                          k1 vq9) (ixL false c4q3 (5 : Int)) c4q3) (
                      law10PredThree.j18 fu (fun vq10 => 
                          k1 vq10) false c4q3)) (
                    law10PredThree.j18 fu (fun vq11 => 
                        k1 vq11) false c4q3))) (
                chk (ixArr 7 (3 : Int)) <|
                chk (nOk c4q3 7) <|
                let t11 := !(ixL false c4q3 (3 : Int))
                cond t11 (
                  chk (ixArr 7 (1 : Int)) <|
                  chk (nOk c4q3 7) <|
                  let t12 := !(ixL false c4q3 (1 : Int))
                  cond t12 (
                    chk (ixArr 7 (5 : Int)) <|
                    chk (nOk c4q3 7) <|
                    law10PredThree.j18 fu (fun vq12 => 
                        k1 vq12) (ixL false c4q3 (5 : Int)) c4q3) (
                    law10PredThree.j18 fu (fun vq13 => 
                        k1 vq13) false c4q3)) (
                  law10PredThree.j18 fu (fun vq14 => 
                      k1 vq14) false c4q3)))) (
            chk (ixArr 7 (3 : Int)) <|
            chk (nOk c4q3 7) <|
            let t13 := !(ixL false c4q3 (3 : Int))
            cond t13 (
              chk (ixArr 7 (1 : Int)) <|
              chk (nOk c4q3 7) <|
              cond (ixL false c4q3 (1 : Int)) (
                chk (ixArr 7 (5 : Int)) <|
                chk (nOk c4q3 7) <|
                let t14 := !(ixL false c4q3 (5 : Int))
                cond t14 (
                  law10PredThree.j18 fu (fun vq15 => 
                      k1 vq15) true c4q3) (
                  chk (ixArr 7 (3 : Int)) <|
                  chk (nOk c4q3 7) <|
                  let t15 := !(ixL false c4q3 (3 : Int))
                  cond t15 (
                    chk (ixArr 7 (1 : Int)) <|
                    chk (nOk c4q3 7) <|
                    let t16 := !(ixL false c4q3 (1 : Int))
                    cond t16 (
                      chk (ixArr 7 (5 : Int)) <|
                      chk (nOk c4q3 7) <|
                      law10PredThree.j18 fu (fun vq16 => 
                          k1 vq16) (ixL false c4q3 (5 : Int)) c4q3) (
                      law10PredThree.j18 fu (fun vq17 => 
                          k1 vq17) false c4q3)) (
                    law10PredThree.j18 fu (fun vq18 => 
                        k1 vq18) false c4q3))) (
                chk (ixArr 7 (3 : Int)) <|
                chk (nOk c4q3 7) <|
                let t17 := !(ixL false c4q3 (3 : Int))
                cond t17 (
                  chk (ixArr 7 (1 : Int)) <|
                  chk (nOk c4q3 7) <|
                  let t18 := !(ixL false c4q3 (1 : Int))
                  cond t18 (
                    chk (ixArr 7 (5 : Int)) <|
                    chk (nOk c4q3 7) <|
                    law10PredThree.j18 fu (fun vq19 => 
                        k1 vq19) (ixL false c4q3 (5 : Int)) c4q3) (
                    law10PredThree.j18 fu (fun vq20 => 
                        k1 vq20) false c4q3)) (
                  law10PredThree.j18 fu (fun vq21 => 
                      k1 vq21) false c4q3))) (
              chk (ixArr 7 (3 : Int)) <|
              chk (nOk c4q3 7) <|
              let t19 := !(ixL false c4q3 (3 : Int))
              cond t19 (
                chk (ixArr 7 (1 : Int)) <|
                chk (nOk c4q3 7) <|
                let t20 := !(ixL false c4q3 (1 : Int))
                cond t20 (
                  chk (ixArr 7 (5 : Int)) <|
                  chk (nOk c4q3 7) <|
                  law10PredThree.j18 fu (fun vq22 => 
                      k1 vq22) (ixL false c4q3 (5 : Int)) c4q3) (
                  law10PredThree.j18 fu (fun vq23 => 
                      k1 vq23) false c4q3)) (
                law10PredThree.j18 fu (fun vq24 => 
                    k1 vq24) false c4q3)))) (
          chk (ixArr 7 (3 : Int)) <|
          chk (nOk c4q3 7) <|
          let t21 := !(ixL false c4q3 (3 : Int))
          cond t21 (
            chk (ixArr 7 (1 : Int)) <|
            chk (nOk c4q3 7) <|
            cond (ixL false c4q3 (1 : Int)) (
              chk (ixArr 7 (5 : Int)) <|
              chk (nOk c4q3 7) <|
              let t22 := !(ixL false c4q3 (5 : Int))
              cond t22 (
                law10PredThree.j18 fu (fun vq25 => 
                    k1 vq25) true c4q3) (
                chk (ixArr 7 (3 : Int)) <|
                chk (nOk c4q3 7) <|
                let t23 := !(ixL false c4q3 (3 : Int))
                cond t23 (
                  chk (ixArr 7 (1 : Int)) <|
                  chk (nOk c4q3 7) <|
                  let t24 := !(ixL false c4q3 (1 : Int))
                  cond t24 (
                    chk (ixArr 7 (5 : Int)) <|
                    chk (nOk c4q3 7) <|
                    law10PredThree.j18 fu (fun vq26 => 
                        k1 vq26) (ixL false c4q3 (5 : Int)) c4q3) (
                    law10PredThree.j18 fu (fun vq27 => 
                        k1 vq27) false c4q3)) (
                  law10PredThree.j18 fu (fun vq28 => 
                      k1 vq28) false c4q3))) (
              chk (ixArr 7 (3 : Int)) <|
              chk (nOk c4q3 7) <|
              let t25 := !(ixL false c4q3 (3 : Int))
              cond t25 (
                chk (ixArr 7 (1 : Int)) <|
                chk (nOk c4q3 7) <|
                let t26 := !(ixL false c4q3 (1 : Int))
                cond t26 (
                  chk (ixArr 7 (5 : Int)) <|
                  chk (nOk c4q3 7) <|
                  law10PredThree.j18 fu (fun vq29 => 
                      k1 vq29) (ixL false c4q3 (5 : Int)) c4q3) (
                  law10PredThree.j18 fu (fun vq30 => 
                      k1 vq30) false c4q3)) (
                law10PredThree.j18 fu (fun vq31 => 
                    k1 vq31) false c4q3))) (
            chk (ixArr 7 (3 : Int)) <|
            chk (nOk c4q3 7) <|
            let t27 := !(ixL false c4q3 (3 : Int))
            cond t27 (
              chk (ixArr 7 (1 : Int)) <|
              chk (nOk c4q3 7) <|
              let t28 := !(ixL false c4q3 (1 : Int))
              cond t28 (
                chk (ixArr 7 (5 : Int)) <|
                chk (nOk c4q3 7) <|
                law10PredThree.j18 fu (fun vq32 => 
                    k1 vq32) (ixL false c4q3 (5 : Int)) c4q3) (
                law10PredThree.j18 fu (fun vq33 => 
                    k1 vq33) false c4q3)) (
              law10PredThree.j18 fu (fun vq34 => 
                  k1 vq34) false c4q3))))) fu (0 : Int) (0 : Int) b2 b3 (List.replicate 7 false)
noncomputable def law10PredThree (fu : Nat) (xv : S4) (yv : S4) : Option (Bool × Unit) :=
  let t1 := (xv.2.2.2.1.length : Int)
  let t2 := decide (t1 > (2000 : Int))
  cond t2 (
    (law10Fixed fu).bind fun r3 =>
    some (r3.1, ())) (
    let t4 := (yv.2.2.2.1.length : Int)
    let t5 := decide (t4 > (2000 : Int))
    cond t5 (
      (law10Fixed fu).bind fun r6 =>
      some (r6.1, ())) (
      twice (
        (law04RawValue fu xv).bind fun r7 =>
        (law04RawValue fu yv).bind fun r8 =>
        law10PredThree.j4 fu (fun vq1 => 
            some (vq1, ())) r7.1 r8.1)))

noncomputable def law10PredThree.body : Code := Tryd.f4.body.getD .skip
abbrev law10PredThree.shl7 : Shp := ⟨[.u, .u, .u, .u, .u, .p 2 0, .p 3 0, .p 4 0, .d (.int .i64), .u, .u, .u, .u, .u, .u, .u, .u, .u, .u, .u, .u, .u, .u, .u, .u, .u, .u, .u, .u, .d (.int .u8), .u, .u, .u, .u, .u, .u, .u, .u, .u, .u, .u, .u, .u, .u, .u, .u, .u, .u, .u, .u, .u, .u, .u, .u, .u, .u, .u, .u, .u, .u, .u, .u, .u, .u, .u, .u, .u, .u, .u, .u, .u, .u, .u, .u, .u, .u, .u, .u, .u, .u, .u, .u, .u, .u, .u, .u, .u, .u, .u, .u, .u, .u, .u, .u, .u, .u, .u, .u, .u, .u, .u, .u, .u, .u, .u, .u, .u, .u, .u, .u, .u, .u, .u, .u, .u, .u, .u, .u, .u, .u, .u, .u, .u, .u, .u, .u, .u, .u, .u, .u, .u, .u, .u, .u, .u, .u], [.c [.u, .u, .u, .u], .c [.u, .u, .u, .u], .c [.g kS0], .c [.g kS0], .a .bool]⟩
abbrev law10PredThree.outl7e2 : Shp := ⟨[.u, .u, .u, .u, .u, .p 2 0, .p 3 0, .p 4 0, .d (.int .i64), .u, .u, .u, .u, .u, .u, .u, .u, .u, .u, .u, .u, .u, .u, .u, .u, .u, .u, .u, .u, .u, .u, .u, .u, .u, .u, .u, .u, .u, .u, .u, .u, .u, .u, .u, .u, .u, .u, .u, .u, .u, .u, .u, .u, .u, .u, .u, .u, .u, .u, .u, .u, .u, .u, .u, .u, .u, .u, .u, .u, .u, .u, .u, .u, .u, .u, .u, .u, .u, .u, .u, .u, .u, .u, .u, .u, .u, .u, .u, .u, .u, .u, .u, .u, .u, .u, .u, .u, .u, .u, .u, .u, .u, .u, .u, .u, .u, .u, .u, .u, .u, .u, .u, .u, .u, .u, .u, .u, .u, .u, .u, .u, .u, .u, .u, .u, .u, .u, .u, .u, .u, .u, .u, .u, .u, .u, .u], [.c [.u, .u, .u, .u], .c [.u, .u, .u, .u], .c [.g kS0], .c [.g kS0], .a .bool]⟩
noncomputable def law10PredThree.nml7 : Norm := ⟨{ keep := [5, 6, 7, 8, 29], shut := [(8, (.int .i64)), (29, (.int .u8))], retag := [], heap := 5, dead := [0, 1], cshut := [(2, 0, (.int .u8)), (2, 1, (.int .i64)), (2, 2, .flt), (2, 3, .str), (3, 0, (.int .u8)), (3, 1, (.int .i64)), (3, 2, .flt), (3, 3, .str)], cretag := [] }, [(2, { keep := [5, 6, 7, 8], shut := [(8, (.int .i64))], retag := [], heap := 5, dead := [0, 1], cshut := [(2, 0, (.int .u8)), (2, 1, (.int .i64)), (2, 2, .flt), (2, 3, .str), (3, 0, (.int .u8)), (3, 1, (.int .i64)), (3, 2, .flt), (3, 3, .str)], cretag := [] })]⟩
abbrev law10PredThree.shj18 : Shp := ⟨[.u, .u, .u, .u, .u, .u, .u, .p 4 0, .u, .u, .u, .u, .u, .d .bool, .u, .u, .u, .u, .u, .u, .u, .u, .u, .u, .u, .u, .u, .u, .u, .u, .u, .u, .u, .u, .u, .u, .u, .u, .u, .u, .u, .u, .u, .u, .u, .u, .u, .u, .u, .u, .u, .u, .u, .u, .u, .u, .u, .u, .u, .u, .u, .u, .u, .u, .u, .u, .u, .u, .u, .u, .u, .u, .u, .u, .u, .u, .u, .u, .u, .u, .u, .u, .u, .u, .u, .u, .u, .u, .u, .u, .u, .u, .u, .u, .u, .u, .u, .u, .u, .u, .u, .u, .u, .u, .u, .u, .u, .u, .u, .u, .u, .u, .u, .u, .u, .u, .u, .u, .u, .u, .u, .u, .u, .u, .u, .u, .u, .u, .u, .u, .u, .u, .u, .u, .u, .u], [.c [.u, .u, .u, .u], .c [.u, .u, .u, .u], .c [.u, .u, .u, .u], .c [.u, .u, .u, .u], .a .bool]⟩
abbrev law10PredThree.outj18e1 : Shp := ⟨[.u, .u, .u, .u, .d .bool, .u, .u, .u, .u, .u, .u, .u, .u, .u, .u, .u, .u, .u, .u, .u, .u, .u, .u, .u, .u, .u, .u, .u, .u, .u, .u, .u, .u, .u, .u, .u, .u, .u, .u, .u, .u, .u, .u, .u, .u, .u, .u, .u, .u, .u, .u, .u, .u, .u, .u, .u, .u, .u, .u, .u, .u, .u, .u, .u, .u, .u, .u, .u, .u, .u, .u, .u, .u, .u, .u, .u, .u, .u, .u, .u, .u, .u, .u, .u, .u, .u, .u, .u, .u, .u, .u, .u, .u, .u, .u, .u, .u, .u, .u, .u, .u, .u, .u, .u, .u, .u, .u, .u, .u, .u, .u, .u, .u, .u, .u, .u, .u, .u, .u, .u, .u, .u, .u, .u, .u, .u, .u, .u, .u, .u, .u, .u, .u, .u, .u, .u], []⟩
noncomputable def law10PredThree.nmj18 : Norm := ⟨{ keep := [7, 13], shut := [(13, .bool)], retag := [], heap := 5, dead := [0, 1, 2, 3], cshut := [], cretag := [] }, [(1, { keep := [4], shut := [(4, .bool)], retag := [], heap := 0, dead := [], cshut := [], cretag := [] })]⟩
abbrev law10PredThree.shj4 : Shp := ⟨[.u, .u, .u, .u, .u, .p 2 0, .p 3 0, .u, .u, .u, .u, .u, .u, .u, .u, .u, .u, .u, .u, .u, .u, .u, .u, .u, .u, .u, .u, .u, .u, .u, .u, .u, .u, .u, .u, .u, .u, .u, .u, .u, .u, .u, .u, .u, .u, .u, .u, .u, .u, .u, .u, .u, .u, .u, .u, .u, .u, .u, .u, .u, .u, .u, .u, .u, .u, .u, .u, .u, .u, .u, .u, .u, .u, .u, .u, .u, .u, .u, .u, .u, .u, .u, .u, .u, .u, .u, .u, .u, .u, .u, .u, .u, .u, .u, .u, .u, .u, .u, .u, .u, .u, .u, .u, .u, .u, .u, .u, .u, .u, .u, .u, .u, .u, .u, .u, .u, .u, .u, .u, .u, .u, .u, .u, .u, .u, .u, .u, .u, .u, .u, .u, .u, .u, .u, .u, .u], [.c [.u, .u, .u, .u], .c [.u, .u, .u, .u], .c [.g kS0], .c [.g kS0]]⟩
abbrev law10PredThree.outj4e1 : Shp := ⟨[.u, .u, .u, .u, .d .bool, .u, .u, .u, .u, .u, .u, .u, .u, .u, .u, .u, .u, .u, .u, .u, .u, .u, .u, .u, .u, .u, .u, .u, .u, .u, .u, .u, .u, .u, .u, .u, .u, .u, .u, .u, .u, .u, .u, .u, .u, .u, .u, .u, .u, .u, .u, .u, .u, .u, .u, .u, .u, .u, .u, .u, .u, .u, .u, .u, .u, .u, .u, .u, .u, .u, .u, .u, .u, .u, .u, .u, .u, .u, .u, .u, .u, .u, .u, .u, .u, .u, .u, .u, .u, .u, .u, .u, .u, .u, .u, .u, .u, .u, .u, .u, .u, .u, .u, .u, .u, .u, .u, .u, .u, .u, .u, .u, .u, .u, .u, .u, .u, .u, .u, .u, .u, .u, .u, .u, .u, .u, .u, .u, .u, .u, .u, .u, .u, .u, .u, .u], []⟩
noncomputable def law10PredThree.nmj4 : Norm := ⟨{ keep := [5, 6], shut := [], retag := [], heap := 4, dead := [0, 1], cshut := [(2, 0, (.int .u8)), (2, 1, (.int .i64)), (2, 2, .flt), (2, 3, .str), (3, 0, (.int .u8)), (3, 1, (.int .i64)), (3, 2, .flt), (3, 3, .str)], cretag := [] }, [(1, { keep := [4], shut := [(4, .bool)], retag := [], heap := 0, dead := [], cshut := [], cretag := [] })]⟩
noncomputable def law10PredThree.con : Con := { ps := [kS4, kS4], rs := [.bool], f := fun n x => law10PredThree n x.1 x.2.1 }
noncomputable def law10PredThree.env : Env := { tys := [(43, ⟨kS4, 40⟩), (4, ⟨.bool, 1⟩), (9, ⟨.str, 16⟩), (46, ⟨kS0, 40⟩), (48, ⟨(.arr 7 .bool), 7⟩), (3, ⟨(.int .i64), 8⟩), (5, ⟨(.int .u8), 1⟩), (50, ⟨kS1, 48⟩), (30, ⟨kS2, 32⟩), (34, ⟨kS3, 32⟩)], elems := [(28, 50), (32, 46)], ptrs := [], cons := [(11, law10Fixed.con), (16, law04RawValue.con), (14, predHolds.con), (17, ref04Compare.con)], objs := [], loops := [(7, law10PredThree.nml7)], cuts := [(18, law10PredThree.nmj18), (4, law10PredThree.nmj4)], globs := globs, base := 0, muts := [7], twos := [(3, 4, 5, 2, [0, 1, 2, 3, 5, 4, 6, 7])] }
noncomputable def law10PredThree.lp (n : Nat) : LP (Kd.struct law10PredThree.con.rs).T := fun lo κ body nm K s =>
  cond (lo && Nat.beq κ 7)
    (match law10PredThree.shl7.dec s with
    | some v => law10PredThree.l7 n (fun w0 w1 w2 w3 => K (.exit 0) (law10PredThree.outl7e2.enc (w0, w1, w2, w3, ()))) n v.1 v.2.1 v.2.2.1 v.2.2.2.1 v.2.2.2.2.1
    | none => loops n (Kd.struct law10PredThree.con.rs).T lo κ body nm K s)
    (cond (!lo && Nat.beq κ 18)
    (match law10PredThree.shj18.dec s with
    | some v => law10PredThree.j18 n (fun w0 => K .ret (law10PredThree.outj18e1.enc (w0, ()))) v.1 v.2.1
    | none => loops n (Kd.struct law10PredThree.con.rs).T lo κ body nm K s)
    (cond (!lo && Nat.beq κ 4)
    (match law10PredThree.shj4.dec s with
    | some v => law10PredThree.j4 n (fun w0 => K .ret (law10PredThree.outj4e1.enc (w0, ()))) v.1 v.2.1
    | none => loops n (Kd.struct law10PredThree.con.rs).T lo κ body nm K s)
    (loops n (Kd.struct law10PredThree.con.rs).T lo κ body nm K s)))
theorem law10PredThree.atl7 (n : Nat) (s : St) (K : Ex → St → Option (Kd.struct law10PredThree.con.rs).T) : (law10PredThree.lp n) true 7 (evK law10PredThree.env (law10PredThree.lp n) n (sub [1, 1, 1, 1, 1, 0, 1, 0, 0] law10PredThree.body)) law10PredThree.nml7 K s = loops n (Kd.struct law10PredThree.con.rs).T true 7 (evK law10PredThree.env (law10PredThree.lp n) n (sub [1, 1, 1, 1, 1, 0, 1, 0, 0] law10PredThree.body)) law10PredThree.nml7 K s := by
  show (match law10PredThree.shl7.dec s with | some v => law10PredThree.l7 n (fun w0 w1 w2 w3 => K (.exit 0) (law10PredThree.outl7e2.enc (w0, w1, w2, w3, ()))) n v.1 v.2.1 v.2.2.1 v.2.2.2.1 v.2.2.2.2.1 | none => loops n (Kd.struct law10PredThree.con.rs).T true 7 (evK law10PredThree.env (law10PredThree.lp n) n (sub [1, 1, 1, 1, 1, 0, 1, 0, 0] law10PredThree.body)) law10PredThree.nml7 K s) = _
  cases h : law10PredThree.shl7.dec s with
  | none => rfl
  | some v =>
    rw [Shp.dec_enc h]
    exact (evLoop_eq (sh := law10PredThree.shl7) (body := evK law10PredThree.env (law10PredThree.lp n) n (sub [1, 1, 1, 1, 1, 0, 1, 0, 0] law10PredThree.body)) (nm := law10PredThree.nml7) (K := K) (b := fun nx v => law10PredThree.b7 n (fun x0 x1 x2 x3 x4 => nx (x0, x1, x2, x3, x4, ())) (fun w0 w1 w2 w3 => K (.exit 0) (law10PredThree.outl7e2.enc (w0, w1, w2, w3, ()))) v.1 v.2.1 v.2.2.1 v.2.2.2.1 v.2.2.2.2.1) (l := fun m v => law10PredThree.l7 n (fun w0 w1 w2 w3 => K (.exit 0) (law10PredThree.outl7e2.enc (w0, w1, w2, w3, ()))) m v.1 v.2.1 v.2.2.1 v.2.2.2.1 v.2.2.2.2.1) (fun _ => rfl) (fun _ _ => rfl) (fun m v => by kernel_rfl) n v).symm
theorem law10PredThree.atj18 (n : Nat) (s : St) (K : Ex → St → Option (Kd.struct law10PredThree.con.rs).T) : (law10PredThree.lp n) false 18 (evK law10PredThree.env (law10PredThree.lp n) n (sub [1, 1, 1, 1, 1, 1, 1, 1, 1] law10PredThree.body)) law10PredThree.nmj18 K s = loops n (Kd.struct law10PredThree.con.rs).T false 18 (evK law10PredThree.env (law10PredThree.lp n) n (sub [1, 1, 1, 1, 1, 1, 1, 1, 1] law10PredThree.body)) law10PredThree.nmj18 K s := by
  show (match law10PredThree.shj18.dec s with | some v => law10PredThree.j18 n (fun w0 => K .ret (law10PredThree.outj18e1.enc (w0, ()))) v.1 v.2.1 | none => loops n (Kd.struct law10PredThree.con.rs).T false 18 (evK law10PredThree.env (law10PredThree.lp n) n (sub [1, 1, 1, 1, 1, 1, 1, 1, 1] law10PredThree.body)) law10PredThree.nmj18 K s) = _
  cases h : law10PredThree.shj18.dec s with
  | none => rfl
  | some v =>
    rw [Shp.dec_enc h]
    kernel_rfl
theorem law10PredThree.atj4 (n : Nat) (s : St) (K : Ex → St → Option (Kd.struct law10PredThree.con.rs).T) : (law10PredThree.lp n) false 4 (evK law10PredThree.env (law10PredThree.lp n) n (sub [1, 1, 1] law10PredThree.body)) law10PredThree.nmj4 K s = loops n (Kd.struct law10PredThree.con.rs).T false 4 (evK law10PredThree.env (law10PredThree.lp n) n (sub [1, 1, 1] law10PredThree.body)) law10PredThree.nmj4 K s := by
  show (match law10PredThree.shj4.dec s with | some v => law10PredThree.j4 n (fun w0 => K .ret (law10PredThree.outj4e1.enc (w0, ()))) v.1 v.2.1 | none => loops n (Kd.struct law10PredThree.con.rs).T false 4 (evK law10PredThree.env (law10PredThree.lp n) n (sub [1, 1, 1] law10PredThree.body)) law10PredThree.nmj4 K s) = _
  cases h : law10PredThree.shj4.dec s with
  | none => rfl
  | some v =>
    rw [Shp.dec_enc h]
    kernel_rfl
theorem law10PredThree.eq (n : Nat) (x : (Kd.struct law10PredThree.con.ps).T) : evFunc law10PredThree.env Tryd.f4 law10PredThree.body law10PredThree.con.ps law10PredThree.con.rs (law10PredThree.lp n) n x = law10PredThree.con.f n x := by kernel_rfl
theorem law10PredThree.sound : Sound Tryd.prog globs 4 law10PredThree.con :=
  sound_by (E := law10PredThree.env) (c := law10PredThree.body) (envOk (G := globs) (lc := [(11, law10Fixed.con), (16, law04RawValue.con), (14, predHolds.con), (17, ref04Compare.con)]) (lo := []) (envB_spec (by kernel_rfl)) rfl rfl ⟨.inl ⟨law10Fixed.sound, by kernel_rfl⟩, ⟨.inl ⟨law04RawValue.sound, by kernel_rfl⟩, ⟨.inl ⟨predHolds.sound, by kernel_rfl⟩, ⟨.inl ⟨ref04Compare.sound, by kernel_rfl⟩, trivial⟩⟩⟩⟩ rfl trivial (by kernel_rfl) (by kernel_rfl)) Tryd.func4 (by kernel_rfl) law10PredThree.lp (l := [(true, sub [1, 1, 1, 1, 1, 0, 1, 0, 0] law10PredThree.body, law10PredThree.nml7), (false, sub [1, 1, 1, 1, 1, 1, 1, 1, 1] law10PredThree.body, law10PredThree.nmj18), (false, sub [1, 1, 1] law10PredThree.body, law10PredThree.nmj4)]) (by kernel_rfl) (fun n => ⟨law10PredThree.atl7 n, ⟨law10PredThree.atj18 n, ⟨law10PredThree.atj4 n, trivial⟩⟩⟩) law10PredThree.eq
end
end Go.Shal.Pr
