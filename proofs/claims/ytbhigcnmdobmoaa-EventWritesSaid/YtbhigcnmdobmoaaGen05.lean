/- Prints of functions, and proofs that they are what the code computes. By an AI agent. -/
import Derived.Test.YtbhigcnmdobmoaaShC
import Derived.Test.YtbhigcnmdobmoaaProg
set_option linter.unusedVariables false
set_option maxRecDepth 100000
namespace Go.Shal.Pr
open Go Go.Shal Go.Proofs
noncomputable section
def globs : Globs := []
abbrev kS0 : Kd := .struct [(.int .u8), (.int .i64), .flt, .str]
abbrev S0 : Type := Int × Int × Nat × (List Int) × Unit
abbrev kS1 : Kd := .struct [(.int .u8), (.slice kS0)]
abbrev S1 : Type := Int × (List S0) × Unit
abbrev kS2 : Kd := .struct [.bool, (.int .i64), (.int .u64)]
abbrev S2 : Type := Bool × Int × Int × Unit
abbrev kS3 : Kd := .struct [(.int .u32), (.int .u64), (.int .u64), kS1]
abbrev S3 : Type := Int × Int × Int × S1 × Unit
abbrev kS4 : Kd := .struct [(.int .u8), (.int .i64), (.int .u64), .str]
abbrev S4 : Type := Int × Int × Int × (List Int) × Unit
abbrev kS5 : Kd := .struct [(.int .u8), (.slice kS4)]
abbrev S5 : Type := Int × (List S4) × Unit
noncomputable def valueHeld (fu : Nat) (v : S0) : Option (S0 × Unit) :=
  cond (v.1 == (1 : Int)) (
    some ((v.1, v.2.1, (0 : Nat), [], ()), ())) (
    cond (v.1 == (2 : Int)) (
      some ((v.1, (0 : Int), v.2.2.1, [], ()), ())) (
      cond (v.1 == (3 : Int)) (
        some ((v.1, (0 : Int), (0 : Nat), v.2.2.2.1, ()), ())) (
        some ((v.1, (0 : Int), (0 : Nat), [], ()), ()))))

noncomputable def valueHeld.body : Code := Try.f94.body.getD .skip
noncomputable def valueHeld.con : Con := { ps := [kS0], rs := [kS0], f := fun n x => valueHeld n x.1 }
noncomputable def valueHeld.env : Env := { tys := [(34, ⟨kS0, 40⟩), (5, ⟨(.int .u8), 1⟩), (2, ⟨(.int .i64), 8⟩), (32, ⟨.flt, 8⟩), (9, ⟨.str, 16⟩)], elems := [], ptrs := [], cons := [], objs := [], loops := [], cuts := [], globs := globs, base := 0 }
noncomputable def valueHeld.lp (n : Nat) : LP (Kd.struct valueHeld.con.rs).T := fun lo κ body nm K s =>
  loops n (Kd.struct valueHeld.con.rs).T lo κ body nm K s
theorem valueHeld.eq (n : Nat) (x : (Kd.struct valueHeld.con.ps).T) : evFunc valueHeld.env Try.f94 valueHeld.body valueHeld.con.ps valueHeld.con.rs (valueHeld.lp n) n x = valueHeld.con.f n x := by kernel_rfl
theorem valueHeld.sound : Sound Try.prog globs 94 valueHeld.con :=
  sound_by (E := valueHeld.env) (c := valueHeld.body) (envOk (G := globs) (lc := []) (lo := []) (envB_spec (by kernel_rfl)) rfl rfl trivial rfl trivial (by kernel_rfl) (by kernel_rfl)) Try.func94 (by kernel_rfl) valueHeld.lp (l := []) (by kernel_rfl) (fun n => trivial) valueHeld.eq
noncomputable def valueMay (fu : Nat) (v : S0) : Option (Bool × Unit) :=
  (valueHeld fu v).bind fun r1 =>
  cond (decide (v.1 ≤ (3 : Int))) (
    let t2 := decide ((v.2.2.2.1.length : Int) ≤ (255 : Int))
    cond t2 (
      cond (r1.1.2.1 == v.2.1) (
        let t3 := r1.1.2.2.2.1 == v.2.2.2.1
        cond t3 (
          (extBits.f fu (r1.1.2.2.1, ())).bind fun r4 =>
          (extBits.f fu (v.2.2.1, ())).bind fun r5 =>
          some (r4.1 == r5.1, ())) (
          some (false, ()))) (
        some (false, ()))) (
      some (false, ()))) (
    some (false, ()))

noncomputable def valueMay.body : Code := Try.f59.body.getD .skip
noncomputable def valueMay.con : Con := { ps := [kS0], rs := [.bool], f := fun n x => valueMay n x.1 }
noncomputable def valueMay.env : Env := { tys := [(34, ⟨kS0, 40⟩), (4, ⟨.bool, 1⟩), (5, ⟨(.int .u8), 1⟩), (9, ⟨.str, 16⟩), (2, ⟨(.int .i64), 8⟩), (32, ⟨.flt, 8⟩)], elems := [], ptrs := [], cons := [(94, valueHeld.con), (92, extBits)], objs := [], loops := [], cuts := [], globs := globs, base := 0 }
noncomputable def valueMay.lp (n : Nat) : LP (Kd.struct valueMay.con.rs).T := fun lo κ body nm K s =>
  loops n (Kd.struct valueMay.con.rs).T lo κ body nm K s
theorem valueMay.eq (n : Nat) (x : (Kd.struct valueMay.con.ps).T) : evFunc valueMay.env Try.f59 valueMay.body valueMay.con.ps valueMay.con.rs (valueMay.lp n) n x = valueMay.con.f n x := by kernel_rfl
theorem valueMay.sound : Sound Try.prog globs 59 valueMay.con :=
  sound_by (E := valueMay.env) (c := valueMay.body) (envOk (G := globs) (lc := [(94, valueHeld.con), (92, extBits)]) (lo := []) (envB_spec (by kernel_rfl)) rfl rfl ⟨.inl ⟨valueHeld.sound, by kernel_rfl⟩, ⟨.inr (extBits_ok Try.func92 (by kernel_rfl) (by kernel_rfl) (by kernel_rfl) (by kernel_rfl)), trivial⟩⟩ rfl trivial (by kernel_rfl) (by kernel_rfl)) Try.func59 (by kernel_rfl) valueMay.lp (l := []) (by kernel_rfl) (fun n => trivial) valueMay.eq
noncomputable def eventMay1 (fu : Nat) (v : S0) : Option (Bool × Unit) :=
  (valueMay fu v).bind fun r1 =>
  some (!r1.1, ())

noncomputable def eventMay1.body : Code := Try.f58.body.getD .skip
noncomputable def eventMay1.con : Con := { ps := [kS0], rs := [.bool], f := fun n x => eventMay1 n x.1 }
noncomputable def eventMay1.env : Env := { tys := [(34, ⟨kS0, 40⟩), (4, ⟨.bool, 1⟩)], elems := [], ptrs := [], cons := [(59, valueMay.con)], objs := [], loops := [], cuts := [], globs := globs, base := 0 }
noncomputable def eventMay1.lp (n : Nat) : LP (Kd.struct eventMay1.con.rs).T := fun lo κ body nm K s =>
  loops n (Kd.struct eventMay1.con.rs).T lo κ body nm K s
theorem eventMay1.eq (n : Nat) (x : (Kd.struct eventMay1.con.ps).T) : evFunc eventMay1.env Try.f58 eventMay1.body eventMay1.con.ps eventMay1.con.rs (eventMay1.lp n) n x = eventMay1.con.f n x := by kernel_rfl
theorem eventMay1.sound : Sound Try.prog globs 58 eventMay1.con :=
  sound_by (E := eventMay1.env) (c := eventMay1.body) (envOk (G := globs) (lc := [(59, valueMay.con)]) (lo := []) (envB_spec (by kernel_rfl)) rfl rfl ⟨.inl ⟨valueMay.sound, by kernel_rfl⟩, trivial⟩ rfl trivial (by kernel_rfl) (by kernel_rfl)) Try.func58 (by kernel_rfl) eventMay1.lp (l := []) (by kernel_rfl) (fun n => trivial) eventMay1.eq
noncomputable def slicesIndexFunc.b2 (fu : Nat) (next : (List S0) → Int → Int → Option ((Int × Unit) × (Unit))) (k1 : Int → Option ((Int × Unit) × (Unit))) (k2 : Unit → Option ((Int × Unit) × (Unit))) (sv : List S0) (v : Int) (vx2 : Int) : Option ((Int × Unit) × (Unit)) :=
  cond (decide (vx2 < v)) (
    chk (ixOk sv vx2) <|
    let e1 := ixL ((0 : Int), (0 : Int), (0 : Nat), [], ()) sv vx2
    (eventMay1 fu e1).bind fun r2 =>
    cond r2.1 (
      k1 vx2) (
      let t3 := IntKind.i64.wrap (vx2 + (1 : Int))
      next sv v t3)) (
    k2 ())
noncomputable def slicesIndexFunc.l2 (fu : Nat) (k1 : Int → Option ((Int × Unit) × (Unit))) (k2 : Unit → Option ((Int × Unit) × (Unit))) : Nat → (List S0) → Int → Int → Option ((Int × Unit) × (Unit))
  | 0, _, _, _ => none
  | m + 1, sv, v, vx2 => slicesIndexFunc.b2 fu (slicesIndexFunc.l2 fu k1 k2 m) k1 k2 sv v vx2
noncomputable def slicesIndexFunc (fu : Nat) (sv : List S0) : Option ((Int × Unit) × (Unit)) :=
  slicesIndexFunc.l2 fu (fun vq3 => 
      some ((vq3, ()), (()))) (fun (_ : Unit) => 
      some (((-1 : Int), ()), (()))) fu sv (sv.length : Int) (0 : Int)

noncomputable def slicesIndexFunc.body : Code := Try.f108.body.getD .skip
abbrev slicesIndexFunc.shl2 : Shp := ⟨[.d (.slice kS0), .f 58, .u, .u, .u, .u, .u, .d (.int .i64), .d (.int .i64), .u, .u, .u, .u, .u, .u, .u, .u, .u, .u], []⟩
abbrev slicesIndexFunc.outl2e1 : Shp := ⟨[.u, .u, .u, .u, .d (.int .i64), .u, .u, .u, .u, .u, .u, .u, .u, .u, .u, .u, .u, .u, .u], []⟩
abbrev slicesIndexFunc.outl2e2 : Shp := ⟨[.u, .u, .u, .u, .u, .u, .u, .u, .u, .u, .u, .u, .u, .u, .u, .u, .u, .u, .u], []⟩
noncomputable def slicesIndexFunc.nml2 : Norm := ⟨{ keep := [0, 1, 7, 8], shut := [(0, (.slice kS0)), (7, (.int .i64)), (8, (.int .i64))], retag := [], heap := 0, dead := [], cshut := [], cretag := [] }, [(1, { keep := [4], shut := [(4, (.int .i64))], retag := [], heap := 0, dead := [], cshut := [], cretag := [] }), (2, { keep := [], shut := [], retag := [], heap := 0, dead := [], cshut := [], cretag := [] })]⟩
noncomputable def slicesIndexFunc.con : OCon := { ps := [.dat (.slice kS0), .fn 58], rs := [.dat (.int .i64)], f := fun n x => slicesIndexFunc n x.1 }
noncomputable def slicesIndexFunc.env : Env := { tys := [(3, ⟨(.int .i64), 8⟩), (34, ⟨kS0, 40⟩)], elems := [(25, 34)], ptrs := [], cons := [(58, eventMay1.con)], objs := [], loops := [(2, slicesIndexFunc.nml2)], cuts := [], globs := globs, base := 0 }
noncomputable def slicesIndexFunc.lp (n : Nat) : LP (RT slicesIndexFunc.con.rs × BT slicesIndexFunc.con.ps) := fun lo κ body nm K s =>
  cond (lo && Nat.beq κ 2)
    (match slicesIndexFunc.shl2.dec s with
    | some v => slicesIndexFunc.l2 n (fun w0 => K .ret (slicesIndexFunc.outl2e1.enc (w0, ()))) (fun _ => K (.exit 0) (slicesIndexFunc.outl2e2.enc (()))) n v.1 v.2.1 v.2.2.1
    | none => loops n (RT slicesIndexFunc.con.rs × BT slicesIndexFunc.con.ps) lo κ body nm K s)
    (loops n (RT slicesIndexFunc.con.rs × BT slicesIndexFunc.con.ps) lo κ body nm K s)
theorem slicesIndexFunc.atl2 (n : Nat) (s : St) (K : Ex → St → Option (RT slicesIndexFunc.con.rs × BT slicesIndexFunc.con.ps)) : slicesIndexFunc.lp n true 2 (evK slicesIndexFunc.env (slicesIndexFunc.lp n) n (sub [1, 0, 1, 0, 0] slicesIndexFunc.body)) slicesIndexFunc.nml2 K s = loops n (RT slicesIndexFunc.con.rs × BT slicesIndexFunc.con.ps) true 2 (evK slicesIndexFunc.env (slicesIndexFunc.lp n) n (sub [1, 0, 1, 0, 0] slicesIndexFunc.body)) slicesIndexFunc.nml2 K s := by
  show (match slicesIndexFunc.shl2.dec s with | some v => slicesIndexFunc.l2 n (fun w0 => K .ret (slicesIndexFunc.outl2e1.enc (w0, ()))) (fun _ => K (.exit 0) (slicesIndexFunc.outl2e2.enc (()))) n v.1 v.2.1 v.2.2.1 | none => loops n (RT slicesIndexFunc.con.rs × BT slicesIndexFunc.con.ps) true 2 (evK slicesIndexFunc.env (slicesIndexFunc.lp n) n (sub [1, 0, 1, 0, 0] slicesIndexFunc.body)) slicesIndexFunc.nml2 K s) = _
  cases h : slicesIndexFunc.shl2.dec s with
  | none => rfl
  | some v =>
    rw [Shp.dec_enc h]
    exact (evLoop_eq (sh := slicesIndexFunc.shl2) (body := evK slicesIndexFunc.env (slicesIndexFunc.lp n) n (sub [1, 0, 1, 0, 0] slicesIndexFunc.body)) (nm := slicesIndexFunc.nml2) (K := K) (b := fun nx v => slicesIndexFunc.b2 n (fun x0 x1 x2 => nx (x0, x1, x2, ())) (fun w0 => K .ret (slicesIndexFunc.outl2e1.enc (w0, ()))) (fun _ => K (.exit 0) (slicesIndexFunc.outl2e2.enc (()))) v.1 v.2.1 v.2.2.1) (l := fun m v => slicesIndexFunc.l2 n (fun w0 => K .ret (slicesIndexFunc.outl2e1.enc (w0, ()))) (fun _ => K (.exit 0) (slicesIndexFunc.outl2e2.enc (()))) m v.1 v.2.1 v.2.2.1) (fun _ => rfl) (fun _ _ => rfl) (fun m v => by kernel_rfl) n v).symm
theorem slicesIndexFunc.eq (n : Nat) (x : PT slicesIndexFunc.con.ps) : evFuncO slicesIndexFunc.env Try.f108 slicesIndexFunc.body slicesIndexFunc.con.ps slicesIndexFunc.con.rs (slicesIndexFunc.lp n) n x = slicesIndexFunc.con.f n x := by kernel_rfl
theorem slicesIndexFunc.sound : SoundO Try.prog globs 108 slicesIndexFunc.con :=
  sound_byO (E := slicesIndexFunc.env) (c := slicesIndexFunc.body) (envOk (G := globs) (lc := [(58, eventMay1.con)]) (lo := []) (envB_spec (by kernel_rfl)) rfl rfl ⟨.inl ⟨eventMay1.sound, by kernel_rfl⟩, trivial⟩ rfl trivial (by kernel_rfl) (by kernel_rfl)) Try.func108 (by kernel_rfl) (by kernel_rfl) (by kernel_rfl) slicesIndexFunc.lp (l := [(true, sub [1, 0, 1, 0, 0] slicesIndexFunc.body, slicesIndexFunc.nml2)]) (by kernel_rfl) (fun n => ⟨slicesIndexFunc.atl2 n, trivial⟩) slicesIndexFunc.eq
noncomputable def slicesContainsFunc (fu : Nat) (sv : List S0) : Option ((Bool × Unit) × (Unit)) :=
  (slicesIndexFunc fu sv).bind fun r1 =>
  let t2 := decide (r1.1.1 ≥ (0 : Int))
  some ((t2, ()), (()))

noncomputable def slicesContainsFunc.body : Code := Try.f57.body.getD .skip
noncomputable def slicesContainsFunc.con : OCon := { ps := [.dat (.slice kS0), .fn 58], rs := [.dat .bool], f := fun n x => slicesContainsFunc n x.1 }
noncomputable def slicesContainsFunc.env : Env := { tys := [(4, ⟨.bool, 1⟩)], elems := [], ptrs := [], cons := [], objs := [(108, [slicesIndexFunc.con])], loops := [], cuts := [], globs := globs, base := 0 }
noncomputable def slicesContainsFunc.lp (n : Nat) : LP (RT slicesContainsFunc.con.rs × BT slicesContainsFunc.con.ps) := fun lo κ body nm K s =>
  loops n (RT slicesContainsFunc.con.rs × BT slicesContainsFunc.con.ps) lo κ body nm K s
theorem slicesContainsFunc.eq (n : Nat) (x : PT slicesContainsFunc.con.ps) : evFuncO slicesContainsFunc.env Try.f57 slicesContainsFunc.body slicesContainsFunc.con.ps slicesContainsFunc.con.rs (slicesContainsFunc.lp n) n x = slicesContainsFunc.con.f n x := by kernel_rfl
theorem slicesContainsFunc.sound : SoundO Try.prog globs 57 slicesContainsFunc.con :=
  sound_byO (E := slicesContainsFunc.env) (c := slicesContainsFunc.body) (envOk (G := globs) (lc := []) (lo := [(108, [slicesIndexFunc.con])]) (envB_spec (by kernel_rfl)) rfl rfl trivial rfl ⟨⟨⟨slicesIndexFunc.sound, trivial⟩, by kernel_rfl⟩, trivial⟩ (by kernel_rfl) (by kernel_rfl)) Try.func57 (by kernel_rfl) (by kernel_rfl) (by kernel_rfl) slicesContainsFunc.lp (l := []) (by kernel_rfl) (fun n => trivial) slicesContainsFunc.eq
noncomputable def eventMay (fu : Nat) (ev : S1) : Option (Bool × Unit) :=
  let t1 := decide ((ev.2.1.length : Int) ≤ (8 : Int))
  cond t1 (
    (slicesContainsFunc fu ev.2.1).bind fun r2 =>
    some (!r2.1.1, ())) (
    some (false, ()))

noncomputable def eventMay.body : Code := Try.f22.body.getD .skip
noncomputable def eventMay.con : Con := { ps := [kS1], rs := [.bool], f := fun n x => eventMay n x.1 }
noncomputable def eventMay.env : Env := { tys := [(27, ⟨kS1, 32⟩), (4, ⟨.bool, 1⟩), (25, ⟨(.slice kS0), 24⟩), (34, ⟨kS0, 40⟩)], elems := [(25, 34)], ptrs := [], cons := [], objs := [(57, [slicesContainsFunc.con])], loops := [], cuts := [], globs := globs, base := 0 }
noncomputable def eventMay.lp (n : Nat) : LP (Kd.struct eventMay.con.rs).T := fun lo κ body nm K s =>
  loops n (Kd.struct eventMay.con.rs).T lo κ body nm K s
theorem eventMay.eq (n : Nat) (x : (Kd.struct eventMay.con.ps).T) : evFunc eventMay.env Try.f22 eventMay.body eventMay.con.ps eventMay.con.rs (eventMay.lp n) n x = eventMay.con.f n x := by kernel_rfl
theorem eventMay.sound : Sound Try.prog globs 22 eventMay.con :=
  sound_by (E := eventMay.env) (c := eventMay.body) (envOk (G := globs) (lc := []) (lo := [(57, [slicesContainsFunc.con])]) (envB_spec (by kernel_rfl)) rfl rfl trivial rfl ⟨⟨⟨slicesContainsFunc.sound, trivial⟩, by kernel_rfl⟩, trivial⟩ (by kernel_rfl) (by kernel_rfl)) Try.func22 (by kernel_rfl) eventMay.lp (l := []) (by kernel_rfl) (fun n => trivial) eventMay.eq
noncomputable def slicesClone (fu : Nat) (sv : List Int) : Option (((List Int) × Unit) × (Unit)) :=
  nilQ sv (
    some (([], ()), (()))) (
    chk (apOk [] sv 1) <|
    some (([] ++ sv, ()), (())))

noncomputable def slicesClone.body : Code := Try.f54.body.getD .skip
noncomputable def slicesClone.con : OCon := { ps := [.dat (.slice (.int .u8))], rs := [.own (.int .u8)], f := fun n x => slicesClone n x.1 }
noncomputable def slicesClone.env : Env := { tys := [(38, ⟨(.slice (.int .u8)), 24⟩), (5, ⟨(.int .u8), 1⟩)], elems := [(38, 5)], ptrs := [], cons := [], objs := [], loops := [], cuts := [], globs := globs, base := 0 }
noncomputable def slicesClone.lp (n : Nat) : LP (RT slicesClone.con.rs × BT slicesClone.con.ps) := fun lo κ body nm K s =>
  loops n (RT slicesClone.con.rs × BT slicesClone.con.ps) lo κ body nm K s
theorem slicesClone.eq (n : Nat) (x : PT slicesClone.con.ps) : evFuncO slicesClone.env Try.f54 slicesClone.body slicesClone.con.ps slicesClone.con.rs (slicesClone.lp n) n x = slicesClone.con.f n x := by kernel_rfl
theorem slicesClone.sound : SoundO Try.prog globs 54 slicesClone.con :=
  sound_byO (E := slicesClone.env) (c := slicesClone.body) (envOk (G := globs) (lc := []) (lo := []) (envB_spec (by kernel_rfl)) rfl rfl trivial rfl trivial (by kernel_rfl) (by kernel_rfl)) Try.func54 (by kernel_rfl) (by kernel_rfl) (by kernel_rfl) slicesClone.lp (l := []) (by kernel_rfl) (fun n => trivial) slicesClone.eq
noncomputable def bitsLen64.j7 (fu : Nat) (k1 : Int → Option (Int × Unit)) (xv : Int) (n : Int) : Option (Int × Unit) :=
  let t1 := decide (xv ≥ (256 : Int))
  cond t1 (
    let t2 := IntKind.i64.wrap (n + (8 : Int))
    let t3 := IntKind.u8.wrap (sShr .u64 xv (8 : Int))
    chk (ixOk ([0, 1, 2, 2, 3, 3, 3, 3, 4, 4, 4, 4, 4, 4, 4, 4, 5, 5, 5, 5, 5, 5, 5, 5, 5, 5, 5, 5, 5, 5, 5, 5, 6, 6, 6, 6, 6, 6, 6, 6, 6, 6, 6, 6, 6, 6, 6, 6, 6, 6, 6, 6, 6, 6, 6, 6, 6, 6, 6, 6, 6, 6, 6, 6, 7, 7, 7, 7, 7, 7, 7, 7, 7, 7, 7, 7, 7, 7, 7, 7, 7, 7, 7, 7, 7, 7, 7, 7, 7, 7, 7, 7, 7, 7, 7, 7, 7, 7, 7, 7, 7, 7, 7, 7, 7, 7, 7, 7, 7, 7, 7, 7, 7, 7, 7, 7, 7, 7, 7, 7, 7, 7, 7, 7, 7, 7, 7, 7, 8, 8, 8, 8, 8, 8, 8, 8, 8, 8, 8, 8, 8, 8, 8, 8, 8, 8, 8, 8, 8, 8, 8, 8, 8, 8, 8, 8, 8, 8, 8, 8, 8, 8, 8, 8, 8, 8, 8, 8, 8, 8, 8, 8, 8, 8, 8, 8, 8, 8, 8, 8, 8, 8, 8, 8, 8, 8, 8, 8, 8, 8, 8, 8, 8, 8, 8, 8, 8, 8, 8, 8, 8, 8, 8, 8, 8, 8, 8, 8, 8, 8, 8, 8, 8, 8, 8, 8, 8, 8, 8, 8, 8, 8, 8, 8, 8, 8, 8, 8, 8, 8, 8, 8, 8, 8, 8, 8, 8, 8, 8, 8, 8, 8, 8, 8, 8, 8, 8, 8, 8, 8, 8, 8, 8, 8, 8, 8] : List Int) t3) <|
    let t4 := ixL (0 : Int) ([0, 1, 2, 2, 3, 3, 3, 3, 4, 4, 4, 4, 4, 4, 4, 4, 5, 5, 5, 5, 5, 5, 5, 5, 5, 5, 5, 5, 5, 5, 5, 5, 6, 6, 6, 6, 6, 6, 6, 6, 6, 6, 6, 6, 6, 6, 6, 6, 6, 6, 6, 6, 6, 6, 6, 6, 6, 6, 6, 6, 6, 6, 6, 6, 7, 7, 7, 7, 7, 7, 7, 7, 7, 7, 7, 7, 7, 7, 7, 7, 7, 7, 7, 7, 7, 7, 7, 7, 7, 7, 7, 7, 7, 7, 7, 7, 7, 7, 7, 7, 7, 7, 7, 7, 7, 7, 7, 7, 7, 7, 7, 7, 7, 7, 7, 7, 7, 7, 7, 7, 7, 7, 7, 7, 7, 7, 7, 7, 8, 8, 8, 8, 8, 8, 8, 8, 8, 8, 8, 8, 8, 8, 8, 8, 8, 8, 8, 8, 8, 8, 8, 8, 8, 8, 8, 8, 8, 8, 8, 8, 8, 8, 8, 8, 8, 8, 8, 8, 8, 8, 8, 8, 8, 8, 8, 8, 8, 8, 8, 8, 8, 8, 8, 8, 8, 8, 8, 8, 8, 8, 8, 8, 8, 8, 8, 8, 8, 8, 8, 8, 8, 8, 8, 8, 8, 8, 8, 8, 8, 8, 8, 8, 8, 8, 8, 8, 8, 8, 8, 8, 8, 8, 8, 8, 8, 8, 8, 8, 8, 8, 8, 8, 8, 8, 8, 8, 8, 8, 8, 8, 8, 8, 8, 8, 8, 8, 8, 8, 8, 8, 8, 8, 8, 8, 8, 8] : List Int) t3
    let t5 := IntKind.i64.wrap (t2 + IntKind.i64.wrap t4)
    k1 t5) (
    chk (ixOk ([0, 1, 2, 2, 3, 3, 3, 3, 4, 4, 4, 4, 4, 4, 4, 4, 5, 5, 5, 5, 5, 5, 5, 5, 5, 5, 5, 5, 5, 5, 5, 5, 6, 6, 6, 6, 6, 6, 6, 6, 6, 6, 6, 6, 6, 6, 6, 6, 6, 6, 6, 6, 6, 6, 6, 6, 6, 6, 6, 6, 6, 6, 6, 6, 7, 7, 7, 7, 7, 7, 7, 7, 7, 7, 7, 7, 7, 7, 7, 7, 7, 7, 7, 7, 7, 7, 7, 7, 7, 7, 7, 7, 7, 7, 7, 7, 7, 7, 7, 7, 7, 7, 7, 7, 7, 7, 7, 7, 7, 7, 7, 7, 7, 7, 7, 7, 7, 7, 7, 7, 7, 7, 7, 7, 7, 7, 7, 7, 8, 8, 8, 8, 8, 8, 8, 8, 8, 8, 8, 8, 8, 8, 8, 8, 8, 8, 8, 8, 8, 8, 8, 8, 8, 8, 8, 8, 8, 8, 8, 8, 8, 8, 8, 8, 8, 8, 8, 8, 8, 8, 8, 8, 8, 8, 8, 8, 8, 8, 8, 8, 8, 8, 8, 8, 8, 8, 8, 8, 8, 8, 8, 8, 8, 8, 8, 8, 8, 8, 8, 8, 8, 8, 8, 8, 8, 8, 8, 8, 8, 8, 8, 8, 8, 8, 8, 8, 8, 8, 8, 8, 8, 8, 8, 8, 8, 8, 8, 8, 8, 8, 8, 8, 8, 8, 8, 8, 8, 8, 8, 8, 8, 8, 8, 8, 8, 8, 8, 8, 8, 8, 8, 8, 8, 8, 8, 8] : List Int) (IntKind.u8.wrap xv)) <|
    let t6 := ixL (0 : Int) ([0, 1, 2, 2, 3, 3, 3, 3, 4, 4, 4, 4, 4, 4, 4, 4, 5, 5, 5, 5, 5, 5, 5, 5, 5, 5, 5, 5, 5, 5, 5, 5, 6, 6, 6, 6, 6, 6, 6, 6, 6, 6, 6, 6, 6, 6, 6, 6, 6, 6, 6, 6, 6, 6, 6, 6, 6, 6, 6, 6, 6, 6, 6, 6, 7, 7, 7, 7, 7, 7, 7, 7, 7, 7, 7, 7, 7, 7, 7, 7, 7, 7, 7, 7, 7, 7, 7, 7, 7, 7, 7, 7, 7, 7, 7, 7, 7, 7, 7, 7, 7, 7, 7, 7, 7, 7, 7, 7, 7, 7, 7, 7, 7, 7, 7, 7, 7, 7, 7, 7, 7, 7, 7, 7, 7, 7, 7, 7, 8, 8, 8, 8, 8, 8, 8, 8, 8, 8, 8, 8, 8, 8, 8, 8, 8, 8, 8, 8, 8, 8, 8, 8, 8, 8, 8, 8, 8, 8, 8, 8, 8, 8, 8, 8, 8, 8, 8, 8, 8, 8, 8, 8, 8, 8, 8, 8, 8, 8, 8, 8, 8, 8, 8, 8, 8, 8, 8, 8, 8, 8, 8, 8, 8, 8, 8, 8, 8, 8, 8, 8, 8, 8, 8, 8, 8, 8, 8, 8, 8, 8, 8, 8, 8, 8, 8, 8, 8, 8, 8, 8, 8, 8, 8, 8, 8, 8, 8, 8, 8, 8, 8, 8, 8, 8, 8, 8, 8, 8, 8, 8, 8, 8, 8, 8, 8, 8, 8, 8, 8, 8, 8, 8, 8, 8, 8, 8] : List Int) (IntKind.u8.wrap xv)
    let t7 := IntKind.i64.wrap (n + IntKind.i64.wrap t6)
    k1 t7)
noncomputable def bitsLen64.j4 (fu : Nat) (k1 : Int → Option (Int × Unit)) (xv : Int) (n : Int) : Option (Int × Unit) :=
  let t1 := decide (xv ≥ (65536 : Int))
  cond t1 (
    let t2 := IntKind.i64.wrap (n + (16 : Int))
    bitsLen64.j7 fu (fun nq3 => 
        k1 nq3) (sShr .u64 xv (16 : Int)) t2) (
    bitsLen64.j7 fu (fun nq4 => 
        k1 nq4) xv n)
noncomputable def bitsLen64 (fu : Nat) (xv : Int) : Option (Int × Unit) :=
  let t1 := decide (xv ≥ (4294967296 : Int))
  cond t1 (
    bitsLen64.j4 fu (fun nq1 => 
        some (nq1, ())) (sShr .u64 xv (32 : Int)) (32 : Int)) (
    bitsLen64.j4 fu (fun nq2 => 
        some (nq2, ())) xv (0 : Int))

noncomputable def bitsLen64.body : Code := Try.f129.body.getD .skip
abbrev bitsLen64.shj7 : Shp := ⟨[.d (.int .u64), .u, .d (.int .i64), .u, .u, .u, .u, .u, .u, .u, .u, .u, .u, .u, .u, .u, .u, .u, .u, .u, .u, .u, .u, .u, .u], []⟩
abbrev bitsLen64.outj7e1 : Shp := ⟨[.u, .u, .d (.int .i64), .u, .u, .u, .u, .u, .u, .u, .u, .u, .u, .u, .u, .u, .u, .u, .u, .u, .u, .u, .u, .u, .u], []⟩
noncomputable def bitsLen64.nmj7 : Norm := ⟨{ keep := [0, 2], shut := [(0, (.int .u64)), (2, (.int .i64))], retag := [], heap := 0, dead := [], cshut := [], cretag := [] }, [(1, { keep := [2], shut := [(2, (.int .i64))], retag := [], heap := 0, dead := [], cshut := [], cretag := [] })]⟩
abbrev bitsLen64.shj4 : Shp := ⟨[.d (.int .u64), .u, .d (.int .i64), .u, .u, .u, .u, .u, .u, .u, .u, .u, .u, .u, .u, .u, .u, .u, .u, .u, .u, .u, .u, .u, .u], []⟩
abbrev bitsLen64.outj4e1 : Shp := ⟨[.u, .u, .d (.int .i64), .u, .u, .u, .u, .u, .u, .u, .u, .u, .u, .u, .u, .u, .u, .u, .u, .u, .u, .u, .u, .u, .u], []⟩
noncomputable def bitsLen64.nmj4 : Norm := ⟨{ keep := [0, 2], shut := [(0, (.int .u64)), (2, (.int .i64))], retag := [], heap := 0, dead := [], cshut := [], cretag := [] }, [(1, { keep := [2], shut := [(2, (.int .i64))], retag := [], heap := 0, dead := [], cshut := [], cretag := [] })]⟩
noncomputable def bitsLen64.con : Con := { ps := [(.int .u64)], rs := [(.int .i64)], f := fun n x => bitsLen64 n x.1 }
noncomputable def bitsLen64.env : Env := { tys := [(3, ⟨(.int .i64), 8⟩), (5, ⟨(.int .u8), 1⟩), (51, ⟨(.int .u64), 8⟩), (9, ⟨.str, 16⟩)], elems := [], ptrs := [], cons := [], objs := [], loops := [], cuts := [(7, bitsLen64.nmj7), (4, bitsLen64.nmj4)], globs := globs, base := 0 }
noncomputable def bitsLen64.lp (n : Nat) : LP (Kd.struct bitsLen64.con.rs).T := fun lo κ body nm K s =>
  cond (!lo && Nat.beq κ 7)
    (match bitsLen64.shj7.dec s with
    | some v => bitsLen64.j7 n (fun w0 => K .ret (bitsLen64.outj7e1.enc (w0, ()))) v.1 v.2.1
    | none => loops n (Kd.struct bitsLen64.con.rs).T lo κ body nm K s)
    (cond (!lo && Nat.beq κ 4)
    (match bitsLen64.shj4.dec s with
    | some v => bitsLen64.j4 n (fun w0 => K .ret (bitsLen64.outj4e1.enc (w0, ()))) v.1 v.2.1
    | none => loops n (Kd.struct bitsLen64.con.rs).T lo κ body nm K s)
    (loops n (Kd.struct bitsLen64.con.rs).T lo κ body nm K s))
theorem bitsLen64.atj7 (n : Nat) (s : St) (K : Ex → St → Option (Kd.struct bitsLen64.con.rs).T) : bitsLen64.lp n false 7 (evK bitsLen64.env (bitsLen64.lp n) n (sub [1, 1, 1] bitsLen64.body)) bitsLen64.nmj7 K s = loops n (Kd.struct bitsLen64.con.rs).T false 7 (evK bitsLen64.env (bitsLen64.lp n) n (sub [1, 1, 1] bitsLen64.body)) bitsLen64.nmj7 K s := by
  show (match bitsLen64.shj7.dec s with | some v => bitsLen64.j7 n (fun w0 => K .ret (bitsLen64.outj7e1.enc (w0, ()))) v.1 v.2.1 | none => loops n (Kd.struct bitsLen64.con.rs).T false 7 (evK bitsLen64.env (bitsLen64.lp n) n (sub [1, 1, 1] bitsLen64.body)) bitsLen64.nmj7 K s) = _
  cases h : bitsLen64.shj7.dec s with
  | none => rfl
  | some v =>
    rw [Shp.dec_enc h]
    kernel_rfl
theorem bitsLen64.atj4 (n : Nat) (s : St) (K : Ex → St → Option (Kd.struct bitsLen64.con.rs).T) : bitsLen64.lp n false 4 (evK bitsLen64.env (bitsLen64.lp n) n (sub [1, 1] bitsLen64.body)) bitsLen64.nmj4 K s = loops n (Kd.struct bitsLen64.con.rs).T false 4 (evK bitsLen64.env (bitsLen64.lp n) n (sub [1, 1] bitsLen64.body)) bitsLen64.nmj4 K s := by
  show (match bitsLen64.shj4.dec s with | some v => bitsLen64.j4 n (fun w0 => K .ret (bitsLen64.outj4e1.enc (w0, ()))) v.1 v.2.1 | none => loops n (Kd.struct bitsLen64.con.rs).T false 4 (evK bitsLen64.env (bitsLen64.lp n) n (sub [1, 1] bitsLen64.body)) bitsLen64.nmj4 K s) = _
  cases h : bitsLen64.shj4.dec s with
  | none => rfl
  | some v =>
    rw [Shp.dec_enc h]
    kernel_rfl
theorem bitsLen64.eq (n : Nat) (x : (Kd.struct bitsLen64.con.ps).T) : evFunc bitsLen64.env Try.f129 bitsLen64.body bitsLen64.con.ps bitsLen64.con.rs (bitsLen64.lp n) n x = bitsLen64.con.f n x := by kernel_rfl
theorem bitsLen64.sound : Sound Try.prog globs 129 bitsLen64.con :=
  sound_by (E := bitsLen64.env) (c := bitsLen64.body) (envOk (G := globs) (lc := []) (lo := []) (envB_spec (by kernel_rfl)) rfl rfl trivial rfl trivial (by kernel_rfl) (by kernel_rfl)) Try.func129 (by kernel_rfl) bitsLen64.lp (l := [(false, sub [1, 1, 1] bitsLen64.body, bitsLen64.nmj7), (false, sub [1, 1] bitsLen64.body, bitsLen64.nmj4)]) (by kernel_rfl) (fun n => ⟨bitsLen64.atj7 n, ⟨bitsLen64.atj4 n, trivial⟩⟩) bitsLen64.eq
noncomputable def packSize (fu : Nat) (n : Int) : Option (Int × Unit) :=
  (bitsLen64 fu n).bind fun r1 =>
  let t2 := IntKind.i64.wrap (max2 r1.1 (1 : Int) + (6 : Int))
  let t3 := IntKind.i64.wrap (Int.tdiv t2 (7 : Int))
  some (t3, ())

noncomputable def packSize.body : Code := Try.f110.body.getD .skip
noncomputable def packSize.con : Con := { ps := [(.int .u64)], rs := [(.int .i64)], f := fun n x => packSize n x.1 }
noncomputable def packSize.env : Env := { tys := [(3, ⟨(.int .i64), 8⟩)], elems := [], ptrs := [], cons := [(129, bitsLen64.con)], objs := [], loops := [], cuts := [], globs := globs, base := 0 }
noncomputable def packSize.lp (n : Nat) : LP (Kd.struct packSize.con.rs).T := fun lo κ body nm K s =>
  loops n (Kd.struct packSize.con.rs).T lo κ body nm K s
theorem packSize.eq (n : Nat) (x : (Kd.struct packSize.con.ps).T) : evFunc packSize.env Try.f110 packSize.body packSize.con.ps packSize.con.rs (packSize.lp n) n x = packSize.con.f n x := by kernel_rfl
theorem packSize.sound : Sound Try.prog globs 110 packSize.con :=
  sound_by (E := packSize.env) (c := packSize.body) (envOk (G := globs) (lc := [(129, bitsLen64.con)]) (lo := []) (envB_spec (by kernel_rfl)) rfl rfl ⟨.inl ⟨bitsLen64.sound, by kernel_rfl⟩, trivial⟩ rfl trivial (by kernel_rfl) (by kernel_rfl)) Try.func110 (by kernel_rfl) packSize.lp (l := []) (by kernel_rfl) (fun n => trivial) packSize.eq
noncomputable def packOwn (fu : Nat) (b : List Int) (room : Int) : Option (((List Int) × Unit) × (Unit)) :=
  let t1 := IntKind.i64.wrap ((b.length : Int) + room)
  chk (mkOk (0 : Int) t1 1) <|
  let t2 := List.replicate (0 : Int).toNat (0 : Int)
  chk (apOk t2 b 1) <|
  some ((t2 ++ b, ()), (()))

noncomputable def packOwn.body : Code := Try.f109.body.getD .skip
noncomputable def packOwn.con : OCon := { ps := [.dat (.slice (.int .u8)), .dat (.int .i64)], rs := [.own (.int .u8)], f := fun n x => packOwn n x.1 x.2.1 }
noncomputable def packOwn.env : Env := { tys := [(38, ⟨(.slice (.int .u8)), 24⟩), (5, ⟨(.int .u8), 1⟩)], elems := [(38, 5)], ptrs := [], cons := [], objs := [], loops := [], cuts := [], globs := globs, base := 0 }
noncomputable def packOwn.lp (n : Nat) : LP (RT packOwn.con.rs × BT packOwn.con.ps) := fun lo κ body nm K s =>
  loops n (RT packOwn.con.rs × BT packOwn.con.ps) lo κ body nm K s
theorem packOwn.eq (n : Nat) (x : PT packOwn.con.ps) : evFuncO packOwn.env Try.f109 packOwn.body packOwn.con.ps packOwn.con.rs (packOwn.lp n) n x = packOwn.con.f n x := by kernel_rfl
theorem packOwn.sound : SoundO Try.prog globs 109 packOwn.con :=
  sound_byO (E := packOwn.env) (c := packOwn.body) (envOk (G := globs) (lc := []) (lo := []) (envB_spec (by kernel_rfl)) rfl rfl trivial rfl trivial (by kernel_rfl) (by kernel_rfl)) Try.func109 (by kernel_rfl) (by kernel_rfl) (by kernel_rfl) packOwn.lp (l := []) (by kernel_rfl) (fun n => trivial) packOwn.eq
noncomputable def packPutDat.b2 (fu : Nat) (next : Int → (List Int) → Option ((List Int) × Unit)) (k2 : Int → (List Int) → Option ((List Int) × Unit)) (n : Int) (out : List Int) : Option ((List Int) × Unit) :=
  cond (decide (n ≥ (128 : Int))) (
    let t1 := bOr .u8 (IntKind.u8.wrap n) (128 : Int)
    chk (apOk out ([t1]) 1) <|
    next (sShr .u64 n (7 : Int)) (out ++ ([t1]))) (
    k2 n out)
noncomputable def packPutDat.l2 (fu : Nat) (k2 : Int → (List Int) → Option ((List Int) × Unit)) : Nat → Int → (List Int) → Option ((List Int) × Unit)
  | 0, _, _ => none
  | m + 1, n, out => packPutDat.b2 fu (packPutDat.l2 fu k2 m) k2 n out
noncomputable def packPutDat (fu : Nat) (b : List Int) (n : Int) : Option ((List Int) × Unit) :=
  (packSize fu n).bind fun r1 =>
  (packOwn fu b r1.1).bind fun r2 =>
  packPutDat.l2 fu (fun nq2 outq2 => 
      chk (apOk outq2 ([IntKind.u8.wrap nq2]) 1) <|
      let t3 := outq2 ++ ([IntKind.u8.wrap nq2])
      some (t3, ())) fu n r2.1.1

noncomputable def packPutDat.body : Code := Try.f61.body.getD .skip
abbrev packPutDat.shl2 : Shp := ⟨[.u, .d (.int .u64), .u, .u, .u, .o 5 (.int .u8), .u, .u, .u, .u, .u, .u, .u, .u, .u, .u, .u, .u, .u, .u, .u, .u, .u, .u, .u], []⟩
abbrev packPutDat.outl2e2 : Shp := ⟨[.u, .d (.int .u64), .u, .u, .u, .o 5 (.int .u8), .u, .u, .u, .u, .u, .u, .u, .u, .u, .u, .u, .u, .u, .u, .u, .u, .u, .u, .u], []⟩
noncomputable def packPutDat.nml2 : Norm := ⟨{ keep := [1, 5], shut := [(1, (.int .u64))], retag := [(5, 5, (.int .u8))], heap := 0, dead := [], cshut := [], cretag := [] }, [(2, { keep := [1, 5], shut := [(1, (.int .u64))], retag := [(5, 5, (.int .u8))], heap := 0, dead := [], cshut := [], cretag := [] })]⟩
noncomputable def packPutDat.con : Con := { ps := [(.slice (.int .u8)), (.int .u64)], rs := [(.slice (.int .u8))], f := fun n x => packPutDat n x.1 x.2.1 }
noncomputable def packPutDat.env : Env := { tys := [(38, ⟨(.slice (.int .u8)), 24⟩), (5, ⟨(.int .u8), 1⟩), (51, ⟨(.int .u64), 8⟩)], elems := [(38, 5)], ptrs := [], cons := [(110, packSize.con)], objs := [(109, [packOwn.con])], loops := [(2, packPutDat.nml2)], cuts := [], globs := globs, base := 0 }
noncomputable def packPutDat.lp (n : Nat) : LP (Kd.struct packPutDat.con.rs).T := fun lo κ body nm K s =>
  cond (lo && Nat.beq κ 2)
    (match packPutDat.shl2.dec s with
    | some v => packPutDat.l2 n (fun w0 w1 => K (.exit 0) (packPutDat.outl2e2.enc (w0, w1, ()))) n v.1 v.2.1
    | none => loops n (Kd.struct packPutDat.con.rs).T lo κ body nm K s)
    (loops n (Kd.struct packPutDat.con.rs).T lo κ body nm K s)
theorem packPutDat.atl2 (n : Nat) (s : St) (K : Ex → St → Option (Kd.struct packPutDat.con.rs).T) : packPutDat.lp n true 2 (evK packPutDat.env (packPutDat.lp n) n (sub [1, 1, 0, 0, 0] packPutDat.body)) packPutDat.nml2 K s = loops n (Kd.struct packPutDat.con.rs).T true 2 (evK packPutDat.env (packPutDat.lp n) n (sub [1, 1, 0, 0, 0] packPutDat.body)) packPutDat.nml2 K s := by
  show (match packPutDat.shl2.dec s with | some v => packPutDat.l2 n (fun w0 w1 => K (.exit 0) (packPutDat.outl2e2.enc (w0, w1, ()))) n v.1 v.2.1 | none => loops n (Kd.struct packPutDat.con.rs).T true 2 (evK packPutDat.env (packPutDat.lp n) n (sub [1, 1, 0, 0, 0] packPutDat.body)) packPutDat.nml2 K s) = _
  cases h : packPutDat.shl2.dec s with
  | none => rfl
  | some v =>
    rw [Shp.dec_enc h]
    exact (evLoop_eq (sh := packPutDat.shl2) (body := evK packPutDat.env (packPutDat.lp n) n (sub [1, 1, 0, 0, 0] packPutDat.body)) (nm := packPutDat.nml2) (K := K) (b := fun nx v => packPutDat.b2 n (fun x0 x1 => nx (x0, x1, ())) (fun w0 w1 => K (.exit 0) (packPutDat.outl2e2.enc (w0, w1, ()))) v.1 v.2.1) (l := fun m v => packPutDat.l2 n (fun w0 w1 => K (.exit 0) (packPutDat.outl2e2.enc (w0, w1, ()))) m v.1 v.2.1) (fun _ => rfl) (fun _ _ => rfl) (fun m v => by kernel_rfl) n v).symm
theorem packPutDat.eq (n : Nat) (x : (Kd.struct packPutDat.con.ps).T) : evFunc packPutDat.env Try.f61 packPutDat.body packPutDat.con.ps packPutDat.con.rs (packPutDat.lp n) n x = packPutDat.con.f n x := by kernel_rfl
theorem packPutDat.sound : Sound Try.prog globs 61 packPutDat.con :=
  sound_by (E := packPutDat.env) (c := packPutDat.body) (envOk (G := globs) (lc := [(110, packSize.con)]) (lo := [(109, [packOwn.con])]) (envB_spec (by kernel_rfl)) rfl rfl ⟨.inl ⟨packSize.sound, by kernel_rfl⟩, trivial⟩ rfl ⟨⟨⟨packOwn.sound, trivial⟩, by kernel_rfl⟩, trivial⟩ (by kernel_rfl) (by kernel_rfl)) Try.func61 (by kernel_rfl) packPutDat.lp (l := [(true, sub [1, 1, 0, 0, 0] packPutDat.body, packPutDat.nml2)]) (by kernel_rfl) (fun n => ⟨packPutDat.atl2 n, trivial⟩) packPutDat.eq
noncomputable def packPutInt (fu : Nat) (b : List Int) (n : Int) : Option ((List Int) × Unit) :=
  let t1 := sShl .u64 (IntKind.u64.wrap n) (1 : Int)
  let t2 := IntKind.u64.wrap (sShr .i64 n (63 : Int))
  (packPutDat fu b (bXor .u64 t1 t2)).bind fun r3 =>
  some (r3.1, ())

noncomputable def packPutInt.body : Code := Try.f102.body.getD .skip
noncomputable def packPutInt.con : Con := { ps := [(.slice (.int .u8)), (.int .i64)], rs := [(.slice (.int .u8))], f := fun n x => packPutInt n x.1 x.2.1 }
noncomputable def packPutInt.env : Env := { tys := [(38, ⟨(.slice (.int .u8)), 24⟩), (51, ⟨(.int .u64), 8⟩), (2, ⟨(.int .i64), 8⟩)], elems := [], ptrs := [], cons := [(61, packPutDat.con)], objs := [], loops := [], cuts := [], globs := globs, base := 0 }
noncomputable def packPutInt.lp (n : Nat) : LP (Kd.struct packPutInt.con.rs).T := fun lo κ body nm K s =>
  loops n (Kd.struct packPutInt.con.rs).T lo κ body nm K s
theorem packPutInt.eq (n : Nat) (x : (Kd.struct packPutInt.con.ps).T) : evFunc packPutInt.env Try.f102 packPutInt.body packPutInt.con.ps packPutInt.con.rs (packPutInt.lp n) n x = packPutInt.con.f n x := by kernel_rfl
theorem packPutInt.sound : Sound Try.prog globs 102 packPutInt.con :=
  sound_by (E := packPutInt.env) (c := packPutInt.body) (envOk (G := globs) (lc := [(61, packPutDat.con)]) (lo := []) (envB_spec (by kernel_rfl)) rfl rfl ⟨.inl ⟨packPutDat.sound, by kernel_rfl⟩, trivial⟩ rfl trivial (by kernel_rfl) (by kernel_rfl)) Try.func102 (by kernel_rfl) packPutInt.lp (l := []) (by kernel_rfl) (fun n => trivial) packPutInt.eq
noncomputable def realBits (fu : Nat) (xv : Nat) : Option (Int × Unit) :=
  cond (fNeq xv xv) (
    some ((9221120237041090560 : Int), ())) (
    (extBits.f fu (xv, ())).bind fun r1 =>
    some (r1.1, ()))

noncomputable def realBits.body : Code := Try.f127.body.getD .skip
noncomputable def realBits.con : Con := { ps := [.flt], rs := [(.int .u64)], f := fun n x => realBits n x.1 }
noncomputable def realBits.env : Env := { tys := [(51, ⟨(.int .u64), 8⟩)], elems := [], ptrs := [], cons := [(92, extBits)], objs := [], loops := [], cuts := [], globs := globs, base := 0 }
noncomputable def realBits.lp (n : Nat) : LP (Kd.struct realBits.con.rs).T := fun lo κ body nm K s =>
  loops n (Kd.struct realBits.con.rs).T lo κ body nm K s
theorem realBits.eq (n : Nat) (x : (Kd.struct realBits.con.ps).T) : evFunc realBits.env Try.f127 realBits.body realBits.con.ps realBits.con.rs (realBits.lp n) n x = realBits.con.f n x := by kernel_rfl
theorem realBits.sound : Sound Try.prog globs 127 realBits.con :=
  sound_by (E := realBits.env) (c := realBits.body) (envOk (G := globs) (lc := [(92, extBits)]) (lo := []) (envB_spec (by kernel_rfl)) rfl rfl ⟨.inr (extBits_ok Try.func92 (by kernel_rfl) (by kernel_rfl) (by kernel_rfl) (by kernel_rfl)), trivial⟩ rfl trivial (by kernel_rfl) (by kernel_rfl)) Try.func127 (by kernel_rfl) realBits.lp (l := []) (by kernel_rfl) (fun n => trivial) realBits.eq
noncomputable def packPutRealDat.b4 (fu : Nat) (next : (List Int) → Int → Int → Option ((List Int) × Unit)) (k2 : (List Int) → Option ((List Int) × Unit)) (out : List Int) (n : Int) (i : Int) : Option ((List Int) × Unit) :=
  cond (decide (i ≥ (0 : Int))) (
    chk (!decide (i < 0)) <|
    let t1 := IntKind.u8.wrap (sShr .u64 n i)
    chk (apOk out ([t1]) 1) <|
    let t2 := IntKind.i64.wrap (i - (8 : Int))
    next (out ++ ([t1])) n t2) (
    k2 out)
noncomputable def packPutRealDat.l4 (fu : Nat) (k2 : (List Int) → Option ((List Int) × Unit)) : Nat → (List Int) → Int → Int → Option ((List Int) × Unit)
  | 0, _, _, _ => none
  | m + 1, out, n, i => packPutRealDat.b4 fu (packPutRealDat.l4 fu k2 m) k2 out n i
noncomputable def packPutRealDat (fu : Nat) (b : List Int) (xv : Nat) : Option ((List Int) × Unit) :=
  (packOwn fu b (8 : Int)).bind fun r1 =>
  (realBits fu xv).bind fun r2 =>
  packPutRealDat.l4 fu (fun outq2 => 
      some (outq2, ())) fu r1.1.1 r2.1 (56 : Int)

noncomputable def packPutRealDat.body : Code := Try.f103.body.getD .skip
abbrev packPutRealDat.shl4 : Shp := ⟨[.u, .u, .u, .u, .u, .o 5 (.int .u8), .d (.int .u64), .d (.int .i64), .u, .u, .u, .u, .u, .u, .u, .u, .u, .u, .u, .u, .u, .u, .u, .u], []⟩
abbrev packPutRealDat.outl4e2 : Shp := ⟨[.u, .u, .u, .u, .u, .o 5 (.int .u8), .u, .u, .u, .u, .u, .u, .u, .u, .u, .u, .u, .u, .u, .u, .u, .u, .u, .u], []⟩
noncomputable def packPutRealDat.nml4 : Norm := ⟨{ keep := [5, 6, 7], shut := [(6, (.int .u64)), (7, (.int .i64))], retag := [(5, 5, (.int .u8))], heap := 0, dead := [], cshut := [], cretag := [] }, [(2, { keep := [5], shut := [], retag := [(5, 5, (.int .u8))], heap := 0, dead := [], cshut := [], cretag := [] })]⟩
noncomputable def packPutRealDat.con : Con := { ps := [(.slice (.int .u8)), .flt], rs := [(.slice (.int .u8))], f := fun n x => packPutRealDat n x.1 x.2.1 }
noncomputable def packPutRealDat.env : Env := { tys := [(38, ⟨(.slice (.int .u8)), 24⟩), (3, ⟨(.int .i64), 8⟩), (5, ⟨(.int .u8), 1⟩), (51, ⟨(.int .u64), 8⟩)], elems := [(38, 5)], ptrs := [], cons := [(127, realBits.con)], objs := [(109, [packOwn.con])], loops := [(4, packPutRealDat.nml4)], cuts := [], globs := globs, base := 0 }
noncomputable def packPutRealDat.lp (n : Nat) : LP (Kd.struct packPutRealDat.con.rs).T := fun lo κ body nm K s =>
  cond (lo && Nat.beq κ 4)
    (match packPutRealDat.shl4.dec s with
    | some v => packPutRealDat.l4 n (fun w0 => K (.exit 0) (packPutRealDat.outl4e2.enc (w0, ()))) n v.1 v.2.1 v.2.2.1
    | none => loops n (Kd.struct packPutRealDat.con.rs).T lo κ body nm K s)
    (loops n (Kd.struct packPutRealDat.con.rs).T lo κ body nm K s)
theorem packPutRealDat.atl4 (n : Nat) (s : St) (K : Ex → St → Option (Kd.struct packPutRealDat.con.rs).T) : packPutRealDat.lp n true 4 (evK packPutRealDat.env (packPutRealDat.lp n) n (sub [1, 1, 1, 0, 1, 0, 0] packPutRealDat.body)) packPutRealDat.nml4 K s = loops n (Kd.struct packPutRealDat.con.rs).T true 4 (evK packPutRealDat.env (packPutRealDat.lp n) n (sub [1, 1, 1, 0, 1, 0, 0] packPutRealDat.body)) packPutRealDat.nml4 K s := by
  show (match packPutRealDat.shl4.dec s with | some v => packPutRealDat.l4 n (fun w0 => K (.exit 0) (packPutRealDat.outl4e2.enc (w0, ()))) n v.1 v.2.1 v.2.2.1 | none => loops n (Kd.struct packPutRealDat.con.rs).T true 4 (evK packPutRealDat.env (packPutRealDat.lp n) n (sub [1, 1, 1, 0, 1, 0, 0] packPutRealDat.body)) packPutRealDat.nml4 K s) = _
  cases h : packPutRealDat.shl4.dec s with
  | none => rfl
  | some v =>
    rw [Shp.dec_enc h]
    exact (evLoop_eq (sh := packPutRealDat.shl4) (body := evK packPutRealDat.env (packPutRealDat.lp n) n (sub [1, 1, 1, 0, 1, 0, 0] packPutRealDat.body)) (nm := packPutRealDat.nml4) (K := K) (b := fun nx v => packPutRealDat.b4 n (fun x0 x1 x2 => nx (x0, x1, x2, ())) (fun w0 => K (.exit 0) (packPutRealDat.outl4e2.enc (w0, ()))) v.1 v.2.1 v.2.2.1) (l := fun m v => packPutRealDat.l4 n (fun w0 => K (.exit 0) (packPutRealDat.outl4e2.enc (w0, ()))) m v.1 v.2.1 v.2.2.1) (fun _ => rfl) (fun _ _ => rfl) (fun m v => by kernel_rfl) n v).symm
theorem packPutRealDat.eq (n : Nat) (x : (Kd.struct packPutRealDat.con.ps).T) : evFunc packPutRealDat.env Try.f103 packPutRealDat.body packPutRealDat.con.ps packPutRealDat.con.rs (packPutRealDat.lp n) n x = packPutRealDat.con.f n x := by kernel_rfl
theorem packPutRealDat.sound : Sound Try.prog globs 103 packPutRealDat.con :=
  sound_by (E := packPutRealDat.env) (c := packPutRealDat.body) (envOk (G := globs) (lc := [(127, realBits.con)]) (lo := [(109, [packOwn.con])]) (envB_spec (by kernel_rfl)) rfl rfl ⟨.inl ⟨realBits.sound, by kernel_rfl⟩, trivial⟩ rfl ⟨⟨⟨packOwn.sound, trivial⟩, by kernel_rfl⟩, trivial⟩ (by kernel_rfl) (by kernel_rfl)) Try.func103 (by kernel_rfl) packPutRealDat.lp (l := [(true, sub [1, 1, 1, 0, 1, 0, 0] packPutRealDat.body, packPutRealDat.nml4)]) (by kernel_rfl) (fun n => ⟨packPutRealDat.atl4 n, trivial⟩) packPutRealDat.eq
noncomputable def packPut.b2 (fu : Nat) (next : Int → (List Int) → Option (((List Int) × Unit) × (Unit))) (k2 : Int → (List Int) → Option (((List Int) × Unit) × (Unit))) (n : Int) (out : List Int) : Option (((List Int) × Unit) × (Unit)) :=
  cond (decide (n ≥ (128 : Int))) (
    let t1 := bOr .u8 (IntKind.u8.wrap n) (128 : Int)
    chk (apOk out ([t1]) 1) <|
    next (sShr .u64 n (7 : Int)) (out ++ ([t1]))) (
    k2 n out)
noncomputable def packPut.l2 (fu : Nat) (k2 : Int → (List Int) → Option (((List Int) × Unit) × (Unit))) : Nat → Int → (List Int) → Option (((List Int) × Unit) × (Unit))
  | 0, _, _ => none
  | m + 1, n, out => packPut.b2 fu (packPut.l2 fu k2 m) k2 n out
noncomputable def packPut (fu : Nat) (b : List Int) (n : Int) : Option (((List Int) × Unit) × (Unit)) :=
  (packSize fu n).bind fun r1 =>
  (packOwn fu b r1.1).bind fun r2 =>
  packPut.l2 fu (fun nq2 outq2 => 
      chk (apOk outq2 ([IntKind.u8.wrap nq2]) 1) <|
      let t3 := outq2 ++ ([IntKind.u8.wrap nq2])
      some ((t3, ()), (()))) fu n r2.1.1

noncomputable def packPut.body : Code := Try.f61.body.getD .skip
abbrev packPut.shl2 : Shp := ⟨[.u, .d (.int .u64), .u, .u, .u, .o 5 (.int .u8), .u, .u, .u, .u, .u, .u, .u, .u, .u, .u, .u, .u, .u, .u, .u, .u, .u, .u, .u], []⟩
abbrev packPut.outl2e2 : Shp := ⟨[.u, .d (.int .u64), .u, .u, .u, .o 5 (.int .u8), .u, .u, .u, .u, .u, .u, .u, .u, .u, .u, .u, .u, .u, .u, .u, .u, .u, .u, .u], []⟩
noncomputable def packPut.nml2 : Norm := ⟨{ keep := [1, 5], shut := [(1, (.int .u64))], retag := [(5, 5, (.int .u8))], heap := 0, dead := [], cshut := [], cretag := [] }, [(2, { keep := [1, 5], shut := [(1, (.int .u64))], retag := [(5, 5, (.int .u8))], heap := 0, dead := [], cshut := [], cretag := [] })]⟩
noncomputable def packPut.con : OCon := { ps := [.dat (.slice (.int .u8)), .dat (.int .u64)], rs := [.own (.int .u8)], f := fun n x => packPut n x.1 x.2.1 }
noncomputable def packPut.env : Env := { tys := [(38, ⟨(.slice (.int .u8)), 24⟩), (5, ⟨(.int .u8), 1⟩), (51, ⟨(.int .u64), 8⟩)], elems := [(38, 5)], ptrs := [], cons := [(110, packSize.con)], objs := [(109, [packOwn.con])], loops := [(2, packPut.nml2)], cuts := [], globs := globs, base := 0 }
noncomputable def packPut.lp (n : Nat) : LP (RT packPut.con.rs × BT packPut.con.ps) := fun lo κ body nm K s =>
  cond (lo && Nat.beq κ 2)
    (match packPut.shl2.dec s with
    | some v => packPut.l2 n (fun w0 w1 => K (.exit 0) (packPut.outl2e2.enc (w0, w1, ()))) n v.1 v.2.1
    | none => loops n (RT packPut.con.rs × BT packPut.con.ps) lo κ body nm K s)
    (loops n (RT packPut.con.rs × BT packPut.con.ps) lo κ body nm K s)
theorem packPut.atl2 (n : Nat) (s : St) (K : Ex → St → Option (RT packPut.con.rs × BT packPut.con.ps)) : packPut.lp n true 2 (evK packPut.env (packPut.lp n) n (sub [1, 1, 0, 0, 0] packPut.body)) packPut.nml2 K s = loops n (RT packPut.con.rs × BT packPut.con.ps) true 2 (evK packPut.env (packPut.lp n) n (sub [1, 1, 0, 0, 0] packPut.body)) packPut.nml2 K s := by
  show (match packPut.shl2.dec s with | some v => packPut.l2 n (fun w0 w1 => K (.exit 0) (packPut.outl2e2.enc (w0, w1, ()))) n v.1 v.2.1 | none => loops n (RT packPut.con.rs × BT packPut.con.ps) true 2 (evK packPut.env (packPut.lp n) n (sub [1, 1, 0, 0, 0] packPut.body)) packPut.nml2 K s) = _
  cases h : packPut.shl2.dec s with
  | none => rfl
  | some v =>
    rw [Shp.dec_enc h]
    exact (evLoop_eq (sh := packPut.shl2) (body := evK packPut.env (packPut.lp n) n (sub [1, 1, 0, 0, 0] packPut.body)) (nm := packPut.nml2) (K := K) (b := fun nx v => packPut.b2 n (fun x0 x1 => nx (x0, x1, ())) (fun w0 w1 => K (.exit 0) (packPut.outl2e2.enc (w0, w1, ()))) v.1 v.2.1) (l := fun m v => packPut.l2 n (fun w0 w1 => K (.exit 0) (packPut.outl2e2.enc (w0, w1, ()))) m v.1 v.2.1) (fun _ => rfl) (fun _ _ => rfl) (fun m v => by kernel_rfl) n v).symm
theorem packPut.eq (n : Nat) (x : PT packPut.con.ps) : evFuncO packPut.env Try.f61 packPut.body packPut.con.ps packPut.con.rs (packPut.lp n) n x = packPut.con.f n x := by kernel_rfl
theorem packPut.sound : SoundO Try.prog globs 61 packPut.con :=
  sound_byO (E := packPut.env) (c := packPut.body) (envOk (G := globs) (lc := [(110, packSize.con)]) (lo := [(109, [packOwn.con])]) (envB_spec (by kernel_rfl)) rfl rfl ⟨.inl ⟨packSize.sound, by kernel_rfl⟩, trivial⟩ rfl ⟨⟨⟨packOwn.sound, trivial⟩, by kernel_rfl⟩, trivial⟩ (by kernel_rfl) (by kernel_rfl)) Try.func61 (by kernel_rfl) (by kernel_rfl) (by kernel_rfl) packPut.lp (l := [(true, sub [1, 1, 0, 0, 0] packPut.body, packPut.nml2)]) (by kernel_rfl) (fun n => ⟨packPut.atl2 n, trivial⟩) packPut.eq
noncomputable def packPutText (fu : Nat) (b : List Int) (sv : List Int) : Option ((List Int) × Unit) :=
  let t1 := IntKind.u64.wrap (sv.length : Int)
  (packPut fu b t1).bind fun r2 =>
  chk (apOk r2.1.1 sv 1) <|
  some (r2.1.1 ++ sv, ())

noncomputable def packPutText.body : Code := Try.f104.body.getD .skip
noncomputable def packPutText.con : Con := { ps := [(.slice (.int .u8)), .str], rs := [(.slice (.int .u8))], f := fun n x => packPutText n x.1 x.2.1 }
noncomputable def packPutText.env : Env := { tys := [(38, ⟨(.slice (.int .u8)), 24⟩), (9, ⟨.str, 16⟩), (51, ⟨(.int .u64), 8⟩), (3, ⟨(.int .i64), 8⟩), (5, ⟨(.int .u8), 1⟩)], elems := [(38, 5)], ptrs := [], cons := [], objs := [(61, [packPut.con])], loops := [], cuts := [], globs := globs, base := 0 }
noncomputable def packPutText.lp (n : Nat) : LP (Kd.struct packPutText.con.rs).T := fun lo κ body nm K s =>
  loops n (Kd.struct packPutText.con.rs).T lo κ body nm K s
theorem packPutText.eq (n : Nat) (x : (Kd.struct packPutText.con.ps).T) : evFunc packPutText.env Try.f104 packPutText.body packPutText.con.ps packPutText.con.rs (packPutText.lp n) n x = packPutText.con.f n x := by kernel_rfl
theorem packPutText.sound : Sound Try.prog globs 104 packPutText.con :=
  sound_by (E := packPutText.env) (c := packPutText.body) (envOk (G := globs) (lc := []) (lo := [(61, [packPut.con])]) (envB_spec (by kernel_rfl)) rfl rfl trivial rfl ⟨⟨⟨packPut.sound, trivial⟩, by kernel_rfl⟩, trivial⟩ (by kernel_rfl) (by kernel_rfl)) Try.func104 (by kernel_rfl) packPutText.lp (l := []) (by kernel_rfl) (fun n => trivial) packPutText.eq
noncomputable def valuePut (fu : Nat) (b : List Int) (v : S0) : Option ((List Int) × Int × Unit) :=
  (valueMay fu v).bind fun r1 =>
  cond (!r1.1) (
    some ([], (1 : Int), ())) (
    let t2 := IntKind.i64.wrap ((b.length : Int) + (1 : Int))
    chk (mkOk (0 : Int) t2 1) <|
    let t3 := List.replicate (0 : Int).toNat (0 : Int)
    chk (apOk t3 b 1) <|
    chk (apOk (t3 ++ b) ([v.1]) 1) <|
    cond (v.1 == (1 : Int)) (
      (packPutInt fu ((t3 ++ b) ++ ([v.1])) v.2.1).bind fun r4 =>
      some (r4.1, (0 : Int), ())) (
      cond (v.1 == (2 : Int)) (
        (packPutRealDat fu ((t3 ++ b) ++ ([v.1])) v.2.2.1).bind fun r5 =>
        some (r5.1, (0 : Int), ())) (
        cond (v.1 == (3 : Int)) (
          (packPutText fu ((t3 ++ b) ++ ([v.1])) v.2.2.2.1).bind fun r6 =>
          some (r6.1, (0 : Int), ())) (
          some ((t3 ++ b) ++ ([v.1]), (0 : Int), ())))))

noncomputable def valuePut.body : Code := Try.f55.body.getD .skip
noncomputable def valuePut.con : Con := { ps := [(.slice (.int .u8)), kS0], rs := [(.slice (.int .u8)), (.int .i64)], f := fun n x => valuePut n x.1 x.2.1 }
noncomputable def valuePut.env : Env := { tys := [(34, ⟨kS0, 40⟩), (38, ⟨(.slice (.int .u8)), 24⟩), (39, ⟨(.int .i64), 8⟩), (5, ⟨(.int .u8), 1⟩), (2, ⟨(.int .i64), 8⟩), (32, ⟨.flt, 8⟩), (9, ⟨.str, 16⟩)], elems := [(38, 5)], ptrs := [], cons := [(59, valueMay.con), (102, packPutInt.con), (103, packPutRealDat.con), (104, packPutText.con)], objs := [], loops := [], cuts := [], globs := globs, base := 0 }
noncomputable def valuePut.lp (n : Nat) : LP (Kd.struct valuePut.con.rs).T := fun lo κ body nm K s =>
  loops n (Kd.struct valuePut.con.rs).T lo κ body nm K s
theorem valuePut.eq (n : Nat) (x : (Kd.struct valuePut.con.ps).T) : evFunc valuePut.env Try.f55 valuePut.body valuePut.con.ps valuePut.con.rs (valuePut.lp n) n x = valuePut.con.f n x := by kernel_rfl
theorem valuePut.sound : Sound Try.prog globs 55 valuePut.con :=
  sound_by (E := valuePut.env) (c := valuePut.body) (envOk (G := globs) (lc := [(59, valueMay.con), (102, packPutInt.con), (103, packPutRealDat.con), (104, packPutText.con)]) (lo := []) (envB_spec (by kernel_rfl)) rfl rfl ⟨.inl ⟨valueMay.sound, by kernel_rfl⟩, ⟨.inl ⟨packPutInt.sound, by kernel_rfl⟩, ⟨.inl ⟨packPutRealDat.sound, by kernel_rfl⟩, ⟨.inl ⟨packPutText.sound, by kernel_rfl⟩, trivial⟩⟩⟩⟩ rfl trivial (by kernel_rfl) (by kernel_rfl)) Try.func55 (by kernel_rfl) valuePut.lp (l := []) (by kernel_rfl) (fun n => trivial) valuePut.eq
noncomputable def eventPut.b5 (fu : Nat) (next : (List Int) → (List S0) → Int → Int → Option ((List Int) × Int × Unit)) (k2 : (List Int) → Option ((List Int) × Int × Unit)) (out : List Int) (v : List S0) (vx2 : Int) (vx3 : Int) : Option ((List Int) × Int × Unit) :=
  cond (decide (vx3 < vx2)) (
    chk (ixOk v vx3) <|
    let e1 := ixL ((0 : Int), (0 : Int), (0 : Nat), [], ()) v vx3
    (valuePut fu out e1).bind fun r2 =>
    let t3 := IntKind.i64.wrap (vx3 + (1 : Int))
    next r2.1 v vx2 t3) (
    k2 out)
noncomputable def eventPut.l5 (fu : Nat) (k2 : (List Int) → Option ((List Int) × Int × Unit)) : Nat → (List Int) → (List S0) → Int → Int → Option ((List Int) × Int × Unit)
  | 0, _, _, _, _ => none
  | m + 1, out, v, vx2, vx3 => eventPut.b5 fu (eventPut.l5 fu k2 m) k2 out v vx2 vx3
noncomputable def eventPut (fu : Nat) (b : List Int) (ev : S1) : Option ((List Int) × Int × Unit) :=
  (eventMay fu ev).bind fun r1 =>
  cond (!r1.1) (
    some ([], (1 : Int), ())) (
    (slicesClone fu b).bind fun r2 =>
    let t3 := IntKind.u8.wrap (ev.2.1.length : Int)
    chk (apOk r2.1.1 ([ev.1, t3]) 1) <|
    eventPut.l5 fu (fun outq2 => 
        some (outq2, (0 : Int), ())) fu (r2.1.1 ++ ([ev.1, t3])) ev.2.1 (ev.2.1.length : Int) (0 : Int))

noncomputable def eventPut.body : Code := Try.f20.body.getD .skip
abbrev eventPut.shl5 : Shp := ⟨[.u, .u, .u, .u, .u, .u, .d (.slice (.int .u8)), .u, .u, .u, .u, .u, .u, .u, .u, .u, .u, .u, .u, .u, .u, .u, .u, .d (.slice kS0), .d (.int .i64), .d (.int .i64), .u, .u, .u, .u, .u, .u, .u, .u, .u, .u, .u], []⟩
abbrev eventPut.outl5e2 : Shp := ⟨[.u, .u, .u, .u, .u, .u, .d (.slice (.int .u8)), .u, .u, .u, .u, .u, .u, .u, .u, .u, .u, .u, .u, .u, .u, .u, .u, .u, .u, .u, .u, .u, .u, .u, .u, .u, .u, .u, .u, .u, .u], []⟩
noncomputable def eventPut.nml5 : Norm := ⟨{ keep := [6, 23, 24, 25], shut := [(6, (.slice (.int .u8))), (23, (.slice kS0)), (24, (.int .i64)), (25, (.int .i64))], retag := [], heap := 0, dead := [], cshut := [], cretag := [] }, [(2, { keep := [6], shut := [(6, (.slice (.int .u8)))], retag := [], heap := 0, dead := [], cshut := [], cretag := [] })]⟩
noncomputable def eventPut.con : Con := { ps := [(.slice (.int .u8)), kS1], rs := [(.slice (.int .u8)), (.int .i64)], f := fun n x => eventPut n x.1 x.2.1 }
noncomputable def eventPut.env : Env := { tys := [(27, ⟨kS1, 32⟩), (38, ⟨(.slice (.int .u8)), 24⟩), (39, ⟨(.int .i64), 8⟩), (5, ⟨(.int .u8), 1⟩), (25, ⟨(.slice kS0), 24⟩), (34, ⟨kS0, 40⟩), (3, ⟨(.int .i64), 8⟩)], elems := [(25, 34), (38, 5)], ptrs := [], cons := [(22, eventMay.con), (55, valuePut.con)], objs := [(54, [slicesClone.con])], loops := [(5, eventPut.nml5)], cuts := [], globs := globs, base := 0 }
noncomputable def eventPut.lp (n : Nat) : LP (Kd.struct eventPut.con.rs).T := fun lo κ body nm K s =>
  cond (lo && Nat.beq κ 5)
    (match eventPut.shl5.dec s with
    | some v => eventPut.l5 n (fun w0 => K (.exit 0) (eventPut.outl5e2.enc (w0, ()))) n v.1 v.2.1 v.2.2.1 v.2.2.2.1
    | none => loops n (Kd.struct eventPut.con.rs).T lo κ body nm K s)
    (loops n (Kd.struct eventPut.con.rs).T lo κ body nm K s)
theorem eventPut.atl5 (n : Nat) (s : St) (K : Ex → St → Option (Kd.struct eventPut.con.rs).T) : eventPut.lp n true 5 (evK eventPut.env (eventPut.lp n) n (sub [1, 1, 1, 0, 1, 0, 0] eventPut.body)) eventPut.nml5 K s = loops n (Kd.struct eventPut.con.rs).T true 5 (evK eventPut.env (eventPut.lp n) n (sub [1, 1, 1, 0, 1, 0, 0] eventPut.body)) eventPut.nml5 K s := by
  show (match eventPut.shl5.dec s with | some v => eventPut.l5 n (fun w0 => K (.exit 0) (eventPut.outl5e2.enc (w0, ()))) n v.1 v.2.1 v.2.2.1 v.2.2.2.1 | none => loops n (Kd.struct eventPut.con.rs).T true 5 (evK eventPut.env (eventPut.lp n) n (sub [1, 1, 1, 0, 1, 0, 0] eventPut.body)) eventPut.nml5 K s) = _
  cases h : eventPut.shl5.dec s with
  | none => rfl
  | some v =>
    rw [Shp.dec_enc h]
    exact (evLoop_eq (sh := eventPut.shl5) (body := evK eventPut.env (eventPut.lp n) n (sub [1, 1, 1, 0, 1, 0, 0] eventPut.body)) (nm := eventPut.nml5) (K := K) (b := fun nx v => eventPut.b5 n (fun x0 x1 x2 x3 => nx (x0, x1, x2, x3, ())) (fun w0 => K (.exit 0) (eventPut.outl5e2.enc (w0, ()))) v.1 v.2.1 v.2.2.1 v.2.2.2.1) (l := fun m v => eventPut.l5 n (fun w0 => K (.exit 0) (eventPut.outl5e2.enc (w0, ()))) m v.1 v.2.1 v.2.2.1 v.2.2.2.1) (fun _ => rfl) (fun _ _ => rfl) (fun m v => by kernel_rfl) n v).symm
theorem eventPut.eq (n : Nat) (x : (Kd.struct eventPut.con.ps).T) : evFunc eventPut.env Try.f20 eventPut.body eventPut.con.ps eventPut.con.rs (eventPut.lp n) n x = eventPut.con.f n x := by kernel_rfl
theorem eventPut.sound : Sound Try.prog globs 20 eventPut.con :=
  sound_by (E := eventPut.env) (c := eventPut.body) (envOk (G := globs) (lc := [(22, eventMay.con), (55, valuePut.con)]) (lo := [(54, [slicesClone.con])]) (envB_spec (by kernel_rfl)) rfl rfl ⟨.inl ⟨eventMay.sound, by kernel_rfl⟩, ⟨.inl ⟨valuePut.sound, by kernel_rfl⟩, trivial⟩⟩ rfl ⟨⟨⟨slicesClone.sound, trivial⟩, by kernel_rfl⟩, trivial⟩ (by kernel_rfl) (by kernel_rfl)) Try.func20 (by kernel_rfl) eventPut.lp (l := [(true, sub [1, 1, 1, 0, 1, 0, 0] eventPut.body, eventPut.nml5)]) (by kernel_rfl) (fun n => ⟨eventPut.atl5 n, trivial⟩) eventPut.eq
noncomputable def law05Fixed (fu : Nat) : Option (Bool × Unit) :=
  (eventPut fu [] ((3 : Int), [], ())).bind fun r1 =>
  let t2 := r1.1 == ([3, 0] : List Int)
  cond t2 (
    some (r1.2.1 == (0 : Int), ())) (
    some (false, ()))

noncomputable def law05Fixed.body : Code := Try.f13.body.getD .skip
noncomputable def law05Fixed.con : Con := { ps := [], rs := [.bool], f := fun n x => law05Fixed n }
noncomputable def law05Fixed.env : Env := { tys := [(4, ⟨.bool, 1⟩), (27, ⟨kS1, 32⟩), (9, ⟨.str, 16⟩), (38, ⟨(.slice (.int .u8)), 24⟩), (5, ⟨(.int .u8), 1⟩)], elems := [(38, 5)], ptrs := [], cons := [(20, eventPut.con)], objs := [], loops := [], cuts := [], globs := globs, base := 0 }
noncomputable def law05Fixed.lp (n : Nat) : LP (Kd.struct law05Fixed.con.rs).T := fun lo κ body nm K s =>
  loops n (Kd.struct law05Fixed.con.rs).T lo κ body nm K s
theorem law05Fixed.eq (n : Nat) (x : (Kd.struct law05Fixed.con.ps).T) : evFunc law05Fixed.env Try.f13 law05Fixed.body law05Fixed.con.ps law05Fixed.con.rs (law05Fixed.lp n) n x = law05Fixed.con.f n x := by kernel_rfl
theorem law05Fixed.sound : Sound Try.prog globs 13 law05Fixed.con :=
  sound_by (E := law05Fixed.env) (c := law05Fixed.body) (envOk (G := globs) (lc := [(20, eventPut.con)]) (lo := []) (envB_spec (by kernel_rfl)) rfl rfl ⟨.inl ⟨eventPut.sound, by kernel_rfl⟩, trivial⟩ rfl trivial (by kernel_rfl) (by kernel_rfl)) Try.func13 (by kernel_rfl) law05Fixed.lp (l := []) (by kernel_rfl) (fun n => trivial) law05Fixed.eq
noncomputable def packGet.j50013 (fu : Nat) (k1 : Int → Int → Int → Option (Int × Int × Int × Unit)) (atv : Int) (n : Int) (i : Int) (v : Bool) : Option (Int × Int × Int × Unit) :=
  cond v (
    k1 (0 : Int) (0 : Int) (2 : Int)) (
    let t1 := IntKind.i64.wrap (atv + i)
    let t2 := IntKind.i64.wrap (t1 + (1 : Int))
    k1 n t2 (0 : Int))
noncomputable def packGet.j9 (fu : Nat) (k0 : Int → Int → (List Int) → Int → Int → Option (Int × Int × Int × Unit)) (k1 : Int → Int → Int → Option (Int × Int × Int × Unit)) (atv : Int) (n : Int) (i : Int) (c : Int) (v : List Int) (vx2 : Int) (vx3 : Int) : Option (Int × Int × Int × Unit) :=
  let t1 := IntKind.u64.wrap (bAnd .u8 c (127 : Int))
  let t2 := IntKind.i64.wrap ((7 : Int) * i)
  chk (!decide (t2 < 0)) <|
  let t3 := bOr .u64 n (sShl .u64 t1 t2)
  cond (decide (c ≥ (128 : Int))) (
    k0 atv t3 v vx2 vx3) (
    cond (c == (0 : Int)) (
      packGet.j50013 fu (fun vq5 vq5x2 vq5x3 => 
          k1 vq5 vq5x2 vq5x3) atv t3 i (decide (i > (0 : Int)))) (
      packGet.j50013 fu (fun vq6 vq6x2 vq6x3 => 
          k1 vq6 vq6x2 vq6x3) atv t3 i false))
noncomputable def packGet.b5 (fu : Nat) (next : Int → Int → (List Int) → Int → Int → Option (Int × Int × Int × Unit)) (k1 : Int → Int → Int → Option (Int × Int × Int × Unit)) (k2 : Unit → Option (Int × Int × Int × Unit)) (atv : Int) (n : Int) (v : List Int) (vx2 : Int) (vx3 : Int) : Option (Int × Int × Int × Unit) :=
  cond (decide (vx3 < vx2)) (
    chk (ixOk v vx3) <|
    let e1 := ixL (0 : Int) v vx3
    cond (vx3 == (9 : Int)) (
      cond (decide (e1 > (1 : Int))) (
        k1 (0 : Int) (0 : Int) (4 : Int)) (
        packGet.j9 fu (fun atvq11 nq11 vq11 vq11x2 vq11x3 => 
            let t2 := IntKind.i64.wrap (vq11x3 + (1 : Int))
            next atvq11 nq11 vq11 vq11x2 t2) (fun vq12 vq12x2 vq12x3 => 
            k1 vq12 vq12x2 vq12x3) atv n vx3 e1 v vx2 vx3)) (
      packGet.j9 fu (fun atvq13 nq13 vq13 vq13x2 vq13x3 => 
          let t3 := IntKind.i64.wrap (vq13x3 + (1 : Int))
          next atvq13 nq13 vq13 vq13x2 t3) (fun vq14 vq14x2 vq14x3 => 
          k1 vq14 vq14x2 vq14x3) atv n vx3 e1 v vx2 vx3)) (
    k2 ())
noncomputable def packGet.l5 (fu : Nat) (k1 : Int → Int → Int → Option (Int × Int × Int × Unit)) (k2 : Unit → Option (Int × Int × Int × Unit)) : Nat → Int → Int → (List Int) → Int → Int → Option (Int × Int × Int × Unit)
  | 0, _, _, _, _, _ => none
  | m + 1, atv, n, v, vx2, vx3 => packGet.b5 fu (packGet.l5 fu k1 k2 m) k1 k2 atv n v vx2 vx3
noncomputable def packGet (fu : Nat) (b : List Int) (atv : Int) : Option (Int × Int × Int × Unit) :=
  cond (decide (atv < (0 : Int))) (
    some ((0 : Int), (0 : Int), (3 : Int), ())) (
    let t1 := decide (atv > (b.length : Int))
    cond t1 (
      some ((0 : Int), (0 : Int), (3 : Int), ())) (
      chk (cutOk b atv (b.length : Int)) <|
      let t2 := cutL b atv (b.length : Int)
      packGet.l5 fu (fun vq3 vq3x2 vq3x3 => 
          some (vq3, vq3x2, vq3x3, ())) (fun (_ : Unit) => 
          some ((0 : Int), (0 : Int), (3 : Int), ())) fu atv (0 : Int) t2 (t2.length : Int) (0 : Int)))

noncomputable def packGet.body : Code := Try.f87.body.getD .skip
abbrev packGet.shj50013 : Shp := ⟨[.u, .d (.int .i64), .u, .u, .u, .u, .u, .d (.int .u64), .d (.int .i64), .u, .u, .u, .u, .u, .u, .u, .u, .u, .u, .u, .u, .u, .u, .u, .u, .u, .u, .u, .u, .u, .u, .u, .u, .u, .u, .u, .u, .u, .u, .u, .u, .u, .u, .u, .u, .u, .u, .u, .u, .d .bool, .u, .u, .u, .u, .u, .u, .u], []⟩
abbrev packGet.outj50013e1 : Shp := ⟨[.u, .u, .u, .u, .d (.int .u64), .d (.int .i64), .d (.int .i64), .u, .u, .u, .u, .u, .u, .u, .u, .u, .u, .u, .u, .u, .u, .u, .u, .u, .u, .u, .u, .u, .u, .u, .u, .u, .u, .u, .u, .u, .u, .u, .u, .u, .u, .u, .u, .u, .u, .u, .u, .u, .u, .u, .u, .u, .u, .u, .u, .u, .u], []⟩
noncomputable def packGet.nmj50013 : Norm := ⟨{ keep := [1, 7, 8, 49], shut := [(1, (.int .i64)), (7, (.int .u64)), (8, (.int .i64)), (49, .bool)], retag := [], heap := 0, dead := [], cshut := [], cretag := [] }, [(1, { keep := [4, 5, 6], shut := [(4, (.int .u64)), (5, (.int .i64)), (6, (.int .i64))], retag := [], heap := 0, dead := [], cshut := [], cretag := [] })]⟩
abbrev packGet.shj9 : Shp := ⟨[.u, .d (.int .i64), .u, .u, .u, .u, .u, .d (.int .u64), .d (.int .i64), .d (.int .u8), .u, .u, .u, .u, .u, .u, .u, .u, .u, .u, .d (.slice (.int .u8)), .d (.int .i64), .d (.int .i64), .u, .u, .u, .u, .u, .u, .u, .u, .u, .u, .u, .u, .u, .u, .u, .u, .u, .u, .u, .u, .u, .u, .u, .u, .u, .u, .u, .u, .u, .u, .u, .u, .u, .u], []⟩
abbrev packGet.outj9e0 : Shp := ⟨[.u, .d (.int .i64), .u, .u, .u, .u, .u, .d (.int .u64), .u, .u, .u, .u, .u, .u, .u, .u, .u, .u, .u, .u, .d (.slice (.int .u8)), .d (.int .i64), .d (.int .i64), .u, .u, .u, .u, .u, .u, .u, .u, .u, .u, .u, .u, .u, .u, .u, .u, .u, .u, .u, .u, .u, .u, .u, .u, .u, .u, .u, .u, .u, .u, .u, .u, .u, .u], []⟩
abbrev packGet.outj9e1 : Shp := ⟨[.u, .u, .u, .u, .d (.int .u64), .d (.int .i64), .d (.int .i64), .u, .u, .u, .u, .u, .u, .u, .u, .u, .u, .u, .u, .u, .u, .u, .u, .u, .u, .u, .u, .u, .u, .u, .u, .u, .u, .u, .u, .u, .u, .u, .u, .u, .u, .u, .u, .u, .u, .u, .u, .u, .u, .u, .u, .u, .u, .u, .u, .u, .u], []⟩
noncomputable def packGet.nmj9 : Norm := ⟨{ keep := [1, 7, 8, 9, 20, 21, 22], shut := [(1, (.int .i64)), (7, (.int .u64)), (8, (.int .i64)), (9, (.int .u8)), (20, (.slice (.int .u8))), (21, (.int .i64)), (22, (.int .i64))], retag := [], heap := 0, dead := [], cshut := [], cretag := [] }, [(0, { keep := [1, 7, 20, 21, 22], shut := [(1, (.int .i64)), (7, (.int .u64)), (20, (.slice (.int .u8))), (21, (.int .i64)), (22, (.int .i64))], retag := [], heap := 0, dead := [], cshut := [], cretag := [] }), (1, { keep := [4, 5, 6], shut := [(4, (.int .u64)), (5, (.int .i64)), (6, (.int .i64))], retag := [], heap := 0, dead := [], cshut := [], cretag := [] })]⟩
abbrev packGet.shl5 : Shp := ⟨[.u, .d (.int .i64), .u, .u, .u, .u, .u, .d (.int .u64), .u, .u, .u, .u, .u, .u, .u, .u, .u, .u, .u, .u, .d (.slice (.int .u8)), .d (.int .i64), .d (.int .i64), .u, .u, .u, .u, .u, .u, .u, .u, .u, .u, .u, .u, .u, .u, .u, .u, .u, .u, .u, .u, .u, .u, .u, .u, .u, .u, .u, .u, .u, .u, .u, .u, .u, .u], []⟩
abbrev packGet.outl5e1 : Shp := ⟨[.u, .u, .u, .u, .d (.int .u64), .d (.int .i64), .d (.int .i64), .u, .u, .u, .u, .u, .u, .u, .u, .u, .u, .u, .u, .u, .u, .u, .u, .u, .u, .u, .u, .u, .u, .u, .u, .u, .u, .u, .u, .u, .u, .u, .u, .u, .u, .u, .u, .u, .u, .u, .u, .u, .u, .u, .u, .u, .u, .u, .u, .u, .u], []⟩
abbrev packGet.outl5e2 : Shp := ⟨[.u, .u, .u, .u, .u, .u, .u, .u, .u, .u, .u, .u, .u, .u, .u, .u, .u, .u, .u, .u, .u, .u, .u, .u, .u, .u, .u, .u, .u, .u, .u, .u, .u, .u, .u, .u, .u, .u, .u, .u, .u, .u, .u, .u, .u, .u, .u, .u, .u, .u, .u, .u, .u, .u, .u, .u, .u], []⟩
noncomputable def packGet.nml5 : Norm := ⟨{ keep := [1, 7, 20, 21, 22], shut := [(1, (.int .i64)), (7, (.int .u64)), (20, (.slice (.int .u8))), (21, (.int .i64)), (22, (.int .i64))], retag := [], heap := 0, dead := [], cshut := [], cretag := [] }, [(1, { keep := [4, 5, 6], shut := [(4, (.int .u64)), (5, (.int .i64)), (6, (.int .i64))], retag := [], heap := 0, dead := [], cshut := [], cretag := [] }), (2, { keep := [], shut := [], retag := [], heap := 0, dead := [], cshut := [], cretag := [] })]⟩
noncomputable def packGet.con : Con := { ps := [(.slice (.int .u8)), (.int .i64)], rs := [(.int .u64), (.int .i64), (.int .i64)], f := fun n x => packGet n x.1 x.2.1 }
noncomputable def packGet.env : Env := { tys := [(51, ⟨(.int .u64), 8⟩), (3, ⟨(.int .i64), 8⟩), (39, ⟨(.int .i64), 8⟩), (4, ⟨.bool, 1⟩), (5, ⟨(.int .u8), 1⟩)], elems := [(38, 5)], ptrs := [], cons := [], objs := [], loops := [(5, packGet.nml5)], cuts := [(50013, packGet.nmj50013), (9, packGet.nmj9)], globs := globs, base := 0 }
noncomputable def packGet.lp (n : Nat) : LP (Kd.struct packGet.con.rs).T := fun lo κ body nm K s =>
  cond (!lo && Nat.beq κ 50013)
    (match packGet.shj50013.dec s with
    | some v => packGet.j50013 n (fun w0 w1 w2 => K .ret (packGet.outj50013e1.enc (w0, w1, w2, ()))) v.1 v.2.1 v.2.2.1 v.2.2.2.1
    | none => loops n (Kd.struct packGet.con.rs).T lo κ body nm K s)
    (cond (!lo && Nat.beq κ 9)
    (match packGet.shj9.dec s with
    | some v => packGet.j9 n (fun w0 w1 w2 w3 w4 => K .normal (packGet.outj9e0.enc (w0, w1, w2, w3, w4, ()))) (fun w0 w1 w2 => K .ret (packGet.outj9e1.enc (w0, w1, w2, ()))) v.1 v.2.1 v.2.2.1 v.2.2.2.1 v.2.2.2.2.1 v.2.2.2.2.2.1 v.2.2.2.2.2.2.1
    | none => loops n (Kd.struct packGet.con.rs).T lo κ body nm K s)
    (cond (lo && Nat.beq κ 5)
    (match packGet.shl5.dec s with
    | some v => packGet.l5 n (fun w0 w1 w2 => K .ret (packGet.outl5e1.enc (w0, w1, w2, ()))) (fun _ => K (.exit 0) (packGet.outl5e2.enc (()))) n v.1 v.2.1 v.2.2.1 v.2.2.2.1 v.2.2.2.2.1
    | none => loops n (Kd.struct packGet.con.rs).T lo κ body nm K s)
    (loops n (Kd.struct packGet.con.rs).T lo κ body nm K s)))
theorem packGet.atj50013 (n : Nat) (s : St) (K : Ex → St → Option (Kd.struct packGet.con.rs).T) : packGet.lp n false 50013 (evK packGet.env (packGet.lp n) n (sub [1, 1, 1, 0, 1, 0, 0, 1, 1, 0, 0, 1, 1, 1, 0, 1, 1, 1] packGet.body)) packGet.nmj50013 K s = loops n (Kd.struct packGet.con.rs).T false 50013 (evK packGet.env (packGet.lp n) n (sub [1, 1, 1, 0, 1, 0, 0, 1, 1, 0, 0, 1, 1, 1, 0, 1, 1, 1] packGet.body)) packGet.nmj50013 K s := by
  show (match packGet.shj50013.dec s with | some v => packGet.j50013 n (fun w0 w1 w2 => K .ret (packGet.outj50013e1.enc (w0, w1, w2, ()))) v.1 v.2.1 v.2.2.1 v.2.2.2.1 | none => loops n (Kd.struct packGet.con.rs).T false 50013 (evK packGet.env (packGet.lp n) n (sub [1, 1, 1, 0, 1, 0, 0, 1, 1, 0, 0, 1, 1, 1, 0, 1, 1, 1] packGet.body)) packGet.nmj50013 K s) = _
  cases h : packGet.shj50013.dec s with
  | none => rfl
  | some v =>
    rw [Shp.dec_enc h]
    kernel_rfl
theorem packGet.atj9 (n : Nat) (s : St) (K : Ex → St → Option (Kd.struct packGet.con.rs).T) : packGet.lp n false 9 (evK packGet.env (packGet.lp n) n (sub [1, 1, 1, 0, 1, 0, 0, 1, 1, 0, 0, 1, 1] packGet.body)) packGet.nmj9 K s = loops n (Kd.struct packGet.con.rs).T false 9 (evK packGet.env (packGet.lp n) n (sub [1, 1, 1, 0, 1, 0, 0, 1, 1, 0, 0, 1, 1] packGet.body)) packGet.nmj9 K s := by
  show (match packGet.shj9.dec s with | some v => packGet.j9 n (fun w0 w1 w2 w3 w4 => K .normal (packGet.outj9e0.enc (w0, w1, w2, w3, w4, ()))) (fun w0 w1 w2 => K .ret (packGet.outj9e1.enc (w0, w1, w2, ()))) v.1 v.2.1 v.2.2.1 v.2.2.2.1 v.2.2.2.2.1 v.2.2.2.2.2.1 v.2.2.2.2.2.2.1 | none => loops n (Kd.struct packGet.con.rs).T false 9 (evK packGet.env (packGet.lp n) n (sub [1, 1, 1, 0, 1, 0, 0, 1, 1, 0, 0, 1, 1] packGet.body)) packGet.nmj9 K s) = _
  cases h : packGet.shj9.dec s with
  | none => rfl
  | some v =>
    rw [Shp.dec_enc h]
    kernel_rfl
theorem packGet.atl5 (n : Nat) (s : St) (K : Ex → St → Option (Kd.struct packGet.con.rs).T) : packGet.lp n true 5 (evK packGet.env (packGet.lp n) n (sub [1, 1, 1, 0, 1, 0, 0] packGet.body)) packGet.nml5 K s = loops n (Kd.struct packGet.con.rs).T true 5 (evK packGet.env (packGet.lp n) n (sub [1, 1, 1, 0, 1, 0, 0] packGet.body)) packGet.nml5 K s := by
  show (match packGet.shl5.dec s with | some v => packGet.l5 n (fun w0 w1 w2 => K .ret (packGet.outl5e1.enc (w0, w1, w2, ()))) (fun _ => K (.exit 0) (packGet.outl5e2.enc (()))) n v.1 v.2.1 v.2.2.1 v.2.2.2.1 v.2.2.2.2.1 | none => loops n (Kd.struct packGet.con.rs).T true 5 (evK packGet.env (packGet.lp n) n (sub [1, 1, 1, 0, 1, 0, 0] packGet.body)) packGet.nml5 K s) = _
  cases h : packGet.shl5.dec s with
  | none => rfl
  | some v =>
    rw [Shp.dec_enc h]
    exact (evLoop_eq (sh := packGet.shl5) (body := evK packGet.env (packGet.lp n) n (sub [1, 1, 1, 0, 1, 0, 0] packGet.body)) (nm := packGet.nml5) (K := K) (b := fun nx v => packGet.b5 n (fun x0 x1 x2 x3 x4 => nx (x0, x1, x2, x3, x4, ())) (fun w0 w1 w2 => K .ret (packGet.outl5e1.enc (w0, w1, w2, ()))) (fun _ => K (.exit 0) (packGet.outl5e2.enc (()))) v.1 v.2.1 v.2.2.1 v.2.2.2.1 v.2.2.2.2.1) (l := fun m v => packGet.l5 n (fun w0 w1 w2 => K .ret (packGet.outl5e1.enc (w0, w1, w2, ()))) (fun _ => K (.exit 0) (packGet.outl5e2.enc (()))) m v.1 v.2.1 v.2.2.1 v.2.2.2.1 v.2.2.2.2.1) (fun _ => rfl) (fun _ _ => rfl) (fun m v => by kernel_rfl) n v).symm
theorem packGet.eq (n : Nat) (x : (Kd.struct packGet.con.ps).T) : evFunc packGet.env Try.f87 packGet.body packGet.con.ps packGet.con.rs (packGet.lp n) n x = packGet.con.f n x := by kernel_rfl
theorem packGet.sound : Sound Try.prog globs 87 packGet.con :=
  sound_by (E := packGet.env) (c := packGet.body) (envOk (G := globs) (lc := []) (lo := []) (envB_spec (by kernel_rfl)) rfl rfl trivial rfl trivial (by kernel_rfl) (by kernel_rfl)) Try.func87 (by kernel_rfl) packGet.lp (l := [(false, sub [1, 1, 1, 0, 1, 0, 0, 1, 1, 0, 0, 1, 1, 1, 0, 1, 1, 1] packGet.body, packGet.nmj50013), (false, sub [1, 1, 1, 0, 1, 0, 0, 1, 1, 0, 0, 1, 1] packGet.body, packGet.nmj9), (true, sub [1, 1, 1, 0, 1, 0, 0] packGet.body, packGet.nml5)]) (by kernel_rfl) (fun n => ⟨packGet.atj50013 n, ⟨packGet.atj9 n, ⟨packGet.atl5 n, trivial⟩⟩⟩) packGet.eq
noncomputable def packGetInt (fu : Nat) (b : List Int) (atv : Int) : Option (Int × Int × Int × Unit) :=
  (packGet fu b atv).bind fun r1 =>
  let t2 := IntKind.i64.wrap (sShr .u64 r1.1 (1 : Int))
  let t3 := IntKind.i64.wrap (bAnd .u64 r1.1 (1 : Int))
  let t4 := IntKind.i64.wrap (0 - t3)
  some (bXor .i64 t2 t4, r1.2.1, r1.2.2.1, ())

noncomputable def packGetInt.body : Code := Try.f96.body.getD .skip
noncomputable def packGetInt.con : Con := { ps := [(.slice (.int .u8)), (.int .i64)], rs := [(.int .i64), (.int .i64), (.int .i64)], f := fun n x => packGetInt n x.1 x.2.1 }
noncomputable def packGetInt.env : Env := { tys := [(2, ⟨(.int .i64), 8⟩), (3, ⟨(.int .i64), 8⟩), (39, ⟨(.int .i64), 8⟩), (51, ⟨(.int .u64), 8⟩)], elems := [], ptrs := [], cons := [(87, packGet.con)], objs := [], loops := [], cuts := [], globs := globs, base := 0 }
noncomputable def packGetInt.lp (n : Nat) : LP (Kd.struct packGetInt.con.rs).T := fun lo κ body nm K s =>
  loops n (Kd.struct packGetInt.con.rs).T lo κ body nm K s
theorem packGetInt.eq (n : Nat) (x : (Kd.struct packGetInt.con.ps).T) : evFunc packGetInt.env Try.f96 packGetInt.body packGetInt.con.ps packGetInt.con.rs (packGetInt.lp n) n x = packGetInt.con.f n x := by kernel_rfl
theorem packGetInt.sound : Sound Try.prog globs 96 packGetInt.con :=
  sound_by (E := packGetInt.env) (c := packGetInt.body) (envOk (G := globs) (lc := [(87, packGet.con)]) (lo := []) (envB_spec (by kernel_rfl)) rfl rfl ⟨.inl ⟨packGet.sound, by kernel_rfl⟩, trivial⟩ rfl trivial (by kernel_rfl) (by kernel_rfl)) Try.func96 (by kernel_rfl) packGetInt.lp (l := []) (by kernel_rfl) (fun n => trivial) packGetInt.eq
noncomputable def realFrom (fu : Nat) (bits : Int) : Option (Nat × Bool × Unit) :=
  (extFrom.f fu (bits, ())).bind fun r1 =>
  (realBits fu r1.1).bind fun r2 =>
  cond (r2.1 != bits) (
    some ((0 : Nat), false, ())) (
    some (r1.1, true, ()))

noncomputable def realFrom.body : Code := Try.f128.body.getD .skip
noncomputable def realFrom.con : Con := { ps := [(.int .u64)], rs := [.flt, .bool], f := fun n x => realFrom n x.1 }
noncomputable def realFrom.env : Env := { tys := [(32, ⟨.flt, 8⟩), (4, ⟨.bool, 1⟩)], elems := [], ptrs := [], cons := [(90, extFrom), (127, realBits.con)], objs := [], loops := [], cuts := [], globs := globs, base := 0 }
noncomputable def realFrom.lp (n : Nat) : LP (Kd.struct realFrom.con.rs).T := fun lo κ body nm K s =>
  loops n (Kd.struct realFrom.con.rs).T lo κ body nm K s
theorem realFrom.eq (n : Nat) (x : (Kd.struct realFrom.con.ps).T) : evFunc realFrom.env Try.f128 realFrom.body realFrom.con.ps realFrom.con.rs (realFrom.lp n) n x = realFrom.con.f n x := by kernel_rfl
theorem realFrom.sound : Sound Try.prog globs 128 realFrom.con :=
  sound_by (E := realFrom.env) (c := realFrom.body) (envOk (G := globs) (lc := [(90, extFrom), (127, realBits.con)]) (lo := []) (envB_spec (by kernel_rfl)) rfl rfl ⟨.inr (extFrom_ok Try.func90 (by kernel_rfl) (by kernel_rfl) (by kernel_rfl) (by kernel_rfl)), ⟨.inl ⟨realBits.sound, by kernel_rfl⟩, trivial⟩⟩ rfl trivial (by kernel_rfl) (by kernel_rfl)) Try.func128 (by kernel_rfl) realFrom.lp (l := []) (by kernel_rfl) (fun n => trivial) realFrom.eq
noncomputable def packGetReal.b5 (fu : Nat) (next : Int → Int → (List Int) → Int → Int → Option (Nat × Int × Int × Unit)) (k2 : Int → Int → Option (Nat × Int × Int × Unit)) (atv : Int) (n : Int) (v : List Int) (vx2 : Int) (vx3 : Int) : Option (Nat × Int × Int × Unit) :=
  cond (decide (vx3 < vx2)) (
    chk (ixOk v vx3) <|
    let e1 := ixL (0 : Int) v vx3
    let t2 := bOr .u64 (sShl .u64 n (8 : Int)) (IntKind.u64.wrap e1)
    let t3 := IntKind.i64.wrap (vx3 + (1 : Int))
    next atv t2 v vx2 t3) (
    k2 atv n)
noncomputable def packGetReal.l5 (fu : Nat) (k2 : Int → Int → Option (Nat × Int × Int × Unit)) : Nat → Int → Int → (List Int) → Int → Int → Option (Nat × Int × Int × Unit)
  | 0, _, _, _, _, _ => none
  | m + 1, atv, n, v, vx2, vx3 => packGetReal.b5 fu (packGetReal.l5 fu k2 m) k2 atv n v vx2 vx3
noncomputable def packGetReal (fu : Nat) (b : List Int) (atv : Int) : Option (Nat × Int × Int × Unit) :=
  cond (decide (atv < (0 : Int))) (
    some ((0 : Nat), (0 : Int), (3 : Int), ())) (
    let t1 := IntKind.i64.wrap ((b.length : Int) - (8 : Int))
    cond (decide (atv > t1)) (
      some ((0 : Nat), (0 : Int), (3 : Int), ())) (
      let t2 := IntKind.i64.wrap (atv + (8 : Int))
      chk (cutOk b atv t2) <|
      let t3 := ((cutL b atv t2).length : Int)
      packGetReal.l5 fu (fun atvq2 nq2 => 
          (realFrom fu nq2).bind fun r4 =>
          cond (!r4.2.1) (
            some ((0 : Nat), (0 : Int), (2 : Int), ())) (
            let t5 := IntKind.i64.wrap (atvq2 + (8 : Int))
            some (r4.1, t5, (0 : Int), ()))) fu atv (0 : Int) (cutL b atv t2) t3 (0 : Int)))

noncomputable def packGetReal.body : Code := Try.f97.body.getD .skip
abbrev packGetReal.shl5 : Shp := ⟨[.u, .d (.int .i64), .u, .u, .u, .u, .u, .d (.int .u64), .u, .u, .u, .u, .u, .u, .u, .u, .u, .u, .u, .u, .u, .u, .u, .u, .u, .d (.slice (.int .u8)), .d (.int .i64), .d (.int .i64), .u, .u, .u, .u, .u, .u, .u, .u, .u, .u, .u, .u, .u, .u, .u, .u, .u, .u, .u], []⟩
abbrev packGetReal.outl5e2 : Shp := ⟨[.u, .d (.int .i64), .u, .u, .u, .u, .u, .d (.int .u64), .u, .u, .u, .u, .u, .u, .u, .u, .u, .u, .u, .u, .u, .u, .u, .u, .u, .u, .u, .u, .u, .u, .u, .u, .u, .u, .u, .u, .u, .u, .u, .u, .u, .u, .u, .u, .u, .u, .u], []⟩
noncomputable def packGetReal.nml5 : Norm := ⟨{ keep := [1, 7, 25, 26, 27], shut := [(1, (.int .i64)), (7, (.int .u64)), (25, (.slice (.int .u8))), (26, (.int .i64)), (27, (.int .i64))], retag := [], heap := 0, dead := [], cshut := [], cretag := [] }, [(2, { keep := [1, 7], shut := [(1, (.int .i64)), (7, (.int .u64))], retag := [], heap := 0, dead := [], cshut := [], cretag := [] })]⟩
noncomputable def packGetReal.con : Con := { ps := [(.slice (.int .u8)), (.int .i64)], rs := [.flt, (.int .i64), (.int .i64)], f := fun n x => packGetReal n x.1 x.2.1 }
noncomputable def packGetReal.env : Env := { tys := [(32, ⟨.flt, 8⟩), (3, ⟨(.int .i64), 8⟩), (39, ⟨(.int .i64), 8⟩), (4, ⟨.bool, 1⟩), (5, ⟨(.int .u8), 1⟩), (51, ⟨(.int .u64), 8⟩)], elems := [(38, 5)], ptrs := [], cons := [(128, realFrom.con)], objs := [], loops := [(5, packGetReal.nml5)], cuts := [], globs := globs, base := 0 }
noncomputable def packGetReal.lp (n : Nat) : LP (Kd.struct packGetReal.con.rs).T := fun lo κ body nm K s =>
  cond (lo && Nat.beq κ 5)
    (match packGetReal.shl5.dec s with
    | some v => packGetReal.l5 n (fun w0 w1 => K (.exit 0) (packGetReal.outl5e2.enc (w0, w1, ()))) n v.1 v.2.1 v.2.2.1 v.2.2.2.1 v.2.2.2.2.1
    | none => loops n (Kd.struct packGetReal.con.rs).T lo κ body nm K s)
    (loops n (Kd.struct packGetReal.con.rs).T lo κ body nm K s)
theorem packGetReal.atl5 (n : Nat) (s : St) (K : Ex → St → Option (Kd.struct packGetReal.con.rs).T) : packGetReal.lp n true 5 (evK packGetReal.env (packGetReal.lp n) n (sub [1, 1, 1, 0, 1, 0, 0] packGetReal.body)) packGetReal.nml5 K s = loops n (Kd.struct packGetReal.con.rs).T true 5 (evK packGetReal.env (packGetReal.lp n) n (sub [1, 1, 1, 0, 1, 0, 0] packGetReal.body)) packGetReal.nml5 K s := by
  show (match packGetReal.shl5.dec s with | some v => packGetReal.l5 n (fun w0 w1 => K (.exit 0) (packGetReal.outl5e2.enc (w0, w1, ()))) n v.1 v.2.1 v.2.2.1 v.2.2.2.1 v.2.2.2.2.1 | none => loops n (Kd.struct packGetReal.con.rs).T true 5 (evK packGetReal.env (packGetReal.lp n) n (sub [1, 1, 1, 0, 1, 0, 0] packGetReal.body)) packGetReal.nml5 K s) = _
  cases h : packGetReal.shl5.dec s with
  | none => rfl
  | some v =>
    rw [Shp.dec_enc h]
    exact (evLoop_eq (sh := packGetReal.shl5) (body := evK packGetReal.env (packGetReal.lp n) n (sub [1, 1, 1, 0, 1, 0, 0] packGetReal.body)) (nm := packGetReal.nml5) (K := K) (b := fun nx v => packGetReal.b5 n (fun x0 x1 x2 x3 x4 => nx (x0, x1, x2, x3, x4, ())) (fun w0 w1 => K (.exit 0) (packGetReal.outl5e2.enc (w0, w1, ()))) v.1 v.2.1 v.2.2.1 v.2.2.2.1 v.2.2.2.2.1) (l := fun m v => packGetReal.l5 n (fun w0 w1 => K (.exit 0) (packGetReal.outl5e2.enc (w0, w1, ()))) m v.1 v.2.1 v.2.2.1 v.2.2.2.1 v.2.2.2.2.1) (fun _ => rfl) (fun _ _ => rfl) (fun m v => by kernel_rfl) n v).symm
theorem packGetReal.eq (n : Nat) (x : (Kd.struct packGetReal.con.ps).T) : evFunc packGetReal.env Try.f97 packGetReal.body packGetReal.con.ps packGetReal.con.rs (packGetReal.lp n) n x = packGetReal.con.f n x := by kernel_rfl
theorem packGetReal.sound : Sound Try.prog globs 97 packGetReal.con :=
  sound_by (E := packGetReal.env) (c := packGetReal.body) (envOk (G := globs) (lc := [(128, realFrom.con)]) (lo := []) (envB_spec (by kernel_rfl)) rfl rfl ⟨.inl ⟨realFrom.sound, by kernel_rfl⟩, trivial⟩ rfl trivial (by kernel_rfl) (by kernel_rfl)) Try.func97 (by kernel_rfl) packGetReal.lp (l := [(true, sub [1, 1, 1, 0, 1, 0, 0] packGetReal.body, packGetReal.nml5)]) (by kernel_rfl) (fun n => ⟨packGetReal.atl5 n, trivial⟩) packGetReal.eq
noncomputable def packGetText (fu : Nat) (b : List Int) (atv : Int) (most : Int) : Option ((List Int) × Int × Int × Unit) :=
  (packGet fu b atv).bind fun r1 =>
  cond (r1.2.2.1 != (0 : Int)) (
    some (([] : List Int), (0 : Int), r1.2.2.1, ())) (
    let t2 := IntKind.u64.wrap (max2 most (0 : Int))
    cond (decide (r1.1 > t2)) (
      some (([] : List Int), (0 : Int), (4 : Int), ())) (
      let t3 := IntKind.i64.wrap ((b.length : Int) - r1.2.1)
      let t4 := decide (r1.1 > IntKind.u64.wrap t3)
      cond t4 (
        some (([] : List Int), (0 : Int), (3 : Int), ())) (
        let t5 := IntKind.i64.wrap (r1.2.1 + IntKind.i64.wrap r1.1)
        chk (cutOk b r1.2.1 t5) <|
        let t6 := IntKind.i64.wrap (r1.2.1 + IntKind.i64.wrap r1.1)
        some (cutL b r1.2.1 t5, t6, (0 : Int), ()))))

noncomputable def packGetText.body : Code := Try.f98.body.getD .skip
noncomputable def packGetText.con : Con := { ps := [(.slice (.int .u8)), (.int .i64), (.int .i64)], rs := [.str, (.int .i64), (.int .i64)], f := fun n x => packGetText n x.1 x.2.1 x.2.2.1 }
noncomputable def packGetText.env : Env := { tys := [(9, ⟨.str, 16⟩), (3, ⟨(.int .i64), 8⟩), (39, ⟨(.int .i64), 8⟩), (51, ⟨(.int .u64), 8⟩), (5, ⟨(.int .u8), 1⟩), (38, ⟨(.slice (.int .u8)), 24⟩)], elems := [(38, 5)], ptrs := [], cons := [(87, packGet.con)], objs := [], loops := [], cuts := [], globs := globs, base := 0 }
noncomputable def packGetText.lp (n : Nat) : LP (Kd.struct packGetText.con.rs).T := fun lo κ body nm K s =>
  loops n (Kd.struct packGetText.con.rs).T lo κ body nm K s
theorem packGetText.eq (n : Nat) (x : (Kd.struct packGetText.con.ps).T) : evFunc packGetText.env Try.f98 packGetText.body packGetText.con.ps packGetText.con.rs (packGetText.lp n) n x = packGetText.con.f n x := by kernel_rfl
theorem packGetText.sound : Sound Try.prog globs 98 packGetText.con :=
  sound_by (E := packGetText.env) (c := packGetText.body) (envOk (G := globs) (lc := [(87, packGet.con)]) (lo := []) (envB_spec (by kernel_rfl)) rfl rfl ⟨.inl ⟨packGet.sound, by kernel_rfl⟩, trivial⟩ rfl trivial (by kernel_rfl) (by kernel_rfl)) Try.func98 (by kernel_rfl) packGetText.lp (l := []) (by kernel_rfl) (fun n => trivial) packGetText.eq
noncomputable def valueGet.j14 (fu : Nat) (k1 : Int → Int → S0 → Option (S0 × Int × Int × Unit)) (endv : Int) (ev : Int) (b0 : S0) (b1 : S0) : Option (S0 × Int × Int × Unit) :=
  cond (ev != (0 : Int)) (
    k1 (0 : Int) ev ((0 : Int), (0 : Int), (0 : Nat), [], ())) (
    k1 endv (0 : Int) b1)
noncomputable def valueGet (fu : Nat) (b : List Int) (atv : Int) : Option (S0 × Int × Int × Unit) :=
  cond (decide (atv < (0 : Int))) (
    some (((0 : Int), (0 : Int), (0 : Nat), [], ()), (0 : Int), (3 : Int), ())) (
    let t1 := decide (atv ≥ (b.length : Int))
    cond t1 (
      some (((0 : Int), (0 : Int), (0 : Nat), [], ()), (0 : Int), (3 : Int), ())) (
      chk (ixOk b atv) <|
      let e2 := ixL (0 : Int) b atv
      let t3 := IntKind.i64.wrap (atv + (1 : Int))
      cond (e2 == (0 : Int)) (
        valueGet.j14 fu (fun vq1 vq1x2 b0q1 => 
            some (b0q1, vq1, vq1x2, ())) t3 (0 : Int) ((0 : Int), (0 : Int), (0 : Nat), [], ()) (e2, (0 : Int), (0 : Nat), [], ())) (
        cond (e2 == (1 : Int)) (
          let t4 := IntKind.i64.wrap (atv + (1 : Int))
          (packGetInt fu b t4).bind fun r5 =>
          valueGet.j14 fu (fun vq2 vq2x2 b0q2 => 
              some (b0q2, vq2, vq2x2, ())) r5.2.1 r5.2.2.1 ((0 : Int), (0 : Int), (0 : Nat), [], ()) (e2, r5.1, (0 : Nat), [], ())) (
          cond (e2 == (2 : Int)) (
            let t6 := IntKind.i64.wrap (atv + (1 : Int))
            (packGetReal fu b t6).bind fun r7 =>
            valueGet.j14 fu (fun vq3 vq3x2 b0q3 => 
                some (b0q3, vq3, vq3x2, ())) r7.2.1 r7.2.2.1 ((0 : Int), (0 : Int), (0 : Nat), [], ()) (e2, (0 : Int), r7.1, [], ())) (
            cond (e2 == (3 : Int)) (
              let t8 := IntKind.i64.wrap (atv + (1 : Int))
              (packGetText fu b t8 (255 : Int)).bind fun r9 =>
              valueGet.j14 fu (fun vq4 vq4x2 b0q4 => 
                  some (b0q4, vq4, vq4x2, ())) r9.2.1 r9.2.2.1 ((0 : Int), (0 : Int), (0 : Nat), [], ()) (e2, (0 : Int), (0 : Nat), r9.1, ())) (
              valueGet.j14 fu (fun vq5 vq5x2 b0q5 => 
                  some (b0q5, vq5, vq5x2, ())) t3 (11 : Int) ((0 : Int), (0 : Int), (0 : Nat), [], ()) (e2, (0 : Int), (0 : Nat), [], ())))))))

noncomputable def valueGet.body : Code := Try.f52.body.getD .skip
abbrev valueGet.shj14 : Shp := ⟨[.u, .u, .u, .u, .p 0 0, .u, .u, .p 1 0, .d (.int .i64), .d (.int .i64), .u, .u, .u, .u, .u, .u, .u, .u, .u, .u, .u, .u, .u, .u, .u, .u, .u, .u, .u, .u, .u, .u, .u, .u, .u, .u, .u, .u, .u, .u, .u, .u, .u, .u, .u, .u, .u, .u, .u, .u, .u, .u, .u, .u, .u, .u, .u, .u, .u, .u, .u, .u, .u, .u, .u, .u, .u, .u, .u], [.c [.g kS0], .c [.g kS0]]⟩
abbrev valueGet.outj14e1 : Shp := ⟨[.u, .u, .u, .u, .p 0 0, .d (.int .i64), .d (.int .i64), .u, .u, .u, .u, .u, .u, .u, .u, .u, .u, .u, .u, .u, .u, .u, .u, .u, .u, .u, .u, .u, .u, .u, .u, .u, .u, .u, .u, .u, .u, .u, .u, .u, .u, .u, .u, .u, .u, .u, .u, .u, .u, .u, .u, .u, .u, .u, .u, .u, .u, .u, .u, .u, .u, .u, .u, .u, .u, .u, .u, .u, .u], [.c [.g kS0]]⟩
noncomputable def valueGet.nmj14 : Norm := ⟨{ keep := [4, 7, 8, 9], shut := [(8, (.int .i64)), (9, (.int .i64))], retag := [], heap := 2, dead := [], cshut := [(0, 0, (.int .u8)), (0, 1, (.int .i64)), (0, 2, .flt), (0, 3, .str), (1, 0, (.int .u8)), (1, 1, (.int .i64)), (1, 2, .flt), (1, 3, .str)], cretag := [] }, [(1, { keep := [4, 5, 6], shut := [(5, (.int .i64)), (6, (.int .i64))], retag := [], heap := 1, dead := [], cshut := [(0, 0, (.int .u8)), (0, 1, (.int .i64)), (0, 2, .flt), (0, 3, .str)], cretag := [] })]⟩
noncomputable def valueGet.con : Con := { ps := [(.slice (.int .u8)), (.int .i64)], rs := [kS0, (.int .i64), (.int .i64)], f := fun n x => valueGet n x.1 x.2.1 }
noncomputable def valueGet.env : Env := { tys := [(34, ⟨kS0, 40⟩), (3, ⟨(.int .i64), 8⟩), (39, ⟨(.int .i64), 8⟩), (4, ⟨.bool, 1⟩), (5, ⟨(.int .u8), 1⟩), (2, ⟨(.int .i64), 8⟩), (32, ⟨.flt, 8⟩), (9, ⟨.str, 16⟩)], elems := [(38, 5)], ptrs := [], cons := [(96, packGetInt.con), (97, packGetReal.con), (98, packGetText.con)], objs := [], loops := [], cuts := [(14, valueGet.nmj14)], globs := globs, base := 0 }
noncomputable def valueGet.lp (n : Nat) : LP (Kd.struct valueGet.con.rs).T := fun lo κ body nm K s =>
  cond (!lo && Nat.beq κ 14)
    (match valueGet.shj14.dec s with
    | some v => valueGet.j14 n (fun w0 w1 w2 => K .ret (valueGet.outj14e1.enc (w0, w1, w2, ()))) v.1 v.2.1 v.2.2.1 v.2.2.2.1
    | none => loops n (Kd.struct valueGet.con.rs).T lo κ body nm K s)
    (loops n (Kd.struct valueGet.con.rs).T lo κ body nm K s)
theorem valueGet.atj14 (n : Nat) (s : St) (K : Ex → St → Option (Kd.struct valueGet.con.rs).T) : valueGet.lp n false 14 (evK valueGet.env (valueGet.lp n) n (sub [1, 1, 1, 1, 1] valueGet.body)) valueGet.nmj14 K s = loops n (Kd.struct valueGet.con.rs).T false 14 (evK valueGet.env (valueGet.lp n) n (sub [1, 1, 1, 1, 1] valueGet.body)) valueGet.nmj14 K s := by
  show (match valueGet.shj14.dec s with | some v => valueGet.j14 n (fun w0 w1 w2 => K .ret (valueGet.outj14e1.enc (w0, w1, w2, ()))) v.1 v.2.1 v.2.2.1 v.2.2.2.1 | none => loops n (Kd.struct valueGet.con.rs).T false 14 (evK valueGet.env (valueGet.lp n) n (sub [1, 1, 1, 1, 1] valueGet.body)) valueGet.nmj14 K s) = _
  cases h : valueGet.shj14.dec s with
  | none => rfl
  | some v =>
    rw [Shp.dec_enc h]
    kernel_rfl
theorem valueGet.eq (n : Nat) (x : (Kd.struct valueGet.con.ps).T) : evFunc valueGet.env Try.f52 valueGet.body valueGet.con.ps valueGet.con.rs (valueGet.lp n) n x = valueGet.con.f n x := by kernel_rfl
theorem valueGet.sound : Sound Try.prog globs 52 valueGet.con :=
  sound_by (E := valueGet.env) (c := valueGet.body) (envOk (G := globs) (lc := [(96, packGetInt.con), (97, packGetReal.con), (98, packGetText.con)]) (lo := []) (envB_spec (by kernel_rfl)) rfl rfl ⟨.inl ⟨packGetInt.sound, by kernel_rfl⟩, ⟨.inl ⟨packGetReal.sound, by kernel_rfl⟩, ⟨.inl ⟨packGetText.sound, by kernel_rfl⟩, trivial⟩⟩⟩ rfl trivial (by kernel_rfl) (by kernel_rfl)) Try.func52 (by kernel_rfl) valueGet.lp (l := [(false, sub [1, 1, 1, 1, 1] valueGet.body, valueGet.nmj14)]) (by kernel_rfl) (fun n => ⟨valueGet.atj14 n, trivial⟩) valueGet.eq
noncomputable def eventGet.b9 (fu : Nat) (next : (List Int) → Int → Int → Int → Int → (List S0) → Int → (List S0) → Option (S1 × Int × Int × Unit)) (k1 : Int → Int → Int → (List S0) → Option (S1 × Int × Int × Unit)) (k2 : Int → Int → (List S0) → Int → (List S0) → Option (S1 × Int × Int × Unit)) (b : List Int) (atv : Int) (v : Int) (vx2 : Int) (c0 : Int) (c0x2 : List S0) (c1 : Int) (c1x2 : List S0) : Option (S1 × Int × Int × Unit) :=
  cond (decide (vx2 < v)) (
    (valueGet fu b atv).bind fun r1 =>
    cond (r1.2.2.1 != (0 : Int)) (
      k1 (0 : Int) r1.2.2.1 (0 : Int) []) (
      chk (apOk c1x2 ([r1.1]) 40) <|
      let t2 := IntKind.i64.wrap (vx2 + (1 : Int))
      next b r1.2.1 v t2 c0 c0x2 c1 (c1x2 ++ ([r1.1])))) (
    k2 atv c0 c0x2 c1 c1x2)
noncomputable def eventGet.l9 (fu : Nat) (k1 : Int → Int → Int → (List S0) → Option (S1 × Int × Int × Unit)) (k2 : Int → Int → (List S0) → Int → (List S0) → Option (S1 × Int × Int × Unit)) : Nat → (List Int) → Int → Int → Int → Int → (List S0) → Int → (List S0) → Option (S1 × Int × Int × Unit)
  | 0, _, _, _, _, _, _, _, _ => none
  | m + 1, b, atv, v, vx2, c0, c0x2, c1, c1x2 => eventGet.b9 fu (eventGet.l9 fu k1 k2 m) k1 k2 b atv v vx2 c0 c0x2 c1 c1x2
noncomputable def eventGet (fu : Nat) (b : List Int) (atv : Int) : Option (S1 × Int × Int × Unit) :=
  cond (decide (atv < (0 : Int))) (
    some (((0 : Int), [], ()), (0 : Int), (3 : Int), ())) (
    let t1 := IntKind.i64.wrap ((b.length : Int) - (2 : Int))
    cond (decide (atv > t1)) (
      some (((0 : Int), [], ()), (0 : Int), (3 : Int), ())) (
      chk (ixOk b atv) <|
      let e2 := ixL (0 : Int) b atv
      let t3 := IntKind.i64.wrap (atv + (1 : Int))
      chk (ixOk b t3) <|
      let e4 := ixL (0 : Int) b t3
      let t5 := decide (IntKind.i64.wrap e4 > (8 : Int))
      cond t5 (
        some (((0 : Int), [], ()), (0 : Int), (12 : Int), ())) (
        let t6 := IntKind.i64.wrap (atv + (2 : Int))
        eventGet.l9 fu (fun vq3 vq3x2 c0q3 c0q3x2 => 
            some ((c0q3, c0q3x2, ()), vq3, vq3x2, ())) (fun atvq4 c0q4 c0q4x2 c1q4 c1q4x2 => 
            some ((c1q4, c1q4x2, ()), atvq4, (0 : Int), ())) fu b t6 (IntKind.i64.wrap e4) (0 : Int) (0 : Int) [] e2 [])))

noncomputable def eventGet.body : Code := Try.f18.body.getD .skip
abbrev eventGet.shl9 : Shp := ⟨[.d (.slice (.int .u8)), .d (.int .i64), .u, .u, .p 0 0, .u, .u, .p 1 0, .u, .u, .u, .u, .u, .u, .u, .u, .u, .u, .u, .u, .u, .u, .u, .u, .u, .u, .u, .u, .u, .u, .u, .u, .u, .u, .u, .u, .u, .u, .d (.int .i64), .d (.int .i64), .u, .u, .u, .u, .u, .u, .u, .u, .u, .u, .u, .u, .u, .u, .u, .u, .u, .u, .u, .u, .u, .u], [.c [.d (.int .u8), .o 1001 kS0], .c [.d (.int .u8), .o 1051 kS0]]⟩
abbrev eventGet.outl9e1 : Shp := ⟨[.u, .u, .u, .u, .p 0 0, .d (.int .i64), .d (.int .i64), .u, .u, .u, .u, .u, .u, .u, .u, .u, .u, .u, .u, .u, .u, .u, .u, .u, .u, .u, .u, .u, .u, .u, .u, .u, .u, .u, .u, .u, .u, .u, .u, .u, .u, .u, .u, .u, .u, .u, .u, .u, .u, .u, .u, .u, .u, .u, .u, .u, .u, .u, .u, .u, .u, .u], [.c [.d (.int .u8), .o 1001 kS0]]⟩
abbrev eventGet.outl9e2 : Shp := ⟨[.u, .d (.int .i64), .u, .u, .p 0 0, .u, .u, .p 1 0, .u, .u, .u, .u, .u, .u, .u, .u, .u, .u, .u, .u, .u, .u, .u, .u, .u, .u, .u, .u, .u, .u, .u, .u, .u, .u, .u, .u, .u, .u, .u, .u, .u, .u, .u, .u, .u, .u, .u, .u, .u, .u, .u, .u, .u, .u, .u, .u, .u, .u, .u, .u, .u, .u], [.c [.d (.int .u8), .o 1001 kS0], .c [.d (.int .u8), .o 1051 kS0]]⟩
noncomputable def eventGet.nml9 : Norm := ⟨{ keep := [0, 1, 4, 7, 38, 39], shut := [(0, (.slice (.int .u8))), (1, (.int .i64)), (38, (.int .i64)), (39, (.int .i64))], retag := [], heap := 2, dead := [], cshut := [(0, 0, (.int .u8)), (1, 0, (.int .u8))], cretag := [(0, 1, 1001, kS0), (1, 1, 1051, kS0)] }, [(1, { keep := [4, 5, 6], shut := [(5, (.int .i64)), (6, (.int .i64))], retag := [], heap := 1, dead := [], cshut := [(0, 0, (.int .u8))], cretag := [(0, 1, 1001, kS0)] }), (2, { keep := [1, 4, 7], shut := [(1, (.int .i64))], retag := [], heap := 2, dead := [], cshut := [(0, 0, (.int .u8)), (1, 0, (.int .u8))], cretag := [(0, 1, 1001, kS0), (1, 1, 1051, kS0)] })]⟩
noncomputable def eventGet.con : Con := { ps := [(.slice (.int .u8)), (.int .i64)], rs := [kS1, (.int .i64), (.int .i64)], f := fun n x => eventGet n x.1 x.2.1 }
noncomputable def eventGet.env : Env := { tys := [(27, ⟨kS1, 32⟩), (3, ⟨(.int .i64), 8⟩), (39, ⟨(.int .i64), 8⟩), (4, ⟨.bool, 1⟩), (5, ⟨(.int .u8), 1⟩), (34, ⟨kS0, 40⟩), (25, ⟨(.slice kS0), 24⟩)], elems := [(38, 5), (25, 34)], ptrs := [], cons := [(52, valueGet.con)], objs := [], loops := [(9, eventGet.nml9)], cuts := [], globs := globs, base := 0 }
noncomputable def eventGet.lp (n : Nat) : LP (Kd.struct eventGet.con.rs).T := fun lo κ body nm K s =>
  cond (lo && Nat.beq κ 9)
    (match eventGet.shl9.dec s with
    | some v => eventGet.l9 n (fun w0 w1 w2 w3 => K .ret (eventGet.outl9e1.enc (w0, w1, w2, w3, ()))) (fun w0 w1 w2 w3 w4 => K (.exit 0) (eventGet.outl9e2.enc (w0, w1, w2, w3, w4, ()))) n v.1 v.2.1 v.2.2.1 v.2.2.2.1 v.2.2.2.2.1 v.2.2.2.2.2.1 v.2.2.2.2.2.2.1 v.2.2.2.2.2.2.2.1
    | none => loops n (Kd.struct eventGet.con.rs).T lo κ body nm K s)
    (loops n (Kd.struct eventGet.con.rs).T lo κ body nm K s)
theorem eventGet.atl9 (n : Nat) (s : St) (K : Ex → St → Option (Kd.struct eventGet.con.rs).T) : eventGet.lp n true 9 (evK eventGet.env (eventGet.lp n) n (sub [1, 1, 1, 1, 1, 1, 0, 1, 0, 0] eventGet.body)) eventGet.nml9 K s = loops n (Kd.struct eventGet.con.rs).T true 9 (evK eventGet.env (eventGet.lp n) n (sub [1, 1, 1, 1, 1, 1, 0, 1, 0, 0] eventGet.body)) eventGet.nml9 K s := by
  show (match eventGet.shl9.dec s with | some v => eventGet.l9 n (fun w0 w1 w2 w3 => K .ret (eventGet.outl9e1.enc (w0, w1, w2, w3, ()))) (fun w0 w1 w2 w3 w4 => K (.exit 0) (eventGet.outl9e2.enc (w0, w1, w2, w3, w4, ()))) n v.1 v.2.1 v.2.2.1 v.2.2.2.1 v.2.2.2.2.1 v.2.2.2.2.2.1 v.2.2.2.2.2.2.1 v.2.2.2.2.2.2.2.1 | none => loops n (Kd.struct eventGet.con.rs).T true 9 (evK eventGet.env (eventGet.lp n) n (sub [1, 1, 1, 1, 1, 1, 0, 1, 0, 0] eventGet.body)) eventGet.nml9 K s) = _
  cases h : eventGet.shl9.dec s with
  | none => rfl
  | some v =>
    rw [Shp.dec_enc h]
    exact (evLoop_eq (sh := eventGet.shl9) (body := evK eventGet.env (eventGet.lp n) n (sub [1, 1, 1, 1, 1, 1, 0, 1, 0, 0] eventGet.body)) (nm := eventGet.nml9) (K := K) (b := fun nx v => eventGet.b9 n (fun x0 x1 x2 x3 x4 x5 x6 x7 => nx (x0, x1, x2, x3, x4, x5, x6, x7, ())) (fun w0 w1 w2 w3 => K .ret (eventGet.outl9e1.enc (w0, w1, w2, w3, ()))) (fun w0 w1 w2 w3 w4 => K (.exit 0) (eventGet.outl9e2.enc (w0, w1, w2, w3, w4, ()))) v.1 v.2.1 v.2.2.1 v.2.2.2.1 v.2.2.2.2.1 v.2.2.2.2.2.1 v.2.2.2.2.2.2.1 v.2.2.2.2.2.2.2.1) (l := fun m v => eventGet.l9 n (fun w0 w1 w2 w3 => K .ret (eventGet.outl9e1.enc (w0, w1, w2, w3, ()))) (fun w0 w1 w2 w3 w4 => K (.exit 0) (eventGet.outl9e2.enc (w0, w1, w2, w3, w4, ()))) m v.1 v.2.1 v.2.2.1 v.2.2.2.1 v.2.2.2.2.1 v.2.2.2.2.2.1 v.2.2.2.2.2.2.1 v.2.2.2.2.2.2.2.1) (fun _ => rfl) (fun _ _ => rfl) (fun m v => by kernel_rfl) n v).symm
theorem eventGet.eq (n : Nat) (x : (Kd.struct eventGet.con.ps).T) : evFunc eventGet.env Try.f18 eventGet.body eventGet.con.ps eventGet.con.rs (eventGet.lp n) n x = eventGet.con.f n x := by kernel_rfl
theorem eventGet.sound : Sound Try.prog globs 18 eventGet.con :=
  sound_by (E := eventGet.env) (c := eventGet.body) (envOk (G := globs) (lc := [(52, valueGet.con)]) (lo := []) (envB_spec (by kernel_rfl)) rfl rfl ⟨.inl ⟨valueGet.sound, by kernel_rfl⟩, trivial⟩ rfl trivial (by kernel_rfl) (by kernel_rfl)) Try.func18 (by kernel_rfl) eventGet.lp (l := [(true, sub [1, 1, 1, 1, 1, 1, 0, 1, 0, 0] eventGet.body, eventGet.nml9)]) (by kernel_rfl) (fun n => ⟨eventGet.atl9 n, trivial⟩) eventGet.eq
noncomputable def ref03Get.j11 (fu : Nat) (k0 : (List Int) → Int → Int → Int → Int → Option (Int × Int × Int × Unit)) (k1 : Int → Int → Int → Option (Int × Int × Int × Unit)) (b : List Int) (atv : Int) (n : Int) (times : Int) (i : Int) (c : Int) : Option (Int × Int × Int × Unit) :=
  let t1 := IntKind.u64.wrap (Int.tmod c (128 : Int))
  let t2 := IntKind.u64.wrap (t1 * times)
  let t3 := IntKind.u64.wrap (n + t2)
  let t4 := IntKind.i64.wrap (i + (1 : Int))
  cond (decide (c < (128 : Int))) (
    cond (c == (0 : Int)) (
      cond (decide (t4 > (1 : Int))) (
        k1 (0 : Int) (0 : Int) (2 : Int)) (
        let t5 := IntKind.i64.wrap (atv + t4)
        k1 t3 t5 (0 : Int))) (
      let t6 := IntKind.i64.wrap (atv + t4)
      k1 t3 t6 (0 : Int))) (
    let t7 := IntKind.u64.wrap (times * (128 : Int))
    k0 b atv t3 t7 t4)
noncomputable def ref03Get.b6 (fu : Nat) (next : (List Int) → Int → Int → Int → Int → Option (Int × Int × Int × Unit)) (k1 : Int → Int → Int → Option (Int × Int × Int × Unit)) (b : List Int) (atv : Int) (n : Int) (times : Int) (i : Int) : Option (Int × Int × Int × Unit) :=
  let t1 := IntKind.i64.wrap (atv + i)
  let t2 := decide (t1 ≥ (b.length : Int))
  cond t2 (
    k1 (0 : Int) (0 : Int) (3 : Int)) (
    let t3 := IntKind.i64.wrap (atv + i)
    chk (ixOk b t3) <|
    let e4 := ixL (0 : Int) b t3
    cond (i == (9 : Int)) (
      cond (decide (e4 > (1 : Int))) (
        k1 (0 : Int) (0 : Int) (4 : Int)) (
        ref03Get.j11 fu (fun bq2 atvq2 nq2 timesq2 iq2 => 
            next bq2 atvq2 nq2 timesq2 iq2) (fun vq3 vq3x2 vq3x3 => 
            k1 vq3 vq3x2 vq3x3) b atv n times i e4)) (
      ref03Get.j11 fu (fun bq4 atvq4 nq4 timesq4 iq4 => 
          next bq4 atvq4 nq4 timesq4 iq4) (fun vq5 vq5x2 vq5x3 => 
          k1 vq5 vq5x2 vq5x3) b atv n times i e4))
noncomputable def ref03Get.l6 (fu : Nat) (k1 : Int → Int → Int → Option (Int × Int × Int × Unit)) : Nat → (List Int) → Int → Int → Int → Int → Option (Int × Int × Int × Unit)
  | 0, _, _, _, _, _ => none
  | m + 1, b, atv, n, times, i => ref03Get.b6 fu (ref03Get.l6 fu k1 m) k1 b atv n times i
noncomputable def ref03Get (fu : Nat) (b : List Int) (atv : Int) : Option (Int × Int × Int × Unit) :=
  cond (decide (atv < (0 : Int))) (
    some ((0 : Int), (0 : Int), (3 : Int), ())) (
    let t1 := decide (atv > (b.length : Int))
    cond t1 (
      some ((0 : Int), (0 : Int), (3 : Int), ())) (
      ref03Get.l6 fu (fun vq1 vq1x2 vq1x3 => 
          some (vq1, vq1x2, vq1x3, ())) fu b atv (0 : Int) (1 : Int) (0 : Int)))

noncomputable def ref03Get.body : Code := Try.f64.body.getD .skip
abbrev ref03Get.shj11 : Shp := ⟨[.d (.slice (.int .u8)), .d (.int .i64), .u, .u, .u, .u, .u, .d (.int .u64), .d (.int .u64), .d (.int .i64), .d (.int .u8), .u, .u, .u, .u, .u, .u, .u, .u, .u, .u, .u, .u, .u, .u, .u, .u, .u, .u, .u, .u, .u, .u, .u, .u, .u, .u, .u, .u, .u, .u, .u, .u, .u, .u, .u, .u, .u, .u, .u, .u, .u, .u, .u, .u, .u, .u, .u, .u, .u], []⟩
abbrev ref03Get.outj11e0 : Shp := ⟨[.d (.slice (.int .u8)), .d (.int .i64), .u, .u, .u, .u, .u, .d (.int .u64), .d (.int .u64), .d (.int .i64), .u, .u, .u, .u, .u, .u, .u, .u, .u, .u, .u, .u, .u, .u, .u, .u, .u, .u, .u, .u, .u, .u, .u, .u, .u, .u, .u, .u, .u, .u, .u, .u, .u, .u, .u, .u, .u, .u, .u, .u, .u, .u, .u, .u, .u, .u, .u, .u, .u, .u], []⟩
abbrev ref03Get.outj11e1 : Shp := ⟨[.u, .u, .u, .u, .d (.int .u64), .d (.int .i64), .d (.int .i64), .u, .u, .u, .u, .u, .u, .u, .u, .u, .u, .u, .u, .u, .u, .u, .u, .u, .u, .u, .u, .u, .u, .u, .u, .u, .u, .u, .u, .u, .u, .u, .u, .u, .u, .u, .u, .u, .u, .u, .u, .u, .u, .u, .u, .u, .u, .u, .u, .u, .u, .u, .u, .u], []⟩
noncomputable def ref03Get.nmj11 : Norm := ⟨{ keep := [0, 1, 7, 8, 9, 10], shut := [(0, (.slice (.int .u8))), (1, (.int .i64)), (7, (.int .u64)), (8, (.int .u64)), (9, (.int .i64)), (10, (.int .u8))], retag := [], heap := 0, dead := [], cshut := [], cretag := [] }, [(0, { keep := [0, 1, 7, 8, 9], shut := [(0, (.slice (.int .u8))), (1, (.int .i64)), (7, (.int .u64)), (8, (.int .u64)), (9, (.int .i64))], retag := [], heap := 0, dead := [], cshut := [], cretag := [] }), (1, { keep := [4, 5, 6], shut := [(4, (.int .u64)), (5, (.int .i64)), (6, (.int .i64))], retag := [], heap := 0, dead := [], cshut := [], cretag := [] })]⟩
abbrev ref03Get.shl6 : Shp := ⟨[.d (.slice (.int .u8)), .d (.int .i64), .u, .u, .u, .u, .u, .d (.int .u64), .d (.int .u64), .d (.int .i64), .u, .u, .u, .u, .u, .u, .u, .u, .u, .u, .u, .u, .u, .u, .u, .u, .u, .u, .u, .u, .u, .u, .u, .u, .u, .u, .u, .u, .u, .u, .u, .u, .u, .u, .u, .u, .u, .u, .u, .u, .u, .u, .u, .u, .u, .u, .u, .u, .u, .u], []⟩
abbrev ref03Get.outl6e1 : Shp := ⟨[.u, .u, .u, .u, .d (.int .u64), .d (.int .i64), .d (.int .i64), .u, .u, .u, .u, .u, .u, .u, .u, .u, .u, .u, .u, .u, .u, .u, .u, .u, .u, .u, .u, .u, .u, .u, .u, .u, .u, .u, .u, .u, .u, .u, .u, .u, .u, .u, .u, .u, .u, .u, .u, .u, .u, .u, .u, .u, .u, .u, .u, .u, .u, .u, .u, .u], []⟩
noncomputable def ref03Get.nml6 : Norm := ⟨{ keep := [0, 1, 7, 8, 9], shut := [(0, (.slice (.int .u8))), (1, (.int .i64)), (7, (.int .u64)), (8, (.int .u64)), (9, (.int .i64))], retag := [], heap := 0, dead := [], cshut := [], cretag := [] }, [(1, { keep := [4, 5, 6], shut := [(4, (.int .u64)), (5, (.int .i64)), (6, (.int .i64))], retag := [], heap := 0, dead := [], cshut := [], cretag := [] })]⟩
noncomputable def ref03Get.con : Con := { ps := [(.slice (.int .u8)), (.int .i64)], rs := [(.int .u64), (.int .i64), (.int .i64)], f := fun n x => ref03Get n x.1 x.2.1 }
noncomputable def ref03Get.env : Env := { tys := [(51, ⟨(.int .u64), 8⟩), (3, ⟨(.int .i64), 8⟩), (4, ⟨.bool, 1⟩), (5, ⟨(.int .u8), 1⟩)], elems := [(38, 5)], ptrs := [], cons := [], objs := [], loops := [(6, ref03Get.nml6)], cuts := [(11, ref03Get.nmj11)], globs := globs, base := 0 }
noncomputable def ref03Get.lp (n : Nat) : LP (Kd.struct ref03Get.con.rs).T := fun lo κ body nm K s =>
  cond (!lo && Nat.beq κ 11)
    (match ref03Get.shj11.dec s with
    | some v => ref03Get.j11 n (fun w0 w1 w2 w3 w4 => K .normal (ref03Get.outj11e0.enc (w0, w1, w2, w3, w4, ()))) (fun w0 w1 w2 => K .ret (ref03Get.outj11e1.enc (w0, w1, w2, ()))) v.1 v.2.1 v.2.2.1 v.2.2.2.1 v.2.2.2.2.1 v.2.2.2.2.2.1
    | none => loops n (Kd.struct ref03Get.con.rs).T lo κ body nm K s)
    (cond (lo && Nat.beq κ 6)
    (match ref03Get.shl6.dec s with
    | some v => ref03Get.l6 n (fun w0 w1 w2 => K .ret (ref03Get.outl6e1.enc (w0, w1, w2, ()))) n v.1 v.2.1 v.2.2.1 v.2.2.2.1 v.2.2.2.2.1
    | none => loops n (Kd.struct ref03Get.con.rs).T lo κ body nm K s)
    (loops n (Kd.struct ref03Get.con.rs).T lo κ body nm K s))
theorem ref03Get.atj11 (n : Nat) (s : St) (K : Ex → St → Option (Kd.struct ref03Get.con.rs).T) : ref03Get.lp n false 11 (evK ref03Get.env (ref03Get.lp n) n (sub [1, 1, 1, 1, 1, 0, 0, 0, 1, 1, 1] ref03Get.body)) ref03Get.nmj11 K s = loops n (Kd.struct ref03Get.con.rs).T false 11 (evK ref03Get.env (ref03Get.lp n) n (sub [1, 1, 1, 1, 1, 0, 0, 0, 1, 1, 1] ref03Get.body)) ref03Get.nmj11 K s := by
  show (match ref03Get.shj11.dec s with | some v => ref03Get.j11 n (fun w0 w1 w2 w3 w4 => K .normal (ref03Get.outj11e0.enc (w0, w1, w2, w3, w4, ()))) (fun w0 w1 w2 => K .ret (ref03Get.outj11e1.enc (w0, w1, w2, ()))) v.1 v.2.1 v.2.2.1 v.2.2.2.1 v.2.2.2.2.1 v.2.2.2.2.2.1 | none => loops n (Kd.struct ref03Get.con.rs).T false 11 (evK ref03Get.env (ref03Get.lp n) n (sub [1, 1, 1, 1, 1, 0, 0, 0, 1, 1, 1] ref03Get.body)) ref03Get.nmj11 K s) = _
  cases h : ref03Get.shj11.dec s with
  | none => rfl
  | some v =>
    rw [Shp.dec_enc h]
    kernel_rfl
theorem ref03Get.atl6 (n : Nat) (s : St) (K : Ex → St → Option (Kd.struct ref03Get.con.rs).T) : ref03Get.lp n true 6 (evK ref03Get.env (ref03Get.lp n) n (sub [1, 1, 1, 1, 1, 0, 0] ref03Get.body)) ref03Get.nml6 K s = loops n (Kd.struct ref03Get.con.rs).T true 6 (evK ref03Get.env (ref03Get.lp n) n (sub [1, 1, 1, 1, 1, 0, 0] ref03Get.body)) ref03Get.nml6 K s := by
  show (match ref03Get.shl6.dec s with | some v => ref03Get.l6 n (fun w0 w1 w2 => K .ret (ref03Get.outl6e1.enc (w0, w1, w2, ()))) n v.1 v.2.1 v.2.2.1 v.2.2.2.1 v.2.2.2.2.1 | none => loops n (Kd.struct ref03Get.con.rs).T true 6 (evK ref03Get.env (ref03Get.lp n) n (sub [1, 1, 1, 1, 1, 0, 0] ref03Get.body)) ref03Get.nml6 K s) = _
  cases h : ref03Get.shl6.dec s with
  | none => rfl
  | some v =>
    rw [Shp.dec_enc h]
    exact (evLoop_eq (sh := ref03Get.shl6) (body := evK ref03Get.env (ref03Get.lp n) n (sub [1, 1, 1, 1, 1, 0, 0] ref03Get.body)) (nm := ref03Get.nml6) (K := K) (b := fun nx v => ref03Get.b6 n (fun x0 x1 x2 x3 x4 => nx (x0, x1, x2, x3, x4, ())) (fun w0 w1 w2 => K .ret (ref03Get.outl6e1.enc (w0, w1, w2, ()))) v.1 v.2.1 v.2.2.1 v.2.2.2.1 v.2.2.2.2.1) (l := fun m v => ref03Get.l6 n (fun w0 w1 w2 => K .ret (ref03Get.outl6e1.enc (w0, w1, w2, ()))) m v.1 v.2.1 v.2.2.1 v.2.2.2.1 v.2.2.2.2.1) (fun _ => rfl) (fun _ _ => rfl) (fun m v => by kernel_rfl) n v).symm
theorem ref03Get.eq (n : Nat) (x : (Kd.struct ref03Get.con.ps).T) : evFunc ref03Get.env Try.f64 ref03Get.body ref03Get.con.ps ref03Get.con.rs (ref03Get.lp n) n x = ref03Get.con.f n x := by kernel_rfl
theorem ref03Get.sound : Sound Try.prog globs 64 ref03Get.con :=
  sound_by (E := ref03Get.env) (c := ref03Get.body) (envOk (G := globs) (lc := []) (lo := []) (envB_spec (by kernel_rfl)) rfl rfl trivial rfl trivial (by kernel_rfl) (by kernel_rfl)) Try.func64 (by kernel_rfl) ref03Get.lp (l := [(false, sub [1, 1, 1, 1, 1, 0, 0, 0, 1, 1, 1] ref03Get.body, ref03Get.nmj11), (true, sub [1, 1, 1, 1, 1, 0, 0] ref03Get.body, ref03Get.nml6)]) (by kernel_rfl) (fun n => ⟨ref03Get.atj11 n, ⟨ref03Get.atl6 n, trivial⟩⟩) ref03Get.eq
noncomputable def ref03GetInt (fu : Nat) (b : List Int) (atv : Int) : Option (Int × Int × Int × Unit) :=
  (ref03Get fu b atv).bind fun r1 =>
  let t2 := Int.tmod r1.1 (2 : Int) == (0 : Int)
  cond t2 (
    let t3 := IntKind.u64.wrap (Int.tdiv r1.1 (2 : Int))
    some (IntKind.i64.wrap t3, r1.2.1, r1.2.2.1, ())) (
    let t4 := IntKind.u64.wrap (Int.tdiv r1.1 (2 : Int))
    let t5 := IntKind.i64.wrap (0 - IntKind.i64.wrap t4)
    let t6 := IntKind.i64.wrap (t5 - (1 : Int))
    some (t6, r1.2.1, r1.2.2.1, ()))

noncomputable def ref03GetInt.body : Code := Try.f99.body.getD .skip
noncomputable def ref03GetInt.con : Con := { ps := [(.slice (.int .u8)), (.int .i64)], rs := [(.int .i64), (.int .i64), (.int .i64)], f := fun n x => ref03GetInt n x.1 x.2.1 }
noncomputable def ref03GetInt.env : Env := { tys := [(2, ⟨(.int .i64), 8⟩), (3, ⟨(.int .i64), 8⟩), (51, ⟨(.int .u64), 8⟩)], elems := [], ptrs := [], cons := [(64, ref03Get.con)], objs := [], loops := [], cuts := [], globs := globs, base := 0 }
noncomputable def ref03GetInt.lp (n : Nat) : LP (Kd.struct ref03GetInt.con.rs).T := fun lo κ body nm K s =>
  loops n (Kd.struct ref03GetInt.con.rs).T lo κ body nm K s
theorem ref03GetInt.eq (n : Nat) (x : (Kd.struct ref03GetInt.con.ps).T) : evFunc ref03GetInt.env Try.f99 ref03GetInt.body ref03GetInt.con.ps ref03GetInt.con.rs (ref03GetInt.lp n) n x = ref03GetInt.con.f n x := by kernel_rfl
theorem ref03GetInt.sound : Sound Try.prog globs 99 ref03GetInt.con :=
  sound_by (E := ref03GetInt.env) (c := ref03GetInt.body) (envOk (G := globs) (lc := [(64, ref03Get.con)]) (lo := []) (envB_spec (by kernel_rfl)) rfl rfl ⟨.inl ⟨ref03Get.sound, by kernel_rfl⟩, trivial⟩ rfl trivial (by kernel_rfl) (by kernel_rfl)) Try.func99 (by kernel_rfl) ref03GetInt.lp (l := []) (by kernel_rfl) (fun n => trivial) ref03GetInt.eq
noncomputable def ref02OfBits (fu : Nat) (b : Int) : Option (S2 × Unit) :=
  let t1 := decide (b ≥ (9223372036854775808 : Int))
  let t2 := IntKind.u64.wrap (Int.tdiv b (4503599627370496 : Int))
  let t3 := IntKind.i64.wrap (Int.tmod t2 (2048 : Int))
  let t4 := Int.tmod b (4503599627370496 : Int)
  some ((t1, t3, t4, ()), ())

noncomputable def ref02OfBits.body : Code := Try.f91.body.getD .skip
noncomputable def ref02OfBits.con : Con := { ps := [(.int .u64)], rs := [kS2], f := fun n x => ref02OfBits n x.1 }
noncomputable def ref02OfBits.env : Env := { tys := [(99, ⟨kS2, 24⟩), (3, ⟨(.int .i64), 8⟩), (51, ⟨(.int .u64), 8⟩)], elems := [], ptrs := [], cons := [], objs := [], loops := [], cuts := [], globs := globs, base := 0 }
noncomputable def ref02OfBits.lp (n : Nat) : LP (Kd.struct ref02OfBits.con.rs).T := fun lo κ body nm K s =>
  loops n (Kd.struct ref02OfBits.con.rs).T lo κ body nm K s
theorem ref02OfBits.eq (n : Nat) (x : (Kd.struct ref02OfBits.con.ps).T) : evFunc ref02OfBits.env Try.f91 ref02OfBits.body ref02OfBits.con.ps ref02OfBits.con.rs (ref02OfBits.lp n) n x = ref02OfBits.con.f n x := by kernel_rfl
theorem ref02OfBits.sound : Sound Try.prog globs 91 ref02OfBits.con :=
  sound_by (E := ref02OfBits.env) (c := ref02OfBits.body) (envOk (G := globs) (lc := []) (lo := []) (envB_spec (by kernel_rfl)) rfl rfl trivial rfl trivial (by kernel_rfl) (by kernel_rfl)) Try.func91 (by kernel_rfl) ref02OfBits.lp (l := []) (by kernel_rfl) (fun n => trivial) ref02OfBits.eq
noncomputable def ref02PartsNaN (fu : Nat) (p : S2) : Option (Bool × Unit) :=
  cond (p.2.1 == (2047 : Int)) (
    some (p.2.2.1 != (0 : Int), ())) (
    some (false, ()))

noncomputable def ref02PartsNaN.body : Code := Try.f93.body.getD .skip
noncomputable def ref02PartsNaN.con : Con := { ps := [kS2], rs := [.bool], f := fun n x => ref02PartsNaN n x.1 }
noncomputable def ref02PartsNaN.env : Env := { tys := [(99, ⟨kS2, 24⟩), (4, ⟨.bool, 1⟩), (3, ⟨(.int .i64), 8⟩), (51, ⟨(.int .u64), 8⟩)], elems := [], ptrs := [], cons := [], objs := [], loops := [], cuts := [], globs := globs, base := 0 }
noncomputable def ref02PartsNaN.lp (n : Nat) : LP (Kd.struct ref02PartsNaN.con.rs).T := fun lo κ body nm K s =>
  loops n (Kd.struct ref02PartsNaN.con.rs).T lo κ body nm K s
theorem ref02PartsNaN.eq (n : Nat) (x : (Kd.struct ref02PartsNaN.con.ps).T) : evFunc ref02PartsNaN.env Try.f93 ref02PartsNaN.body ref02PartsNaN.con.ps ref02PartsNaN.con.rs (ref02PartsNaN.lp n) n x = ref02PartsNaN.con.f n x := by kernel_rfl
theorem ref02PartsNaN.sound : Sound Try.prog globs 93 ref02PartsNaN.con :=
  sound_by (E := ref02PartsNaN.env) (c := ref02PartsNaN.body) (envOk (G := globs) (lc := []) (lo := []) (envB_spec (by kernel_rfl)) rfl rfl trivial rfl trivial (by kernel_rfl) (by kernel_rfl)) Try.func93 (by kernel_rfl) ref02PartsNaN.lp (l := []) (by kernel_rfl) (fun n => trivial) ref02PartsNaN.eq
noncomputable def ref02PartsBits (fu : Nat) (p : S2) : Option (Int × Unit) :=
  (ref02PartsNaN fu p).bind fun r1 =>
  cond r1.1 (
    some ((9221120237041090560 : Int), ())) (
    let t2 := IntKind.u64.wrap (IntKind.u64.wrap p.2.1 * (4503599627370496 : Int))
    let t3 := IntKind.u64.wrap (t2 + p.2.2.1)
    cond p.1 (
      let t4 := IntKind.u64.wrap (t3 + (9223372036854775808 : Int))
      some (t4, ())) (
      some (t3, ())))

noncomputable def ref02PartsBits.body : Code := Try.f49.body.getD .skip
noncomputable def ref02PartsBits.con : Con := { ps := [kS2], rs := [(.int .u64)], f := fun n x => ref02PartsBits n x.1 }
noncomputable def ref02PartsBits.env : Env := { tys := [(99, ⟨kS2, 24⟩), (51, ⟨(.int .u64), 8⟩), (3, ⟨(.int .i64), 8⟩), (4, ⟨.bool, 1⟩)], elems := [], ptrs := [], cons := [(93, ref02PartsNaN.con)], objs := [], loops := [], cuts := [], globs := globs, base := 0 }
noncomputable def ref02PartsBits.lp (n : Nat) : LP (Kd.struct ref02PartsBits.con.rs).T := fun lo κ body nm K s =>
  loops n (Kd.struct ref02PartsBits.con.rs).T lo κ body nm K s
theorem ref02PartsBits.eq (n : Nat) (x : (Kd.struct ref02PartsBits.con.ps).T) : evFunc ref02PartsBits.env Try.f49 ref02PartsBits.body ref02PartsBits.con.ps ref02PartsBits.con.rs (ref02PartsBits.lp n) n x = ref02PartsBits.con.f n x := by kernel_rfl
theorem ref02PartsBits.sound : Sound Try.prog globs 49 ref02PartsBits.con :=
  sound_by (E := ref02PartsBits.env) (c := ref02PartsBits.body) (envOk (G := globs) (lc := [(93, ref02PartsNaN.con)]) (lo := []) (envB_spec (by kernel_rfl)) rfl rfl ⟨.inl ⟨ref02PartsNaN.sound, by kernel_rfl⟩, trivial⟩ rfl trivial (by kernel_rfl) (by kernel_rfl)) Try.func49 (by kernel_rfl) ref02PartsBits.lp (l := []) (by kernel_rfl) (fun n => trivial) ref02PartsBits.eq
noncomputable def ref03GetReal.b5 (fu : Nat) (next : (List Int) → Int → Int → Int → Option (Nat × Int × Int × Unit)) (k2 : Int → Int → Option (Nat × Int × Int × Unit)) (b : List Int) (atv : Int) (n : Int) (i : Int) : Option (Nat × Int × Int × Unit) :=
  cond (decide (i < (8 : Int))) (
    let t1 := IntKind.u64.wrap (n * (256 : Int))
    let t2 := IntKind.i64.wrap (atv + i)
    chk (ixOk b t2) <|
    let e3 := ixL (0 : Int) b t2
    let t4 := IntKind.u64.wrap (t1 + IntKind.u64.wrap e3)
    let t5 := IntKind.i64.wrap (i + (1 : Int))
    next b atv t4 t5) (
    k2 atv n)
noncomputable def ref03GetReal.l5 (fu : Nat) (k2 : Int → Int → Option (Nat × Int × Int × Unit)) : Nat → (List Int) → Int → Int → Int → Option (Nat × Int × Int × Unit)
  | 0, _, _, _, _ => none
  | m + 1, b, atv, n, i => ref03GetReal.b5 fu (ref03GetReal.l5 fu k2 m) k2 b atv n i
noncomputable def ref03GetReal (fu : Nat) (b : List Int) (atv : Int) : Option (Nat × Int × Int × Unit) :=
  cond (decide (atv < (0 : Int))) (
    some ((0 : Nat), (0 : Int), (3 : Int), ())) (
    let t1 := IntKind.i64.wrap ((b.length : Int) - (8 : Int))
    cond (decide (atv > t1)) (
      some ((0 : Nat), (0 : Int), (3 : Int), ())) (
      ref03GetReal.l5 fu (fun atvq2 nq2 => 
          (ref02OfBits fu nq2).bind fun r2 =>
          (ref02PartsBits fu r2.1).bind fun r3 =>
          cond (r3.1 != nq2) (
            some ((0 : Nat), (0 : Int), (2 : Int), ())) (
            (extFrom.f fu (nq2, ())).bind fun r4 =>
            let t5 := IntKind.i64.wrap (atvq2 + (8 : Int))
            some (r4.1, t5, (0 : Int), ()))) fu b atv (0 : Int) (0 : Int)))

noncomputable def ref03GetReal.body : Code := Try.f100.body.getD .skip
abbrev ref03GetReal.shl5 : Shp := ⟨[.d (.slice (.int .u8)), .d (.int .i64), .u, .u, .u, .u, .u, .d (.int .u64), .d (.int .i64), .u, .u, .u, .u, .u, .u, .u, .u, .u, .u, .u, .u, .u, .u, .u, .u, .u, .u, .u, .u, .u, .u, .u, .u, .u, .u, .u, .u, .u, .u, .u, .u], []⟩
abbrev ref03GetReal.outl5e2 : Shp := ⟨[.u, .d (.int .i64), .u, .u, .u, .u, .u, .d (.int .u64), .u, .u, .u, .u, .u, .u, .u, .u, .u, .u, .u, .u, .u, .u, .u, .u, .u, .u, .u, .u, .u, .u, .u, .u, .u, .u, .u, .u, .u, .u, .u, .u, .u], []⟩
noncomputable def ref03GetReal.nml5 : Norm := ⟨{ keep := [0, 1, 7, 8], shut := [(0, (.slice (.int .u8))), (1, (.int .i64)), (7, (.int .u64)), (8, (.int .i64))], retag := [], heap := 0, dead := [], cshut := [], cretag := [] }, [(2, { keep := [1, 7], shut := [(1, (.int .i64)), (7, (.int .u64))], retag := [], heap := 0, dead := [], cshut := [], cretag := [] })]⟩
noncomputable def ref03GetReal.con : Con := { ps := [(.slice (.int .u8)), (.int .i64)], rs := [.flt, (.int .i64), (.int .i64)], f := fun n x => ref03GetReal n x.1 x.2.1 }
noncomputable def ref03GetReal.env : Env := { tys := [(32, ⟨.flt, 8⟩), (3, ⟨(.int .i64), 8⟩), (4, ⟨.bool, 1⟩), (5, ⟨(.int .u8), 1⟩), (51, ⟨(.int .u64), 8⟩)], elems := [(38, 5)], ptrs := [], cons := [(91, ref02OfBits.con), (49, ref02PartsBits.con), (90, extFrom)], objs := [], loops := [(5, ref03GetReal.nml5)], cuts := [], globs := globs, base := 0 }
noncomputable def ref03GetReal.lp (n : Nat) : LP (Kd.struct ref03GetReal.con.rs).T := fun lo κ body nm K s =>
  cond (lo && Nat.beq κ 5)
    (match ref03GetReal.shl5.dec s with
    | some v => ref03GetReal.l5 n (fun w0 w1 => K (.exit 0) (ref03GetReal.outl5e2.enc (w0, w1, ()))) n v.1 v.2.1 v.2.2.1 v.2.2.2.1
    | none => loops n (Kd.struct ref03GetReal.con.rs).T lo κ body nm K s)
    (loops n (Kd.struct ref03GetReal.con.rs).T lo κ body nm K s)
theorem ref03GetReal.atl5 (n : Nat) (s : St) (K : Ex → St → Option (Kd.struct ref03GetReal.con.rs).T) : ref03GetReal.lp n true 5 (evK ref03GetReal.env (ref03GetReal.lp n) n (sub [1, 1, 1, 0, 1, 0, 0] ref03GetReal.body)) ref03GetReal.nml5 K s = loops n (Kd.struct ref03GetReal.con.rs).T true 5 (evK ref03GetReal.env (ref03GetReal.lp n) n (sub [1, 1, 1, 0, 1, 0, 0] ref03GetReal.body)) ref03GetReal.nml5 K s := by
  show (match ref03GetReal.shl5.dec s with | some v => ref03GetReal.l5 n (fun w0 w1 => K (.exit 0) (ref03GetReal.outl5e2.enc (w0, w1, ()))) n v.1 v.2.1 v.2.2.1 v.2.2.2.1 | none => loops n (Kd.struct ref03GetReal.con.rs).T true 5 (evK ref03GetReal.env (ref03GetReal.lp n) n (sub [1, 1, 1, 0, 1, 0, 0] ref03GetReal.body)) ref03GetReal.nml5 K s) = _
  cases h : ref03GetReal.shl5.dec s with
  | none => rfl
  | some v =>
    rw [Shp.dec_enc h]
    exact (evLoop_eq (sh := ref03GetReal.shl5) (body := evK ref03GetReal.env (ref03GetReal.lp n) n (sub [1, 1, 1, 0, 1, 0, 0] ref03GetReal.body)) (nm := ref03GetReal.nml5) (K := K) (b := fun nx v => ref03GetReal.b5 n (fun x0 x1 x2 x3 => nx (x0, x1, x2, x3, ())) (fun w0 w1 => K (.exit 0) (ref03GetReal.outl5e2.enc (w0, w1, ()))) v.1 v.2.1 v.2.2.1 v.2.2.2.1) (l := fun m v => ref03GetReal.l5 n (fun w0 w1 => K (.exit 0) (ref03GetReal.outl5e2.enc (w0, w1, ()))) m v.1 v.2.1 v.2.2.1 v.2.2.2.1) (fun _ => rfl) (fun _ _ => rfl) (fun m v => by kernel_rfl) n v).symm
theorem ref03GetReal.eq (n : Nat) (x : (Kd.struct ref03GetReal.con.ps).T) : evFunc ref03GetReal.env Try.f100 ref03GetReal.body ref03GetReal.con.ps ref03GetReal.con.rs (ref03GetReal.lp n) n x = ref03GetReal.con.f n x := by kernel_rfl
theorem ref03GetReal.sound : Sound Try.prog globs 100 ref03GetReal.con :=
  sound_by (E := ref03GetReal.env) (c := ref03GetReal.body) (envOk (G := globs) (lc := [(91, ref02OfBits.con), (49, ref02PartsBits.con), (90, extFrom)]) (lo := []) (envB_spec (by kernel_rfl)) rfl rfl ⟨.inl ⟨ref02OfBits.sound, by kernel_rfl⟩, ⟨.inl ⟨ref02PartsBits.sound, by kernel_rfl⟩, ⟨.inr (extFrom_ok Try.func90 (by kernel_rfl) (by kernel_rfl) (by kernel_rfl) (by kernel_rfl)), trivial⟩⟩⟩ rfl trivial (by kernel_rfl) (by kernel_rfl)) Try.func100 (by kernel_rfl) ref03GetReal.lp (l := [(true, sub [1, 1, 1, 0, 1, 0, 0] ref03GetReal.body, ref03GetReal.nml5)]) (by kernel_rfl) (fun n => ⟨ref03GetReal.atl5 n, trivial⟩) ref03GetReal.eq
noncomputable def ref03GetText.j6 (fu : Nat) (k1 : (List Int) → Int → Int → Option ((List Int) × Int × Int × Unit)) (b : List Int) (most : Int) (n : Int) (endv : Int) : Option ((List Int) × Int × Int × Unit) :=
  let t1 := decide (n > IntKind.u64.wrap most)
  cond t1 (
    k1 ([] : List Int) (0 : Int) (4 : Int)) (
    let t2 := IntKind.u64.wrap (b.length : Int)
    cond (decide (n > t2)) (
      k1 ([] : List Int) (0 : Int) (3 : Int)) (
      let t3 := IntKind.i64.wrap ((b.length : Int) - endv)
      let t4 := decide (IntKind.i64.wrap n > t3)
      cond t4 (
        k1 ([] : List Int) (0 : Int) (3 : Int)) (
        let t5 := IntKind.i64.wrap (endv + IntKind.i64.wrap n)
        chk (cutOk b endv t5) <|
        let t6 := IntKind.i64.wrap (endv + IntKind.i64.wrap n)
        k1 (cutL b endv t5) t6 (0 : Int))))
noncomputable def ref03GetText (fu : Nat) (b : List Int) (atv : Int) (most : Int) : Option ((List Int) × Int × Int × Unit) :=
  (ref03Get fu b atv).bind fun r1 =>
  cond (r1.2.2.1 != (0 : Int)) (
    some (([] : List Int), (0 : Int), r1.2.2.1, ())) (
    let t2 := decide (most < (0 : Int))
    cond t2 (
      ref03GetText.j6 fu (fun vq1 vq1x2 vq1x3 => 
          some (vq1, vq1x2, vq1x3, ())) b (0 : Int) r1.1 r1.2.1) (
      ref03GetText.j6 fu (fun vq2 vq2x2 vq2x3 => 
          some (vq2, vq2x2, vq2x3, ())) b most r1.1 r1.2.1))

noncomputable def ref03GetText.body : Code := Try.f101.body.getD .skip
abbrev ref03GetText.shj6 : Shp := ⟨[.d (.slice (.int .u8)), .u, .d (.int .i64), .u, .u, .u, .u, .u, .u, .d (.int .u64), .d (.int .i64), .u, .u, .u, .u, .u, .u, .u, .u, .u, .u, .u, .u, .u, .u, .u, .u, .u, .u, .u, .u, .u, .u, .u, .u, .u, .u, .u, .u, .u, .u, .u, .u, .u, .u, .u, .u, .u, .u, .u, .u, .u, .u, .u], []⟩
abbrev ref03GetText.outj6e1 : Shp := ⟨[.u, .u, .u, .u, .u, .u, .d .str, .d (.int .i64), .d (.int .i64), .u, .u, .u, .u, .u, .u, .u, .u, .u, .u, .u, .u, .u, .u, .u, .u, .u, .u, .u, .u, .u, .u, .u, .u, .u, .u, .u, .u, .u, .u, .u, .u, .u, .u, .u, .u, .u, .u, .u, .u, .u, .u, .u, .u, .u], []⟩
noncomputable def ref03GetText.nmj6 : Norm := ⟨{ keep := [0, 2, 9, 10], shut := [(0, (.slice (.int .u8))), (2, (.int .i64)), (9, (.int .u64)), (10, (.int .i64))], retag := [], heap := 0, dead := [], cshut := [], cretag := [] }, [(1, { keep := [6, 7, 8], shut := [(6, .str), (7, (.int .i64)), (8, (.int .i64))], retag := [], heap := 0, dead := [], cshut := [], cretag := [] })]⟩
noncomputable def ref03GetText.con : Con := { ps := [(.slice (.int .u8)), (.int .i64), (.int .i64)], rs := [.str, (.int .i64), (.int .i64)], f := fun n x => ref03GetText n x.1 x.2.1 x.2.2.1 }
noncomputable def ref03GetText.env : Env := { tys := [(9, ⟨.str, 16⟩), (3, ⟨(.int .i64), 8⟩), (51, ⟨(.int .u64), 8⟩), (5, ⟨(.int .u8), 1⟩), (4, ⟨.bool, 1⟩), (38, ⟨(.slice (.int .u8)), 24⟩)], elems := [(38, 5)], ptrs := [], cons := [(64, ref03Get.con)], objs := [], loops := [], cuts := [(6, ref03GetText.nmj6)], globs := globs, base := 0 }
noncomputable def ref03GetText.lp (n : Nat) : LP (Kd.struct ref03GetText.con.rs).T := fun lo κ body nm K s =>
  cond (!lo && Nat.beq κ 6)
    (match ref03GetText.shj6.dec s with
    | some v => ref03GetText.j6 n (fun w0 w1 w2 => K .ret (ref03GetText.outj6e1.enc (w0, w1, w2, ()))) v.1 v.2.1 v.2.2.1 v.2.2.2.1
    | none => loops n (Kd.struct ref03GetText.con.rs).T lo κ body nm K s)
    (loops n (Kd.struct ref03GetText.con.rs).T lo κ body nm K s)
theorem ref03GetText.atj6 (n : Nat) (s : St) (K : Ex → St → Option (Kd.struct ref03GetText.con.rs).T) : ref03GetText.lp n false 6 (evK ref03GetText.env (ref03GetText.lp n) n (sub [1, 1, 1, 1] ref03GetText.body)) ref03GetText.nmj6 K s = loops n (Kd.struct ref03GetText.con.rs).T false 6 (evK ref03GetText.env (ref03GetText.lp n) n (sub [1, 1, 1, 1] ref03GetText.body)) ref03GetText.nmj6 K s := by
  show (match ref03GetText.shj6.dec s with | some v => ref03GetText.j6 n (fun w0 w1 w2 => K .ret (ref03GetText.outj6e1.enc (w0, w1, w2, ()))) v.1 v.2.1 v.2.2.1 v.2.2.2.1 | none => loops n (Kd.struct ref03GetText.con.rs).T false 6 (evK ref03GetText.env (ref03GetText.lp n) n (sub [1, 1, 1, 1] ref03GetText.body)) ref03GetText.nmj6 K s) = _
  cases h : ref03GetText.shj6.dec s with
  | none => rfl
  | some v =>
    rw [Shp.dec_enc h]
    kernel_rfl
theorem ref03GetText.eq (n : Nat) (x : (Kd.struct ref03GetText.con.ps).T) : evFunc ref03GetText.env Try.f101 ref03GetText.body ref03GetText.con.ps ref03GetText.con.rs (ref03GetText.lp n) n x = ref03GetText.con.f n x := by kernel_rfl
theorem ref03GetText.sound : Sound Try.prog globs 101 ref03GetText.con :=
  sound_by (E := ref03GetText.env) (c := ref03GetText.body) (envOk (G := globs) (lc := [(64, ref03Get.con)]) (lo := []) (envB_spec (by kernel_rfl)) rfl rfl ⟨.inl ⟨ref03Get.sound, by kernel_rfl⟩, trivial⟩ rfl trivial (by kernel_rfl) (by kernel_rfl)) Try.func101 (by kernel_rfl) ref03GetText.lp (l := [(false, sub [1, 1, 1, 1] ref03GetText.body, ref03GetText.nmj6)]) (by kernel_rfl) (fun n => ⟨ref03GetText.atj6 n, trivial⟩) ref03GetText.eq
noncomputable def ref04Get (fu : Nat) (b : List Int) (atv : Int) : Option (S0 × Int × Int × Unit) :=
  cond (decide (atv < (0 : Int))) (
    some (((0 : Int), (0 : Int), (0 : Nat), [], ()), (0 : Int), (3 : Int), ())) (
    let t1 := decide (atv ≥ (b.length : Int))
    cond t1 (
      some (((0 : Int), (0 : Int), (0 : Nat), [], ()), (0 : Int), (3 : Int), ())) (
      chk (ixOk b atv) <|
      let e2 := ixL (0 : Int) b atv
      cond (e2 == (0 : Int)) (
        let t3 := IntKind.i64.wrap (atv + (1 : Int))
        some ((e2, (0 : Int), (0 : Nat), [], ()), t3, (0 : Int), ())) (
        cond (e2 == (1 : Int)) (
          let t4 := IntKind.i64.wrap (atv + (1 : Int))
          (ref03GetInt fu b t4).bind fun r5 =>
          cond (r5.2.2.1 != (0 : Int)) (
            some (((0 : Int), (0 : Int), (0 : Nat), [], ()), (0 : Int), r5.2.2.1, ())) (
            some ((e2, r5.1, (0 : Nat), [], ()), r5.2.1, (0 : Int), ()))) (
          cond (e2 == (2 : Int)) (
            let t6 := IntKind.i64.wrap (atv + (1 : Int))
            (ref03GetReal fu b t6).bind fun r7 =>
            cond (r7.2.2.1 != (0 : Int)) (
              some (((0 : Int), (0 : Int), (0 : Nat), [], ()), (0 : Int), r7.2.2.1, ())) (
              some ((e2, (0 : Int), r7.1, [], ()), r7.2.1, (0 : Int), ()))) (
            cond (e2 == (3 : Int)) (
              let t8 := IntKind.i64.wrap (atv + (1 : Int))
              (ref03GetText fu b t8 (255 : Int)).bind fun r9 =>
              cond (r9.2.2.1 != (0 : Int)) (
                some (((0 : Int), (0 : Int), (0 : Nat), [], ()), (0 : Int), r9.2.2.1, ())) (
                some ((e2, (0 : Int), (0 : Nat), r9.1, ()), r9.2.1, (0 : Int), ()))) (
              some (((0 : Int), (0 : Int), (0 : Nat), [], ()), (0 : Int), (11 : Int), ())))))))

noncomputable def ref04Get.body : Code := Try.f53.body.getD .skip
noncomputable def ref04Get.con : Con := { ps := [(.slice (.int .u8)), (.int .i64)], rs := [kS0, (.int .i64), (.int .i64)], f := fun n x => ref04Get n x.1 x.2.1 }
noncomputable def ref04Get.env : Env := { tys := [(34, ⟨kS0, 40⟩), (3, ⟨(.int .i64), 8⟩), (4, ⟨.bool, 1⟩), (5, ⟨(.int .u8), 1⟩), (2, ⟨(.int .i64), 8⟩), (32, ⟨.flt, 8⟩), (9, ⟨.str, 16⟩)], elems := [(38, 5)], ptrs := [], cons := [(99, ref03GetInt.con), (100, ref03GetReal.con), (101, ref03GetText.con)], objs := [], loops := [], cuts := [], globs := globs, base := 0 }
noncomputable def ref04Get.lp (n : Nat) : LP (Kd.struct ref04Get.con.rs).T := fun lo κ body nm K s =>
  loops n (Kd.struct ref04Get.con.rs).T lo κ body nm K s
theorem ref04Get.eq (n : Nat) (x : (Kd.struct ref04Get.con.ps).T) : evFunc ref04Get.env Try.f53 ref04Get.body ref04Get.con.ps ref04Get.con.rs (ref04Get.lp n) n x = ref04Get.con.f n x := by kernel_rfl
theorem ref04Get.sound : Sound Try.prog globs 53 ref04Get.con :=
  sound_by (E := ref04Get.env) (c := ref04Get.body) (envOk (G := globs) (lc := [(99, ref03GetInt.con), (100, ref03GetReal.con), (101, ref03GetText.con)]) (lo := []) (envB_spec (by kernel_rfl)) rfl rfl ⟨.inl ⟨ref03GetInt.sound, by kernel_rfl⟩, ⟨.inl ⟨ref03GetReal.sound, by kernel_rfl⟩, ⟨.inl ⟨ref03GetText.sound, by kernel_rfl⟩, trivial⟩⟩⟩ rfl trivial (by kernel_rfl) (by kernel_rfl)) Try.func53 (by kernel_rfl) ref04Get.lp (l := []) (by kernel_rfl) (fun n => trivial) ref04Get.eq
noncomputable def ref05Get.b10 (fu : Nat) (next : (List Int) → Int → Int → Int → Int → (List S0) → Int → (List S0) → Int → (List S0) → Option (S1 × Int × Int × Unit)) (k1 : Int → Int → Int → (List S0) → Option (S1 × Int × Int × Unit)) (k2 : Int → Int → (List S0) → Int → (List S0) → Option (S1 × Int × Int × Unit)) (b : List Int) (atv : Int) (n : Int) (i : Int) (c0 : Int) (c0x2 : List S0) (c1 : Int) (c1x2 : List S0) (c2 : Int) (c2x2 : List S0) : Option (S1 × Int × Int × Unit) :=
  cond (decide (i < n)) (
    (ref04Get fu b atv).bind fun r1 =>
    cond (r1.2.2.1 != (0 : Int)) (
      k1 (0 : Int) r1.2.2.1 c1 c1x2) (
      chk (apOk c2x2 ([r1.1]) 40) <|
      let t2 := IntKind.i64.wrap (i + (1 : Int))
      next b r1.2.1 n t2 c0 c0x2 c1 c1x2 c2 (c2x2 ++ ([r1.1])))) (
    k2 atv c0 c0x2 c2 c2x2)
noncomputable def ref05Get.l10 (fu : Nat) (k1 : Int → Int → Int → (List S0) → Option (S1 × Int × Int × Unit)) (k2 : Int → Int → (List S0) → Int → (List S0) → Option (S1 × Int × Int × Unit)) : Nat → (List Int) → Int → Int → Int → Int → (List S0) → Int → (List S0) → Int → (List S0) → Option (S1 × Int × Int × Unit)
  | 0, _, _, _, _, _, _, _, _, _, _ => none
  | m + 1, b, atv, n, i, c0, c0x2, c1, c1x2, c2, c2x2 => ref05Get.b10 fu (ref05Get.l10 fu k1 k2 m) k1 k2 b atv n i c0 c0x2 c1 c1x2 c2 c2x2
noncomputable def ref05Get (fu : Nat) (b : List Int) (atv : Int) : Option (S1 × Int × Int × Unit) :=
  cond (decide (atv < (0 : Int))) (
    some (((0 : Int), [], ()), (0 : Int), (3 : Int), ())) (
    let t1 := IntKind.i64.wrap ((b.length : Int) - (2 : Int))
    cond (decide (atv > t1)) (
      some (((0 : Int), [], ()), (0 : Int), (3 : Int), ())) (
      let t2 := IntKind.i64.wrap (atv + (1 : Int))
      chk (ixOk b t2) <|
      let e3 := ixL (0 : Int) b t2
      cond (decide (e3 > (8 : Int))) (
        some (((0 : Int), [], ()), (0 : Int), (12 : Int), ())) (
        chk (ixOk b atv) <|
        let e4 := ixL (0 : Int) b atv
        let t5 := IntKind.i64.wrap (atv + (1 : Int))
        chk (ixOk b t5) <|
        let e6 := ixL (0 : Int) b t5
        let t7 := IntKind.i64.wrap (atv + (2 : Int))
        ref05Get.l10 fu (fun vq3 vq3x2 c0q3 c0q3x2 => 
            some ((c0q3, c0q3x2, ()), vq3, vq3x2, ())) (fun atvq4 c0q4 c0q4x2 c2q4 c2q4x2 => 
            some ((c2q4, c2q4x2, ()), atvq4, (0 : Int), ())) fu b t7 (IntKind.i64.wrap e6) (0 : Int) (0 : Int) [] (0 : Int) [] e4 [])))

noncomputable def ref05Get.body : Code := Try.f19.body.getD .skip
abbrev ref05Get.shl10 : Shp := ⟨[.d (.slice (.int .u8)), .d (.int .i64), .u, .u, .p 0 0, .u, .u, .p 1 0, .p 2 0, .d (.int .i64), .d (.int .i64), .u, .u, .u, .u, .u, .u, .u, .u, .u, .u, .u, .u, .u, .u, .u, .u, .u, .u, .u, .u, .u, .u, .u, .u, .u, .u, .u, .u, .u, .u, .u, .u, .u, .u, .u, .u, .u, .u, .u, .u, .u, .u, .u, .u, .u, .u, .u, .u, .u, .u, .u, .u, .u, .u, .u, .u, .u, .u, .u], [.c [.d (.int .u8), .o 1001 kS0], .c [.d (.int .u8), .o 1051 kS0], .c [.d (.int .u8), .o 1101 kS0]]⟩
abbrev ref05Get.outl10e1 : Shp := ⟨[.u, .u, .u, .u, .p 0 0, .d (.int .i64), .d (.int .i64), .u, .u, .u, .u, .u, .u, .u, .u, .u, .u, .u, .u, .u, .u, .u, .u, .u, .u, .u, .u, .u, .u, .u, .u, .u, .u, .u, .u, .u, .u, .u, .u, .u, .u, .u, .u, .u, .u, .u, .u, .u, .u, .u, .u, .u, .u, .u, .u, .u, .u, .u, .u, .u, .u, .u, .u, .u, .u, .u, .u, .u, .u, .u], [.c [.d (.int .u8), .d (.slice kS0)]]⟩
abbrev ref05Get.outl10e2 : Shp := ⟨[.u, .d (.int .i64), .u, .u, .p 0 0, .u, .u, .u, .p 2 0, .u, .u, .u, .u, .u, .u, .u, .u, .u, .u, .u, .u, .u, .u, .u, .u, .u, .u, .u, .u, .u, .u, .u, .u, .u, .u, .u, .u, .u, .u, .u, .u, .u, .u, .u, .u, .u, .u, .u, .u, .u, .u, .u, .u, .u, .u, .u, .u, .u, .u, .u, .u, .u, .u, .u, .u, .u, .u, .u, .u, .u], [.c [.d (.int .u8), .o 1001 kS0], .c [.u, .u], .c [.d (.int .u8), .o 1101 kS0]]⟩
noncomputable def ref05Get.nml10 : Norm := ⟨{ keep := [0, 1, 4, 7, 8, 9, 10], shut := [(0, (.slice (.int .u8))), (1, (.int .i64)), (9, (.int .i64)), (10, (.int .i64))], retag := [], heap := 3, dead := [], cshut := [(0, 0, (.int .u8)), (1, 0, (.int .u8)), (2, 0, (.int .u8))], cretag := [(0, 1, 1001, kS0), (1, 1, 1051, kS0), (2, 1, 1101, kS0)] }, [(1, { keep := [4, 5, 6], shut := [(5, (.int .i64)), (6, (.int .i64))], retag := [], heap := 1, dead := [], cshut := [(0, 0, (.int .u8)), (0, 1, (.slice kS0))], cretag := [] }), (2, { keep := [1, 4, 8], shut := [(1, (.int .i64))], retag := [], heap := 3, dead := [1], cshut := [(0, 0, (.int .u8)), (2, 0, (.int .u8))], cretag := [(0, 1, 1001, kS0), (2, 1, 1101, kS0)] })]⟩
noncomputable def ref05Get.con : Con := { ps := [(.slice (.int .u8)), (.int .i64)], rs := [kS1, (.int .i64), (.int .i64)], f := fun n x => ref05Get n x.1 x.2.1 }
noncomputable def ref05Get.env : Env := { tys := [(27, ⟨kS1, 32⟩), (3, ⟨(.int .i64), 8⟩), (4, ⟨.bool, 1⟩), (5, ⟨(.int .u8), 1⟩), (34, ⟨kS0, 40⟩), (25, ⟨(.slice kS0), 24⟩)], elems := [(38, 5), (25, 34)], ptrs := [], cons := [(53, ref04Get.con)], objs := [], loops := [(10, ref05Get.nml10)], cuts := [], globs := globs, base := 0 }
noncomputable def ref05Get.lp (n : Nat) : LP (Kd.struct ref05Get.con.rs).T := fun lo κ body nm K s =>
  cond (lo && Nat.beq κ 10)
    (match ref05Get.shl10.dec s with
    | some v => ref05Get.l10 n (fun w0 w1 w2 w3 => K .ret (ref05Get.outl10e1.enc (w0, w1, w2, w3, ()))) (fun w0 w1 w2 w3 w4 => K (.exit 0) (ref05Get.outl10e2.enc (w0, w1, w2, w3, w4, ()))) n v.1 v.2.1 v.2.2.1 v.2.2.2.1 v.2.2.2.2.1 v.2.2.2.2.2.1 v.2.2.2.2.2.2.1 v.2.2.2.2.2.2.2.1 v.2.2.2.2.2.2.2.2.1 v.2.2.2.2.2.2.2.2.2.1
    | none => loops n (Kd.struct ref05Get.con.rs).T lo κ body nm K s)
    (loops n (Kd.struct ref05Get.con.rs).T lo κ body nm K s)
theorem ref05Get.atl10 (n : Nat) (s : St) (K : Ex → St → Option (Kd.struct ref05Get.con.rs).T) : ref05Get.lp n true 10 (evK ref05Get.env (ref05Get.lp n) n (sub [1, 1, 1, 1, 1, 1, 1, 0, 1, 0, 0] ref05Get.body)) ref05Get.nml10 K s = loops n (Kd.struct ref05Get.con.rs).T true 10 (evK ref05Get.env (ref05Get.lp n) n (sub [1, 1, 1, 1, 1, 1, 1, 0, 1, 0, 0] ref05Get.body)) ref05Get.nml10 K s := by
  show (match ref05Get.shl10.dec s with | some v => ref05Get.l10 n (fun w0 w1 w2 w3 => K .ret (ref05Get.outl10e1.enc (w0, w1, w2, w3, ()))) (fun w0 w1 w2 w3 w4 => K (.exit 0) (ref05Get.outl10e2.enc (w0, w1, w2, w3, w4, ()))) n v.1 v.2.1 v.2.2.1 v.2.2.2.1 v.2.2.2.2.1 v.2.2.2.2.2.1 v.2.2.2.2.2.2.1 v.2.2.2.2.2.2.2.1 v.2.2.2.2.2.2.2.2.1 v.2.2.2.2.2.2.2.2.2.1 | none => loops n (Kd.struct ref05Get.con.rs).T true 10 (evK ref05Get.env (ref05Get.lp n) n (sub [1, 1, 1, 1, 1, 1, 1, 0, 1, 0, 0] ref05Get.body)) ref05Get.nml10 K s) = _
  cases h : ref05Get.shl10.dec s with
  | none => rfl
  | some v =>
    rw [Shp.dec_enc h]
    exact (evLoop_eq (sh := ref05Get.shl10) (body := evK ref05Get.env (ref05Get.lp n) n (sub [1, 1, 1, 1, 1, 1, 1, 0, 1, 0, 0] ref05Get.body)) (nm := ref05Get.nml10) (K := K) (b := fun nx v => ref05Get.b10 n (fun x0 x1 x2 x3 x4 x5 x6 x7 x8 x9 => nx (x0, x1, x2, x3, x4, x5, x6, x7, x8, x9, ())) (fun w0 w1 w2 w3 => K .ret (ref05Get.outl10e1.enc (w0, w1, w2, w3, ()))) (fun w0 w1 w2 w3 w4 => K (.exit 0) (ref05Get.outl10e2.enc (w0, w1, w2, w3, w4, ()))) v.1 v.2.1 v.2.2.1 v.2.2.2.1 v.2.2.2.2.1 v.2.2.2.2.2.1 v.2.2.2.2.2.2.1 v.2.2.2.2.2.2.2.1 v.2.2.2.2.2.2.2.2.1 v.2.2.2.2.2.2.2.2.2.1) (l := fun m v => ref05Get.l10 n (fun w0 w1 w2 w3 => K .ret (ref05Get.outl10e1.enc (w0, w1, w2, w3, ()))) (fun w0 w1 w2 w3 w4 => K (.exit 0) (ref05Get.outl10e2.enc (w0, w1, w2, w3, w4, ()))) m v.1 v.2.1 v.2.2.1 v.2.2.2.1 v.2.2.2.2.1 v.2.2.2.2.2.1 v.2.2.2.2.2.2.1 v.2.2.2.2.2.2.2.1 v.2.2.2.2.2.2.2.2.1 v.2.2.2.2.2.2.2.2.2.1) (fun _ => rfl) (fun _ _ => rfl) (fun m v => by kernel_rfl) n v).symm
theorem ref05Get.eq (n : Nat) (x : (Kd.struct ref05Get.con.ps).T) : evFunc ref05Get.env Try.f19 ref05Get.body ref05Get.con.ps ref05Get.con.rs (ref05Get.lp n) n x = ref05Get.con.f n x := by kernel_rfl
theorem ref05Get.sound : Sound Try.prog globs 19 ref05Get.con :=
  sound_by (E := ref05Get.env) (c := ref05Get.body) (envOk (G := globs) (lc := [(53, ref04Get.con)]) (lo := []) (envB_spec (by kernel_rfl)) rfl rfl ⟨.inl ⟨ref04Get.sound, by kernel_rfl⟩, trivial⟩ rfl trivial (by kernel_rfl) (by kernel_rfl)) Try.func19 (by kernel_rfl) ref05Get.lp (l := [(true, sub [1, 1, 1, 1, 1, 1, 1, 0, 1, 0, 0] ref05Get.body, ref05Get.nml10)]) (by kernel_rfl) (fun n => ⟨ref05Get.atl10 n, trivial⟩) ref05Get.eq
noncomputable def ref02Of (fu : Nat) (xv : Nat) : Option (S2 × Unit) :=
  (extBits.f fu (xv, ())).bind fun r1 =>
  (ref02OfBits fu r1.1).bind fun r2 =>
  some (r2.1, ())

noncomputable def ref02Of.body : Code := Try.f48.body.getD .skip
noncomputable def ref02Of.con : Con := { ps := [.flt], rs := [kS2], f := fun n x => ref02Of n x.1 }
noncomputable def ref02Of.env : Env := { tys := [(99, ⟨kS2, 24⟩)], elems := [], ptrs := [], cons := [(92, extBits), (91, ref02OfBits.con)], objs := [], loops := [], cuts := [], globs := globs, base := 0 }
noncomputable def ref02Of.lp (n : Nat) : LP (Kd.struct ref02Of.con.rs).T := fun lo κ body nm K s =>
  loops n (Kd.struct ref02Of.con.rs).T lo κ body nm K s
theorem ref02Of.eq (n : Nat) (x : (Kd.struct ref02Of.con.ps).T) : evFunc ref02Of.env Try.f48 ref02Of.body ref02Of.con.ps ref02Of.con.rs (ref02Of.lp n) n x = ref02Of.con.f n x := by kernel_rfl
theorem ref02Of.sound : Sound Try.prog globs 48 ref02Of.con :=
  sound_by (E := ref02Of.env) (c := ref02Of.body) (envOk (G := globs) (lc := [(92, extBits), (91, ref02OfBits.con)]) (lo := []) (envB_spec (by kernel_rfl)) rfl rfl ⟨.inr (extBits_ok Try.func92 (by kernel_rfl) (by kernel_rfl) (by kernel_rfl) (by kernel_rfl)), ⟨.inl ⟨ref02OfBits.sound, by kernel_rfl⟩, trivial⟩⟩ rfl trivial (by kernel_rfl) (by kernel_rfl)) Try.func48 (by kernel_rfl) ref02Of.lp (l := []) (by kernel_rfl) (fun n => trivial) ref02Of.eq
noncomputable def ref04Same (fu : Nat) (a : S0) (b : S0) : Option (Bool × Unit) :=
  cond (a.1 != b.1) (
    some (false, ())) (
    cond (a.1 == (1 : Int)) (
      some (a.2.1 == b.2.1, ())) (
      cond (a.1 == (2 : Int)) (
        (ref02Of fu a.2.2.1).bind fun r1 =>
        (ref02PartsBits fu r1.1).bind fun r2 =>
        (ref02Of fu b.2.2.1).bind fun r3 =>
        (ref02PartsBits fu r3.1).bind fun r4 =>
        some (r2.1 == r4.1, ())) (
        cond (a.1 == (3 : Int)) (
          some (a.2.2.2.1 == b.2.2.2.1, ())) (
          some (true, ())))))

noncomputable def ref04Same.body : Code := Try.f15.body.getD .skip
noncomputable def ref04Same.con : Con := { ps := [kS0, kS0], rs := [.bool], f := fun n x => ref04Same n x.1 x.2.1 }
noncomputable def ref04Same.env : Env := { tys := [(34, ⟨kS0, 40⟩), (4, ⟨.bool, 1⟩), (5, ⟨(.int .u8), 1⟩), (2, ⟨(.int .i64), 8⟩), (32, ⟨.flt, 8⟩), (9, ⟨.str, 16⟩)], elems := [], ptrs := [], cons := [(48, ref02Of.con), (49, ref02PartsBits.con)], objs := [], loops := [], cuts := [], globs := globs, base := 0 }
noncomputable def ref04Same.lp (n : Nat) : LP (Kd.struct ref04Same.con.rs).T := fun lo κ body nm K s =>
  loops n (Kd.struct ref04Same.con.rs).T lo κ body nm K s
theorem ref04Same.eq (n : Nat) (x : (Kd.struct ref04Same.con.ps).T) : evFunc ref04Same.env Try.f15 ref04Same.body ref04Same.con.ps ref04Same.con.rs (ref04Same.lp n) n x = ref04Same.con.f n x := by kernel_rfl
theorem ref04Same.sound : Sound Try.prog globs 15 ref04Same.con :=
  sound_by (E := ref04Same.env) (c := ref04Same.body) (envOk (G := globs) (lc := [(48, ref02Of.con), (49, ref02PartsBits.con)]) (lo := []) (envB_spec (by kernel_rfl)) rfl rfl ⟨.inl ⟨ref02Of.sound, by kernel_rfl⟩, ⟨.inl ⟨ref02PartsBits.sound, by kernel_rfl⟩, trivial⟩⟩ rfl trivial (by kernel_rfl) (by kernel_rfl)) Try.func15 (by kernel_rfl) ref04Same.lp (l := []) (by kernel_rfl) (fun n => trivial) ref04Same.eq
noncomputable def ref05Same.b4 (fu : Nat) (next : Int → Int → S1 → S1 → Option (Bool × Unit)) (k1 : Bool → Option (Bool × Unit)) (k2 : Unit → Option (Bool × Unit)) (v : Int) (vx2 : Int) (b0 : S1) (b1 : S1) : Option (Bool × Unit) :=
  cond (decide (vx2 < v)) (
    chk (ixOk b0.2.1 vx2) <|
    let e1 := ixL ((0 : Int), (0 : Int), (0 : Nat), [], ()) b0.2.1 vx2
    chk (ixOk b1.2.1 vx2) <|
    let e2 := ixL ((0 : Int), (0 : Int), (0 : Nat), [], ()) b1.2.1 vx2
    (ref04Same fu e1 e2).bind fun r3 =>
    cond (!r3.1) (
      k1 false) (
      let t4 := IntKind.i64.wrap (vx2 + (1 : Int))
      next v t4 b0 b1)) (
    k2 ())
noncomputable def ref05Same.l4 (fu : Nat) (k1 : Bool → Option (Bool × Unit)) (k2 : Unit → Option (Bool × Unit)) : Nat → Int → Int → S1 → S1 → Option (Bool × Unit)
  | 0, _, _, _, _ => none
  | m + 1, v, vx2, b0, b1 => ref05Same.b4 fu (ref05Same.l4 fu k1 k2 m) k1 k2 v vx2 b0 b1
noncomputable def ref05Same (fu : Nat) (a : S1) (b : S1) : Option (Bool × Unit) :=
  cond (a.1 != b.1) (
    some (false, ())) (
    let t1 := (a.2.1.length : Int) != (b.2.1.length : Int)
    cond t1 (
      some (false, ())) (
      ref05Same.l4 fu (fun vq3 => 
          some (vq3, ())) (fun (_ : Unit) => 
          some (true, ())) fu (a.2.1.length : Int) (0 : Int) a b))

noncomputable def ref05Same.body : Code := Try.f17.body.getD .skip
abbrev ref05Same.shl4 : Shp := ⟨[.u, .u, .p 0 0, .p 1 0, .u, .u, .u, .u, .u, .u, .u, .u, .u, .u, .u, .u, .u, .u, .u, .u, .u, .u, .d (.int .i64), .d (.int .i64), .u, .u, .u, .u, .u, .u, .u, .u, .u, .u, .u, .u, .u, .u, .u], [.c [.g kS1], .c [.g kS1]]⟩
abbrev ref05Same.outl4e1 : Shp := ⟨[.u, .u, .u, .u, .d .bool, .u, .u, .u, .u, .u, .u, .u, .u, .u, .u, .u, .u, .u, .u, .u, .u, .u, .u, .u, .u, .u, .u, .u, .u, .u, .u, .u, .u, .u, .u, .u, .u, .u, .u], []⟩
abbrev ref05Same.outl4e2 : Shp := ⟨[.u, .u, .u, .u, .u, .u, .u, .u, .u, .u, .u, .u, .u, .u, .u, .u, .u, .u, .u, .u, .u, .u, .u, .u, .u, .u, .u, .u, .u, .u, .u, .u, .u, .u, .u, .u, .u, .u, .u], []⟩
noncomputable def ref05Same.nml4 : Norm := ⟨{ keep := [2, 3, 22, 23], shut := [(22, (.int .i64)), (23, (.int .i64))], retag := [], heap := 2, dead := [], cshut := [(0, 0, (.int .u8)), (0, 1, (.slice kS0)), (1, 0, (.int .u8)), (1, 1, (.slice kS0))], cretag := [] }, [(1, { keep := [4], shut := [(4, .bool)], retag := [], heap := 0, dead := [], cshut := [], cretag := [] }), (2, { keep := [], shut := [], retag := [], heap := 0, dead := [], cshut := [], cretag := [] })]⟩
noncomputable def ref05Same.con : Con := { ps := [kS1, kS1], rs := [.bool], f := fun n x => ref05Same n x.1 x.2.1 }
noncomputable def ref05Same.env : Env := { tys := [(27, ⟨kS1, 32⟩), (4, ⟨.bool, 1⟩), (5, ⟨(.int .u8), 1⟩), (25, ⟨(.slice kS0), 24⟩), (34, ⟨kS0, 40⟩), (3, ⟨(.int .i64), 8⟩)], elems := [(25, 34)], ptrs := [], cons := [(15, ref04Same.con)], objs := [], loops := [(4, ref05Same.nml4)], cuts := [], globs := globs, base := 0 }
noncomputable def ref05Same.lp (n : Nat) : LP (Kd.struct ref05Same.con.rs).T := fun lo κ body nm K s =>
  cond (lo && Nat.beq κ 4)
    (match ref05Same.shl4.dec s with
    | some v => ref05Same.l4 n (fun w0 => K .ret (ref05Same.outl4e1.enc (w0, ()))) (fun _ => K (.exit 0) (ref05Same.outl4e2.enc (()))) n v.1 v.2.1 v.2.2.1 v.2.2.2.1
    | none => loops n (Kd.struct ref05Same.con.rs).T lo κ body nm K s)
    (loops n (Kd.struct ref05Same.con.rs).T lo κ body nm K s)
theorem ref05Same.atl4 (n : Nat) (s : St) (K : Ex → St → Option (Kd.struct ref05Same.con.rs).T) : ref05Same.lp n true 4 (evK ref05Same.env (ref05Same.lp n) n (sub [1, 1, 0, 1, 0, 0] ref05Same.body)) ref05Same.nml4 K s = loops n (Kd.struct ref05Same.con.rs).T true 4 (evK ref05Same.env (ref05Same.lp n) n (sub [1, 1, 0, 1, 0, 0] ref05Same.body)) ref05Same.nml4 K s := by
  show (match ref05Same.shl4.dec s with | some v => ref05Same.l4 n (fun w0 => K .ret (ref05Same.outl4e1.enc (w0, ()))) (fun _ => K (.exit 0) (ref05Same.outl4e2.enc (()))) n v.1 v.2.1 v.2.2.1 v.2.2.2.1 | none => loops n (Kd.struct ref05Same.con.rs).T true 4 (evK ref05Same.env (ref05Same.lp n) n (sub [1, 1, 0, 1, 0, 0] ref05Same.body)) ref05Same.nml4 K s) = _
  cases h : ref05Same.shl4.dec s with
  | none => rfl
  | some v =>
    rw [Shp.dec_enc h]
    exact (evLoop_eq (sh := ref05Same.shl4) (body := evK ref05Same.env (ref05Same.lp n) n (sub [1, 1, 0, 1, 0, 0] ref05Same.body)) (nm := ref05Same.nml4) (K := K) (b := fun nx v => ref05Same.b4 n (fun x0 x1 x2 x3 => nx (x0, x1, x2, x3, ())) (fun w0 => K .ret (ref05Same.outl4e1.enc (w0, ()))) (fun _ => K (.exit 0) (ref05Same.outl4e2.enc (()))) v.1 v.2.1 v.2.2.1 v.2.2.2.1) (l := fun m v => ref05Same.l4 n (fun w0 => K .ret (ref05Same.outl4e1.enc (w0, ()))) (fun _ => K (.exit 0) (ref05Same.outl4e2.enc (()))) m v.1 v.2.1 v.2.2.1 v.2.2.2.1) (fun _ => rfl) (fun _ _ => rfl) (fun m v => by kernel_rfl) n v).symm
theorem ref05Same.eq (n : Nat) (x : (Kd.struct ref05Same.con.ps).T) : evFunc ref05Same.env Try.f17 ref05Same.body ref05Same.con.ps ref05Same.con.rs (ref05Same.lp n) n x = ref05Same.con.f n x := by kernel_rfl
theorem ref05Same.sound : Sound Try.prog globs 17 ref05Same.con :=
  sound_by (E := ref05Same.env) (c := ref05Same.body) (envOk (G := globs) (lc := [(15, ref04Same.con)]) (lo := []) (envB_spec (by kernel_rfl)) rfl rfl ⟨.inl ⟨ref04Same.sound, by kernel_rfl⟩, trivial⟩ rfl trivial (by kernel_rfl) (by kernel_rfl)) Try.func17 (by kernel_rfl) ref05Same.lp (l := [(true, sub [1, 1, 0, 1, 0, 0] ref05Same.body, ref05Same.nml4)]) (by kernel_rfl) (fun n => ⟨ref05Same.atl4 n, trivial⟩) ref05Same.eq
noncomputable def law05EventGets (fu : Nat) (b : List Int) (atv : Int) : Option (Bool × Unit) :=
  let t1 := decide ((b.length : Int) > (3000 : Int))
  cond t1 (
    (law05Fixed fu).bind fun r2 =>
    some (r2.1, ())) (
    (eventGet fu b atv).bind fun r3 =>
    (ref05Get fu b atv).bind fun r4 =>
    (law05Fixed fu).bind fun r5 =>
    cond (!r5.1) (
      some (false, ())) (
      (ref05Same fu r3.1 r4.1).bind fun r6 =>
      cond (!r6.1) (
        some (false, ())) (
        cond (r3.2.1 != r4.2.1) (
          some (false, ())) (
          cond (r3.2.2.1 != r4.2.2.1) (
            some (false, ())) (
            cond (r3.2.2.1 != (0 : Int)) (
              some (true, ())) (
              (eventPut fu [] r3.1).bind fun r7 =>
              cond (r7.2.1 == (0 : Int)) (
                cond (decide (atv ≥ (0 : Int))) (
                  cond (decide (atv ≤ r3.2.1)) (
                    let t8 := decide (r3.2.1 ≤ (b.length : Int))
                    cond t8 (
                      chk (cutOk b atv r3.2.1) <|
                      let t9 := r7.1 == (cutL b atv r3.2.1)
                      some (t9, ())) (
                      some (false, ()))) (
                    some (false, ()))) (
                  some (false, ()))) (
                some (false, ()))))))))

noncomputable def law05EventGets.body : Code := Try.f4.body.getD .skip
noncomputable def law05EventGets.con : Con := { ps := [(.slice (.int .u8)), (.int .i64)], rs := [.bool], f := fun n x => law05EventGets n x.1 x.2.1 }
noncomputable def law05EventGets.env : Env := { tys := [(4, ⟨.bool, 1⟩), (5, ⟨(.int .u8), 1⟩), (27, ⟨kS1, 32⟩), (9, ⟨.str, 16⟩), (38, ⟨(.slice (.int .u8)), 24⟩)], elems := [(38, 5)], ptrs := [], cons := [(13, law05Fixed.con), (18, eventGet.con), (19, ref05Get.con), (17, ref05Same.con), (20, eventPut.con)], objs := [], loops := [], cuts := [], globs := globs, base := 0 }
noncomputable def law05EventGets.lp (n : Nat) : LP (Kd.struct law05EventGets.con.rs).T := fun lo κ body nm K s =>
  loops n (Kd.struct law05EventGets.con.rs).T lo κ body nm K s
theorem law05EventGets.eq (n : Nat) (x : (Kd.struct law05EventGets.con.ps).T) : evFunc law05EventGets.env Try.f4 law05EventGets.body law05EventGets.con.ps law05EventGets.con.rs (law05EventGets.lp n) n x = law05EventGets.con.f n x := by kernel_rfl
theorem law05EventGets.sound : Sound Try.prog globs 4 law05EventGets.con :=
  sound_by (E := law05EventGets.env) (c := law05EventGets.body) (envOk (G := globs) (lc := [(13, law05Fixed.con), (18, eventGet.con), (19, ref05Get.con), (17, ref05Same.con), (20, eventPut.con)]) (lo := []) (envB_spec (by kernel_rfl)) rfl rfl ⟨.inl ⟨law05Fixed.sound, by kernel_rfl⟩, ⟨.inl ⟨eventGet.sound, by kernel_rfl⟩, ⟨.inl ⟨ref05Get.sound, by kernel_rfl⟩, ⟨.inl ⟨ref05Same.sound, by kernel_rfl⟩, ⟨.inl ⟨eventPut.sound, by kernel_rfl⟩, trivial⟩⟩⟩⟩⟩ rfl trivial (by kernel_rfl) (by kernel_rfl)) Try.func4 (by kernel_rfl) law05EventGets.lp (l := []) (by kernel_rfl) (fun n => trivial) law05EventGets.eq
noncomputable def eventNumbers.j8 (fu : Nat) (k0 : (List Int) → (List Int) → Int → Int → Int → Option ((List Int) × Int × Int × Unit)) (k1 : (List Int) → Int → Int → Option ((List Int) × Int × Int × Unit)) (b : List Int) (out : List Int) (xv : Int) (endv : Int) (ev : Int) (v : Int) (vx2 : Int) : Option ((List Int) × Int × Int × Unit) :=
  cond (ev != (0 : Int)) (
    k1 [] (0 : Int) ev) (
    chk (apOk out ([xv]) 8) <|
    k0 b (out ++ ([xv])) endv v vx2)
noncomputable def eventNumbers.b4 (fu : Nat) (next : (List Int) → (List Int) → Int → Int → Int → Option ((List Int) × Int × Int × Unit)) (k1 : (List Int) → Int → Int → Option ((List Int) × Int × Int × Unit)) (k2 : (List Int) → Int → Option ((List Int) × Int × Int × Unit)) (b : List Int) (out : List Int) (atv : Int) (v : Int) (vx2 : Int) : Option ((List Int) × Int × Int × Unit) :=
  cond (decide (vx2 < v)) (
    (packGet fu b atv).bind fun r1 =>
    cond (r1.2.2.1 == (0 : Int)) (
      let t2 := (out.length : Int) == (0 : Int)
      cond t2 (
        let t3 := decide (r1.1 > (4294967295 : Int))
        cond t3 (
          eventNumbers.j8 fu (fun bq13 outq13 atvq13 vq13 vq13x2 => 
              let t4 := IntKind.i64.wrap (vq13x2 + (1 : Int))
              next bq13 outq13 atvq13 vq13 t4) (fun vq14 vq14x2 vq14x3 => 
              k1 vq14 vq14x2 vq14x3) b out r1.1 r1.2.1 (5 : Int) v vx2) (
          eventNumbers.j8 fu (fun bq15 outq15 atvq15 vq15 vq15x2 => 
              let t5 := IntKind.i64.wrap (vq15x2 + (1 : Int))
              next bq15 outq15 atvq15 vq15 t5) (fun vq16 vq16x2 vq16x3 => 
              k1 vq16 vq16x2 vq16x3) b out r1.1 r1.2.1 r1.2.2.1 v vx2)) (
        eventNumbers.j8 fu (fun bq17 outq17 atvq17 vq17 vq17x2 => 
            let t6 := IntKind.i64.wrap (vq17x2 + (1 : Int))
            next bq17 outq17 atvq17 vq17 t6) (fun vq18 vq18x2 vq18x3 => 
            k1 vq18 vq18x2 vq18x3) b out r1.1 r1.2.1 r1.2.2.1 v vx2)) (
      eventNumbers.j8 fu (fun bq19 outq19 atvq19 vq19 vq19x2 => 
          let t7 := IntKind.i64.wrap (vq19x2 + (1 : Int))
          next bq19 outq19 atvq19 vq19 t7) (fun vq20 vq20x2 vq20x3 => 
          k1 vq20 vq20x2 vq20x3) b out r1.1 r1.2.1 r1.2.2.1 v vx2)) (
    k2 out atv)
noncomputable def eventNumbers.l4 (fu : Nat) (k1 : (List Int) → Int → Int → Option ((List Int) × Int × Int × Unit)) (k2 : (List Int) → Int → Option ((List Int) × Int × Int × Unit)) : Nat → (List Int) → (List Int) → Int → Int → Int → Option ((List Int) × Int × Int × Unit)
  | 0, _, _, _, _, _ => none
  | m + 1, b, out, atv, v, vx2 => eventNumbers.b4 fu (eventNumbers.l4 fu k1 k2 m) k1 k2 b out atv v vx2
noncomputable def eventNumbers (fu : Nat) (b : List Int) (n : Int) : Option ((List Int) × Int × Int × Unit) :=
  eventNumbers.l4 fu (fun vq3 vq3x2 vq3x3 => 
      some (vq3, vq3x2, vq3x3, ())) (fun outq4 atvq4 => 
      some (outq4, atvq4, (0 : Int), ())) fu b [] (0 : Int) n (0 : Int)

noncomputable def eventNumbers.body : Code := Try.f63.body.getD .skip
abbrev eventNumbers.shj8 : Shp := ⟨[.d (.slice (.int .u8)), .u, .u, .u, .u, .u, .u, .o 7 (.int .u64), .u, .d (.int .u64), .d (.int .i64), .d (.int .i64), .d (.int .i64), .d (.int .i64), .u, .u, .u, .u, .u, .u, .u, .u, .u, .u, .u, .u, .u, .u, .u, .u, .u, .u, .u, .u, .u, .u, .u, .u, .u, .u, .u, .u, .u, .u], []⟩
abbrev eventNumbers.outj8e0 : Shp := ⟨[.d (.slice (.int .u8)), .u, .u, .u, .u, .u, .u, .o 7 (.int .u64), .d (.int .i64), .u, .u, .u, .d (.int .i64), .d (.int .i64), .u, .u, .u, .u, .u, .u, .u, .u, .u, .u, .u, .u, .u, .u, .u, .u, .u, .u, .u, .u, .u, .u, .u, .u, .u, .u, .u, .u, .u, .u], []⟩
abbrev eventNumbers.outj8e1 : Shp := ⟨[.u, .u, .u, .u, .o 4 (.int .u64), .d (.int .i64), .d (.int .i64), .u, .u, .u, .u, .u, .u, .u, .u, .u, .u, .u, .u, .u, .u, .u, .u, .u, .u, .u, .u, .u, .u, .u, .u, .u, .u, .u, .u, .u, .u, .u, .u, .u, .u, .u, .u, .u], []⟩
noncomputable def eventNumbers.nmj8 : Norm := ⟨{ keep := [0, 7, 9, 10, 11, 12, 13], shut := [(0, (.slice (.int .u8))), (9, (.int .u64)), (10, (.int .i64)), (11, (.int .i64)), (12, (.int .i64)), (13, (.int .i64))], retag := [(7, 7, (.int .u64))], heap := 0, dead := [], cshut := [], cretag := [] }, [(0, { keep := [0, 7, 8, 12, 13], shut := [(0, (.slice (.int .u8))), (8, (.int .i64)), (12, (.int .i64)), (13, (.int .i64))], retag := [(7, 7, (.int .u64))], heap := 0, dead := [], cshut := [], cretag := [] }), (1, { keep := [4, 5, 6], shut := [(5, (.int .i64)), (6, (.int .i64))], retag := [(4, 4, (.int .u64))], heap := 0, dead := [], cshut := [], cretag := [] })]⟩
abbrev eventNumbers.shl4 : Shp := ⟨[.d (.slice (.int .u8)), .u, .u, .u, .u, .u, .u, .o 7 (.int .u64), .d (.int .i64), .u, .u, .u, .d (.int .i64), .d (.int .i64), .u, .u, .u, .u, .u, .u, .u, .u, .u, .u, .u, .u, .u, .u, .u, .u, .u, .u, .u, .u, .u, .u, .u, .u, .u, .u, .u, .u, .u, .u], []⟩
abbrev eventNumbers.outl4e1 : Shp := ⟨[.u, .u, .u, .u, .o 4 (.int .u64), .d (.int .i64), .d (.int .i64), .u, .u, .u, .u, .u, .u, .u, .u, .u, .u, .u, .u, .u, .u, .u, .u, .u, .u, .u, .u, .u, .u, .u, .u, .u, .u, .u, .u, .u, .u, .u, .u, .u, .u, .u, .u, .u], []⟩
abbrev eventNumbers.outl4e2 : Shp := ⟨[.u, .u, .u, .u, .u, .u, .u, .o 7 (.int .u64), .d (.int .i64), .u, .u, .u, .u, .u, .u, .u, .u, .u, .u, .u, .u, .u, .u, .u, .u, .u, .u, .u, .u, .u, .u, .u, .u, .u, .u, .u, .u, .u, .u, .u, .u, .u, .u, .u], []⟩
noncomputable def eventNumbers.nml4 : Norm := ⟨{ keep := [0, 7, 8, 12, 13], shut := [(0, (.slice (.int .u8))), (8, (.int .i64)), (12, (.int .i64)), (13, (.int .i64))], retag := [(7, 7, (.int .u64))], heap := 0, dead := [], cshut := [], cretag := [] }, [(1, { keep := [4, 5, 6], shut := [(5, (.int .i64)), (6, (.int .i64))], retag := [(4, 4, (.int .u64))], heap := 0, dead := [], cshut := [], cretag := [] }), (2, { keep := [7, 8], shut := [(8, (.int .i64))], retag := [(7, 7, (.int .u64))], heap := 0, dead := [], cshut := [], cretag := [] })]⟩
noncomputable def eventNumbers.con : Con := { ps := [(.slice (.int .u8)), (.int .i64)], rs := [(.slice (.int .u64)), (.int .i64), (.int .i64)], f := fun n x => eventNumbers n x.1 x.2.1 }
noncomputable def eventNumbers.env : Env := { tys := [(113, ⟨(.slice (.int .u64)), 24⟩), (3, ⟨(.int .i64), 8⟩), (39, ⟨(.int .i64), 8⟩), (51, ⟨(.int .u64), 8⟩), (4, ⟨.bool, 1⟩)], elems := [(113, 51)], ptrs := [], cons := [(87, packGet.con)], objs := [], loops := [(4, eventNumbers.nml4)], cuts := [(8, eventNumbers.nmj8)], globs := globs, base := 0 }
noncomputable def eventNumbers.lp (n : Nat) : LP (Kd.struct eventNumbers.con.rs).T := fun lo κ body nm K s =>
  cond (!lo && Nat.beq κ 8)
    (match eventNumbers.shj8.dec s with
    | some v => eventNumbers.j8 n (fun w0 w1 w2 w3 w4 => K .normal (eventNumbers.outj8e0.enc (w0, w1, w2, w3, w4, ()))) (fun w0 w1 w2 => K .ret (eventNumbers.outj8e1.enc (w0, w1, w2, ()))) v.1 v.2.1 v.2.2.1 v.2.2.2.1 v.2.2.2.2.1 v.2.2.2.2.2.1 v.2.2.2.2.2.2.1
    | none => loops n (Kd.struct eventNumbers.con.rs).T lo κ body nm K s)
    (cond (lo && Nat.beq κ 4)
    (match eventNumbers.shl4.dec s with
    | some v => eventNumbers.l4 n (fun w0 w1 w2 => K .ret (eventNumbers.outl4e1.enc (w0, w1, w2, ()))) (fun w0 w1 => K (.exit 0) (eventNumbers.outl4e2.enc (w0, w1, ()))) n v.1 v.2.1 v.2.2.1 v.2.2.2.1 v.2.2.2.2.1
    | none => loops n (Kd.struct eventNumbers.con.rs).T lo κ body nm K s)
    (loops n (Kd.struct eventNumbers.con.rs).T lo κ body nm K s))
theorem eventNumbers.atj8 (n : Nat) (s : St) (K : Ex → St → Option (Kd.struct eventNumbers.con.rs).T) : eventNumbers.lp n false 8 (evK eventNumbers.env (eventNumbers.lp n) n (sub [1, 1, 1, 0, 1, 0, 0, 1, 1, 0, 0, 1, 1] eventNumbers.body)) eventNumbers.nmj8 K s = loops n (Kd.struct eventNumbers.con.rs).T false 8 (evK eventNumbers.env (eventNumbers.lp n) n (sub [1, 1, 1, 0, 1, 0, 0, 1, 1, 0, 0, 1, 1] eventNumbers.body)) eventNumbers.nmj8 K s := by
  show (match eventNumbers.shj8.dec s with | some v => eventNumbers.j8 n (fun w0 w1 w2 w3 w4 => K .normal (eventNumbers.outj8e0.enc (w0, w1, w2, w3, w4, ()))) (fun w0 w1 w2 => K .ret (eventNumbers.outj8e1.enc (w0, w1, w2, ()))) v.1 v.2.1 v.2.2.1 v.2.2.2.1 v.2.2.2.2.1 v.2.2.2.2.2.1 v.2.2.2.2.2.2.1 | none => loops n (Kd.struct eventNumbers.con.rs).T false 8 (evK eventNumbers.env (eventNumbers.lp n) n (sub [1, 1, 1, 0, 1, 0, 0, 1, 1, 0, 0, 1, 1] eventNumbers.body)) eventNumbers.nmj8 K s) = _
  cases h : eventNumbers.shj8.dec s with
  | none => rfl
  | some v =>
    rw [Shp.dec_enc h]
    kernel_rfl
theorem eventNumbers.atl4 (n : Nat) (s : St) (K : Ex → St → Option (Kd.struct eventNumbers.con.rs).T) : eventNumbers.lp n true 4 (evK eventNumbers.env (eventNumbers.lp n) n (sub [1, 1, 1, 0, 1, 0, 0] eventNumbers.body)) eventNumbers.nml4 K s = loops n (Kd.struct eventNumbers.con.rs).T true 4 (evK eventNumbers.env (eventNumbers.lp n) n (sub [1, 1, 1, 0, 1, 0, 0] eventNumbers.body)) eventNumbers.nml4 K s := by
  show (match eventNumbers.shl4.dec s with | some v => eventNumbers.l4 n (fun w0 w1 w2 => K .ret (eventNumbers.outl4e1.enc (w0, w1, w2, ()))) (fun w0 w1 => K (.exit 0) (eventNumbers.outl4e2.enc (w0, w1, ()))) n v.1 v.2.1 v.2.2.1 v.2.2.2.1 v.2.2.2.2.1 | none => loops n (Kd.struct eventNumbers.con.rs).T true 4 (evK eventNumbers.env (eventNumbers.lp n) n (sub [1, 1, 1, 0, 1, 0, 0] eventNumbers.body)) eventNumbers.nml4 K s) = _
  cases h : eventNumbers.shl4.dec s with
  | none => rfl
  | some v =>
    rw [Shp.dec_enc h]
    exact (evLoop_eq (sh := eventNumbers.shl4) (body := evK eventNumbers.env (eventNumbers.lp n) n (sub [1, 1, 1, 0, 1, 0, 0] eventNumbers.body)) (nm := eventNumbers.nml4) (K := K) (b := fun nx v => eventNumbers.b4 n (fun x0 x1 x2 x3 x4 => nx (x0, x1, x2, x3, x4, ())) (fun w0 w1 w2 => K .ret (eventNumbers.outl4e1.enc (w0, w1, w2, ()))) (fun w0 w1 => K (.exit 0) (eventNumbers.outl4e2.enc (w0, w1, ()))) v.1 v.2.1 v.2.2.1 v.2.2.2.1 v.2.2.2.2.1) (l := fun m v => eventNumbers.l4 n (fun w0 w1 w2 => K .ret (eventNumbers.outl4e1.enc (w0, w1, w2, ()))) (fun w0 w1 => K (.exit 0) (eventNumbers.outl4e2.enc (w0, w1, ()))) m v.1 v.2.1 v.2.2.1 v.2.2.2.1 v.2.2.2.2.1) (fun _ => rfl) (fun _ _ => rfl) (fun m v => by kernel_rfl) n v).symm
theorem eventNumbers.eq (n : Nat) (x : (Kd.struct eventNumbers.con.ps).T) : evFunc eventNumbers.env Try.f63 eventNumbers.body eventNumbers.con.ps eventNumbers.con.rs (eventNumbers.lp n) n x = eventNumbers.con.f n x := by kernel_rfl
theorem eventNumbers.sound : Sound Try.prog globs 63 eventNumbers.con :=
  sound_by (E := eventNumbers.env) (c := eventNumbers.body) (envOk (G := globs) (lc := [(87, packGet.con)]) (lo := []) (envB_spec (by kernel_rfl)) rfl rfl ⟨.inl ⟨packGet.sound, by kernel_rfl⟩, trivial⟩ rfl trivial (by kernel_rfl) (by kernel_rfl)) Try.func63 (by kernel_rfl) eventNumbers.lp (l := [(false, sub [1, 1, 1, 0, 1, 0, 0, 1, 1, 0, 0, 1, 1] eventNumbers.body, eventNumbers.nmj8), (true, sub [1, 1, 1, 0, 1, 0, 0] eventNumbers.body, eventNumbers.nml4)]) (by kernel_rfl) (fun n => ⟨eventNumbers.atj8 n, ⟨eventNumbers.atl4 n, trivial⟩⟩) eventNumbers.eq
noncomputable def eventRead (fu : Nat) (b : List Int) : Option (S3 × Int × Unit) :=
  (eventNumbers fu b (3 : Int)).bind fun r1 =>
  cond (r1.2.2.1 != (0 : Int)) (
    some (((0 : Int), (0 : Int), (0 : Int), ((0 : Int), [], ()), ()), r1.2.2.1, ())) (
    (eventGet fu b r1.2.1).bind fun r2 =>
    cond (r2.2.2.1 != (0 : Int)) (
      some (((0 : Int), (0 : Int), (0 : Int), ((0 : Int), [], ()), ()), r2.2.2.1, ())) (
      let t3 := decide (r2.2.1 < (b.length : Int))
      cond t3 (
        some (((0 : Int), (0 : Int), (0 : Int), ((0 : Int), [], ()), ()), (2 : Int), ())) (
        chk (ixOk r1.1 (0 : Int)) <|
        let e4 := ixL (0 : Int) r1.1 (0 : Int)
        chk (ixOk r1.1 (1 : Int)) <|
        let e5 := ixL (0 : Int) r1.1 (1 : Int)
        chk (ixOk r1.1 (2 : Int)) <|
        let e6 := ixL (0 : Int) r1.1 (2 : Int)
        some ((IntKind.u32.wrap e4, e5, e6, r2.1, ()), (0 : Int), ()))))

noncomputable def eventRead.body : Code := Try.f26.body.getD .skip
noncomputable def eventRead.con : Con := { ps := [(.slice (.int .u8))], rs := [kS3, (.int .i64)], f := fun n x => eventRead n x.1 }
noncomputable def eventRead.env : Env := { tys := [(53, ⟨kS3, 56⟩), (39, ⟨(.int .i64), 8⟩), (27, ⟨kS1, 32⟩), (5, ⟨(.int .u8), 1⟩), (51, ⟨(.int .u64), 8⟩), (50, ⟨(.int .u32), 4⟩)], elems := [(38, 5), (113, 51)], ptrs := [], cons := [(63, eventNumbers.con), (18, eventGet.con)], objs := [], loops := [], cuts := [], globs := globs, base := 0 }
noncomputable def eventRead.lp (n : Nat) : LP (Kd.struct eventRead.con.rs).T := fun lo κ body nm K s =>
  loops n (Kd.struct eventRead.con.rs).T lo κ body nm K s
theorem eventRead.eq (n : Nat) (x : (Kd.struct eventRead.con.ps).T) : evFunc eventRead.env Try.f26 eventRead.body eventRead.con.ps eventRead.con.rs (eventRead.lp n) n x = eventRead.con.f n x := by kernel_rfl
theorem eventRead.sound : Sound Try.prog globs 26 eventRead.con :=
  sound_by (E := eventRead.env) (c := eventRead.body) (envOk (G := globs) (lc := [(63, eventNumbers.con), (18, eventGet.con)]) (lo := []) (envB_spec (by kernel_rfl)) rfl rfl ⟨.inl ⟨eventNumbers.sound, by kernel_rfl⟩, ⟨.inl ⟨eventGet.sound, by kernel_rfl⟩, trivial⟩⟩ rfl trivial (by kernel_rfl) (by kernel_rfl)) Try.func26 (by kernel_rfl) eventRead.lp (l := []) (by kernel_rfl) (fun n => trivial) eventRead.eq
noncomputable def ref05Read (fu : Nat) (b : List Int) : Option (S3 × Int × Unit) :=
  (ref03Get fu b (0 : Int)).bind fun r1 =>
  cond (r1.2.2.1 != (0 : Int)) (
    some (((0 : Int), (0 : Int), (0 : Int), ((0 : Int), [], ()), ()), r1.2.2.1, ())) (
    let t2 := decide (r1.1 > (4294967295 : Int))
    cond t2 (
      some (((0 : Int), (0 : Int), (0 : Int), ((0 : Int), [], ()), ()), (5 : Int), ())) (
      (ref03Get fu b r1.2.1).bind fun r3 =>
      cond (r3.2.2.1 != (0 : Int)) (
        some (((0 : Int), (0 : Int), (0 : Int), ((0 : Int), [], ()), ()), r3.2.2.1, ())) (
        (ref03Get fu b r3.2.1).bind fun r4 =>
        cond (r4.2.2.1 != (0 : Int)) (
          some (((0 : Int), (0 : Int), (0 : Int), ((0 : Int), [], ()), ()), r4.2.2.1, ())) (
          (ref05Get fu b r4.2.1).bind fun r5 =>
          cond (r5.2.2.1 != (0 : Int)) (
            some (((0 : Int), (0 : Int), (0 : Int), ((0 : Int), [], ()), ()), r5.2.2.1, ())) (
            let t6 := r5.2.1 != (b.length : Int)
            cond t6 (
              some (((0 : Int), (0 : Int), (0 : Int), ((0 : Int), [], ()), ()), (2 : Int), ())) (
              some ((IntKind.u32.wrap r1.1, r3.1, r4.1, r5.1, ()), (0 : Int), ())))))))

noncomputable def ref05Read.body : Code := Try.f28.body.getD .skip
noncomputable def ref05Read.con : Con := { ps := [(.slice (.int .u8))], rs := [kS3, (.int .i64)], f := fun n x => ref05Read n x.1 }
noncomputable def ref05Read.env : Env := { tys := [(53, ⟨kS3, 56⟩), (3, ⟨(.int .i64), 8⟩), (27, ⟨kS1, 32⟩), (5, ⟨(.int .u8), 1⟩), (50, ⟨(.int .u32), 4⟩), (51, ⟨(.int .u64), 8⟩)], elems := [(38, 5)], ptrs := [], cons := [(64, ref03Get.con), (19, ref05Get.con)], objs := [], loops := [], cuts := [], globs := globs, base := 0 }
noncomputable def ref05Read.lp (n : Nat) : LP (Kd.struct ref05Read.con.rs).T := fun lo κ body nm K s =>
  loops n (Kd.struct ref05Read.con.rs).T lo κ body nm K s
theorem ref05Read.eq (n : Nat) (x : (Kd.struct ref05Read.con.ps).T) : evFunc ref05Read.env Try.f28 ref05Read.body ref05Read.con.ps ref05Read.con.rs (ref05Read.lp n) n x = ref05Read.con.f n x := by kernel_rfl
theorem ref05Read.sound : Sound Try.prog globs 28 ref05Read.con :=
  sound_by (E := ref05Read.env) (c := ref05Read.body) (envOk (G := globs) (lc := [(64, ref03Get.con), (19, ref05Get.con)]) (lo := []) (envB_spec (by kernel_rfl)) rfl rfl ⟨.inl ⟨ref03Get.sound, by kernel_rfl⟩, ⟨.inl ⟨ref05Get.sound, by kernel_rfl⟩, trivial⟩⟩ rfl trivial (by kernel_rfl) (by kernel_rfl)) Try.func28 (by kernel_rfl) ref05Read.lp (l := []) (by kernel_rfl) (fun n => trivial) ref05Read.eq
noncomputable def ref05SameLogged (fu : Nat) (a : S3) (b : S3) : Option (Bool × Unit) :=
  cond (a.1 == b.1) (
    cond (a.2.1 == b.2.1) (
      cond (a.2.2.1 == b.2.2.1) (
        (ref05Same fu a.2.2.2.1 b.2.2.2.1).bind fun r1 =>
        some (r1.1, ())) (
        some (false, ()))) (
      some (false, ()))) (
    some (false, ()))

noncomputable def ref05SameLogged.body : Code := Try.f27.body.getD .skip
noncomputable def ref05SameLogged.con : Con := { ps := [kS3, kS3], rs := [.bool], f := fun n x => ref05SameLogged n x.1 x.2.1 }
noncomputable def ref05SameLogged.env : Env := { tys := [(53, ⟨kS3, 56⟩), (4, ⟨.bool, 1⟩), (50, ⟨(.int .u32), 4⟩), (51, ⟨(.int .u64), 8⟩), (27, ⟨kS1, 32⟩)], elems := [], ptrs := [], cons := [(17, ref05Same.con)], objs := [], loops := [], cuts := [], globs := globs, base := 0 }
noncomputable def ref05SameLogged.lp (n : Nat) : LP (Kd.struct ref05SameLogged.con.rs).T := fun lo κ body nm K s =>
  loops n (Kd.struct ref05SameLogged.con.rs).T lo κ body nm K s
theorem ref05SameLogged.eq (n : Nat) (x : (Kd.struct ref05SameLogged.con.ps).T) : evFunc ref05SameLogged.env Try.f27 ref05SameLogged.body ref05SameLogged.con.ps ref05SameLogged.con.rs (ref05SameLogged.lp n) n x = ref05SameLogged.con.f n x := by kernel_rfl
theorem ref05SameLogged.sound : Sound Try.prog globs 27 ref05SameLogged.con :=
  sound_by (E := ref05SameLogged.env) (c := ref05SameLogged.body) (envOk (G := globs) (lc := [(17, ref05Same.con)]) (lo := []) (envB_spec (by kernel_rfl)) rfl rfl ⟨.inl ⟨ref05Same.sound, by kernel_rfl⟩, trivial⟩ rfl trivial (by kernel_rfl) (by kernel_rfl)) Try.func27 (by kernel_rfl) ref05SameLogged.lp (l := []) (by kernel_rfl) (fun n => trivial) ref05SameLogged.eq
noncomputable def eventWrite (fu : Nat) (l : S3) : Option ((List Int) × Int × Unit) :=
  (packPutDat fu [] (IntKind.u64.wrap l.1)).bind fun r1 =>
  (packPutDat fu r1.1 l.2.1).bind fun r2 =>
  (packPutDat fu r2.1 l.2.2.1).bind fun r3 =>
  (eventPut fu r3.1 l.2.2.2.1).bind fun r4 =>
  some (r4.1, r4.2.1, ())

noncomputable def eventWrite.body : Code := Try.f24.body.getD .skip
noncomputable def eventWrite.con : Con := { ps := [kS3], rs := [(.slice (.int .u8)), (.int .i64)], f := fun n x => eventWrite n x.1 }
noncomputable def eventWrite.env : Env := { tys := [(53, ⟨kS3, 56⟩), (38, ⟨(.slice (.int .u8)), 24⟩), (39, ⟨(.int .i64), 8⟩), (50, ⟨(.int .u32), 4⟩), (51, ⟨(.int .u64), 8⟩), (27, ⟨kS1, 32⟩)], elems := [], ptrs := [], cons := [(61, packPutDat.con), (20, eventPut.con)], objs := [], loops := [], cuts := [], globs := globs, base := 0 }
noncomputable def eventWrite.lp (n : Nat) : LP (Kd.struct eventWrite.con.rs).T := fun lo κ body nm K s =>
  loops n (Kd.struct eventWrite.con.rs).T lo κ body nm K s
theorem eventWrite.eq (n : Nat) (x : (Kd.struct eventWrite.con.ps).T) : evFunc eventWrite.env Try.f24 eventWrite.body eventWrite.con.ps eventWrite.con.rs (eventWrite.lp n) n x = eventWrite.con.f n x := by kernel_rfl
theorem eventWrite.sound : Sound Try.prog globs 24 eventWrite.con :=
  sound_by (E := eventWrite.env) (c := eventWrite.body) (envOk (G := globs) (lc := [(61, packPutDat.con), (20, eventPut.con)]) (lo := []) (envB_spec (by kernel_rfl)) rfl rfl ⟨.inl ⟨packPutDat.sound, by kernel_rfl⟩, ⟨.inl ⟨eventPut.sound, by kernel_rfl⟩, trivial⟩⟩ rfl trivial (by kernel_rfl) (by kernel_rfl)) Try.func24 (by kernel_rfl) eventWrite.lp (l := []) (by kernel_rfl) (fun n => trivial) eventWrite.eq
noncomputable def law05EventReads (fu : Nat) (b : List Int) : Option (Bool × Unit) :=
  let t1 := decide ((b.length : Int) > (3000 : Int))
  cond t1 (
    (law05Fixed fu).bind fun r2 =>
    some (r2.1, ())) (
    (eventRead fu b).bind fun r3 =>
    (ref05Read fu b).bind fun r4 =>
    (law05Fixed fu).bind fun r5 =>
    cond (!r5.1) (
      some (false, ())) (
      (ref05SameLogged fu r3.1 r4.1).bind fun r6 =>
      cond (!r6.1) (
        some (false, ())) (
        cond (r3.2.1 != r4.2.1) (
          some (false, ())) (
          cond (r3.2.1 != (0 : Int)) (
            some (true, ())) (
            (eventWrite fu r3.1).bind fun r7 =>
            cond (r7.2.1 == (0 : Int)) (
              some (r7.1 == b, ())) (
              some (false, ())))))))

noncomputable def law05EventReads.body : Code := Try.f7.body.getD .skip
noncomputable def law05EventReads.con : Con := { ps := [(.slice (.int .u8))], rs := [.bool], f := fun n x => law05EventReads n x.1 }
noncomputable def law05EventReads.env : Env := { tys := [(4, ⟨.bool, 1⟩), (5, ⟨(.int .u8), 1⟩), (53, ⟨kS3, 56⟩), (9, ⟨.str, 16⟩), (38, ⟨(.slice (.int .u8)), 24⟩)], elems := [(38, 5)], ptrs := [], cons := [(13, law05Fixed.con), (26, eventRead.con), (28, ref05Read.con), (27, ref05SameLogged.con), (24, eventWrite.con)], objs := [], loops := [], cuts := [], globs := globs, base := 0 }
noncomputable def law05EventReads.lp (n : Nat) : LP (Kd.struct law05EventReads.con.rs).T := fun lo κ body nm K s =>
  loops n (Kd.struct law05EventReads.con.rs).T lo κ body nm K s
theorem law05EventReads.eq (n : Nat) (x : (Kd.struct law05EventReads.con.ps).T) : evFunc law05EventReads.env Try.f7 law05EventReads.body law05EventReads.con.ps law05EventReads.con.rs (law05EventReads.lp n) n x = law05EventReads.con.f n x := by kernel_rfl
theorem law05EventReads.sound : Sound Try.prog globs 7 law05EventReads.con :=
  sound_by (E := law05EventReads.env) (c := law05EventReads.body) (envOk (G := globs) (lc := [(13, law05Fixed.con), (26, eventRead.con), (28, ref05Read.con), (27, ref05SameLogged.con), (24, eventWrite.con)]) (lo := []) (envB_spec (by kernel_rfl)) rfl rfl ⟨.inl ⟨law05Fixed.sound, by kernel_rfl⟩, ⟨.inl ⟨eventRead.sound, by kernel_rfl⟩, ⟨.inl ⟨ref05Read.sound, by kernel_rfl⟩, ⟨.inl ⟨ref05SameLogged.sound, by kernel_rfl⟩, ⟨.inl ⟨eventWrite.sound, by kernel_rfl⟩, trivial⟩⟩⟩⟩⟩ rfl trivial (by kernel_rfl) (by kernel_rfl)) Try.func7 (by kernel_rfl) law05EventReads.lp (l := []) (by kernel_rfl) (fun n => trivial) law05EventReads.eq
noncomputable def law04RawValue (fu : Nat) (rv : S4) : Option (S0 × Unit) :=
  (extFrom.f fu (rv.2.2.1, ())).bind fun r1 =>
  some ((rv.1, rv.2.1, r1.1, rv.2.2.2.1, ()), ())

noncomputable def law04RawValue.body : Code := Try.f46.body.getD .skip
noncomputable def law04RawValue.con : Con := { ps := [kS4], rs := [kS0], f := fun n x => law04RawValue n x.1 }
noncomputable def law04RawValue.env : Env := { tys := [(95, ⟨kS4, 40⟩), (34, ⟨kS0, 40⟩), (5, ⟨(.int .u8), 1⟩), (2, ⟨(.int .i64), 8⟩), (51, ⟨(.int .u64), 8⟩), (9, ⟨.str, 16⟩)], elems := [], ptrs := [], cons := [(90, extFrom)], objs := [], loops := [], cuts := [], globs := globs, base := 0 }
noncomputable def law04RawValue.lp (n : Nat) : LP (Kd.struct law04RawValue.con.rs).T := fun lo κ body nm K s =>
  loops n (Kd.struct law04RawValue.con.rs).T lo κ body nm K s
theorem law04RawValue.eq (n : Nat) (x : (Kd.struct law04RawValue.con.ps).T) : evFunc law04RawValue.env Try.f46 law04RawValue.body law04RawValue.con.ps law04RawValue.con.rs (law04RawValue.lp n) n x = law04RawValue.con.f n x := by kernel_rfl
theorem law04RawValue.sound : Sound Try.prog globs 46 law04RawValue.con :=
  sound_by (E := law04RawValue.env) (c := law04RawValue.body) (envOk (G := globs) (lc := [(90, extFrom)]) (lo := []) (envB_spec (by kernel_rfl)) rfl rfl ⟨.inr (extFrom_ok Try.func90 (by kernel_rfl) (by kernel_rfl) (by kernel_rfl) (by kernel_rfl)), trivial⟩ rfl trivial (by kernel_rfl) (by kernel_rfl)) Try.func46 (by kernel_rfl) law04RawValue.lp (l := []) (by kernel_rfl) (fun n => trivial) law04RawValue.eq
noncomputable def law05RawEvent.b3 (fu : Nat) (next : (List S4) → Int → Int → Int → (List S0) → Int → (List S0) → Option (S1 × Unit)) (k2 : Int → (List S0) → Int → (List S0) → Option (S1 × Unit)) (v : List S4) (vx2 : Int) (vx3 : Int) (c1 : Int) (c1x2 : List S0) (c2 : Int) (c2x2 : List S0) : Option (S1 × Unit) :=
  cond (decide (vx3 < vx2)) (
    chk (ixOk v vx3) <|
    let e1 := ixL ((0 : Int), (0 : Int), (0 : Int), [], ()) v vx3
    let t2 := decide (vx3 < (30 : Int))
    cond t2 (
      (law04RawValue fu e1).bind fun r3 =>
      chk (apOk c2x2 ([r3.1]) 40) <|
      let t4 := IntKind.i64.wrap (vx3 + (1 : Int))
      next v vx2 t4 c1 c1x2 c2 (c2x2 ++ ([r3.1]))) (
      let t5 := IntKind.i64.wrap (vx3 + (1 : Int))
      next v vx2 t5 c1 c1x2 c2 c2x2)) (
    k2 c1 c1x2 c2 c2x2)
noncomputable def law05RawEvent.l3 (fu : Nat) (k2 : Int → (List S0) → Int → (List S0) → Option (S1 × Unit)) : Nat → (List S4) → Int → Int → Int → (List S0) → Int → (List S0) → Option (S1 × Unit)
  | 0, _, _, _, _, _, _, _ => none
  | m + 1, v, vx2, vx3, c1, c1x2, c2, c2x2 => law05RawEvent.b3 fu (law05RawEvent.l3 fu k2 m) k2 v vx2 vx3 c1 c1x2 c2 c2x2
noncomputable def law05RawEvent (fu : Nat) (rv : S5) : Option (S1 × Unit) :=
  law05RawEvent.l3 fu (fun c1q2 c1q2x2 c2q2 c2q2x2 => 
      some ((c2q2, c2q2x2, ()), ())) fu rv.2.1 (rv.2.1.length : Int) (0 : Int) (0 : Int) [] rv.1 []

noncomputable def law05RawEvent.body : Code := Try.f11.body.getD .skip
abbrev law05RawEvent.shl3 : Shp := ⟨[.u, .u, .p 1 0, .p 2 0, .u, .u, .u, .u, .u, .u, .d (.slice kS4), .d (.int .i64), .d (.int .i64), .u, .u, .u, .u, .u, .u, .u, .u, .u, .u, .u, .u, .u, .u, .u], [.c [.u, .u], .c [.d (.int .u8), .o 1051 kS0], .c [.d (.int .u8), .o 1101 kS0]]⟩
abbrev law05RawEvent.outl3e2 : Shp := ⟨[.u, .u, .p 1 0, .p 2 0, .u, .u, .u, .u, .u, .u, .u, .u, .u, .u, .u, .u, .u, .u, .u, .u, .u, .u, .u, .u, .u, .u, .u, .u], [.c [.u, .u], .c [.d (.int .u8), .o 1051 kS0], .c [.d (.int .u8), .o 1101 kS0]]⟩
noncomputable def law05RawEvent.nml3 : Norm := ⟨{ keep := [2, 3, 10, 11, 12], shut := [(10, (.slice kS4)), (11, (.int .i64)), (12, (.int .i64))], retag := [], heap := 3, dead := [0], cshut := [(1, 0, (.int .u8)), (2, 0, (.int .u8))], cretag := [(1, 1, 1051, kS0), (2, 1, 1101, kS0)] }, [(2, { keep := [2, 3], shut := [], retag := [], heap := 3, dead := [0], cshut := [(1, 0, (.int .u8)), (2, 0, (.int .u8))], cretag := [(1, 1, 1051, kS0), (2, 1, 1101, kS0)] })]⟩
noncomputable def law05RawEvent.con : Con := { ps := [kS5], rs := [kS1], f := fun n x => law05RawEvent n x.1 }
noncomputable def law05RawEvent.env : Env := { tys := [(24, ⟨kS5, 32⟩), (27, ⟨kS1, 32⟩), (5, ⟨(.int .u8), 1⟩), (22, ⟨(.slice kS4), 24⟩), (95, ⟨kS4, 40⟩), (3, ⟨(.int .i64), 8⟩), (25, ⟨(.slice kS0), 24⟩), (34, ⟨kS0, 40⟩)], elems := [(22, 95), (25, 34)], ptrs := [], cons := [(46, law04RawValue.con)], objs := [], loops := [(3, law05RawEvent.nml3)], cuts := [], globs := globs, base := 0 }
noncomputable def law05RawEvent.lp (n : Nat) : LP (Kd.struct law05RawEvent.con.rs).T := fun lo κ body nm K s =>
  cond (lo && Nat.beq κ 3)
    (match law05RawEvent.shl3.dec s with
    | some v => law05RawEvent.l3 n (fun w0 w1 w2 w3 => K (.exit 0) (law05RawEvent.outl3e2.enc (w0, w1, w2, w3, ()))) n v.1 v.2.1 v.2.2.1 v.2.2.2.1 v.2.2.2.2.1 v.2.2.2.2.2.1 v.2.2.2.2.2.2.1
    | none => loops n (Kd.struct law05RawEvent.con.rs).T lo κ body nm K s)
    (loops n (Kd.struct law05RawEvent.con.rs).T lo κ body nm K s)
theorem law05RawEvent.atl3 (n : Nat) (s : St) (K : Ex → St → Option (Kd.struct law05RawEvent.con.rs).T) : law05RawEvent.lp n true 3 (evK law05RawEvent.env (law05RawEvent.lp n) n (sub [1, 1, 0, 1, 0, 0] law05RawEvent.body)) law05RawEvent.nml3 K s = loops n (Kd.struct law05RawEvent.con.rs).T true 3 (evK law05RawEvent.env (law05RawEvent.lp n) n (sub [1, 1, 0, 1, 0, 0] law05RawEvent.body)) law05RawEvent.nml3 K s := by
  show (match law05RawEvent.shl3.dec s with | some v => law05RawEvent.l3 n (fun w0 w1 w2 w3 => K (.exit 0) (law05RawEvent.outl3e2.enc (w0, w1, w2, w3, ()))) n v.1 v.2.1 v.2.2.1 v.2.2.2.1 v.2.2.2.2.1 v.2.2.2.2.2.1 v.2.2.2.2.2.2.1 | none => loops n (Kd.struct law05RawEvent.con.rs).T true 3 (evK law05RawEvent.env (law05RawEvent.lp n) n (sub [1, 1, 0, 1, 0, 0] law05RawEvent.body)) law05RawEvent.nml3 K s) = _
  cases h : law05RawEvent.shl3.dec s with
  | none => rfl
  | some v =>
    rw [Shp.dec_enc h]
    exact (evLoop_eq (sh := law05RawEvent.shl3) (body := evK law05RawEvent.env (law05RawEvent.lp n) n (sub [1, 1, 0, 1, 0, 0] law05RawEvent.body)) (nm := law05RawEvent.nml3) (K := K) (b := fun nx v => law05RawEvent.b3 n (fun x0 x1 x2 x3 x4 x5 x6 => nx (x0, x1, x2, x3, x4, x5, x6, ())) (fun w0 w1 w2 w3 => K (.exit 0) (law05RawEvent.outl3e2.enc (w0, w1, w2, w3, ()))) v.1 v.2.1 v.2.2.1 v.2.2.2.1 v.2.2.2.2.1 v.2.2.2.2.2.1 v.2.2.2.2.2.2.1) (l := fun m v => law05RawEvent.l3 n (fun w0 w1 w2 w3 => K (.exit 0) (law05RawEvent.outl3e2.enc (w0, w1, w2, w3, ()))) m v.1 v.2.1 v.2.2.1 v.2.2.2.1 v.2.2.2.2.1 v.2.2.2.2.2.1 v.2.2.2.2.2.2.1) (fun _ => rfl) (fun _ _ => rfl) (fun m v => by kernel_rfl) n v).symm
theorem law05RawEvent.eq (n : Nat) (x : (Kd.struct law05RawEvent.con.ps).T) : evFunc law05RawEvent.env Try.f11 law05RawEvent.body law05RawEvent.con.ps law05RawEvent.con.rs (law05RawEvent.lp n) n x = law05RawEvent.con.f n x := by kernel_rfl
theorem law05RawEvent.sound : Sound Try.prog globs 11 law05RawEvent.con :=
  sound_by (E := law05RawEvent.env) (c := law05RawEvent.body) (envOk (G := globs) (lc := [(46, law04RawValue.con)]) (lo := []) (envB_spec (by kernel_rfl)) rfl rfl ⟨.inl ⟨law04RawValue.sound, by kernel_rfl⟩, trivial⟩ rfl trivial (by kernel_rfl) (by kernel_rfl)) Try.func11 (by kernel_rfl) law05RawEvent.lp (l := [(true, sub [1, 1, 0, 1, 0, 0] law05RawEvent.body, law05RawEvent.nml3)]) (by kernel_rfl) (fun n => ⟨law05RawEvent.atl3 n, trivial⟩) law05RawEvent.eq
noncomputable def ref05Great.b5 (fu : Nat) (next : Int → Int → Int → S1 → Option (Bool × Unit)) (k2 : Int → Option (Bool × Unit)) (n : Int) (v : Int) (vx2 : Int) (b0 : S1) : Option (Bool × Unit) :=
  cond (decide (vx2 < v)) (
    chk (ixOk b0.2.1 vx2) <|
    let e1 := ixL ((0 : Int), (0 : Int), (0 : Nat), [], ()) b0.2.1 vx2
    let t2 := (e1.2.2.2.1.length : Int)
    let t3 := IntKind.i64.wrap (n + min2 t2 (3000 : Int))
    let t4 := IntKind.i64.wrap (vx2 + (1 : Int))
    next t3 v t4 b0) (
    k2 n)
noncomputable def ref05Great.l5 (fu : Nat) (k2 : Int → Option (Bool × Unit)) : Nat → Int → Int → Int → S1 → Option (Bool × Unit)
  | 0, _, _, _, _ => none
  | m + 1, n, v, vx2, b0 => ref05Great.b5 fu (ref05Great.l5 fu k2 m) k2 n v vx2 b0
noncomputable def ref05Great (fu : Nat) (ev : S1) : Option (Bool × Unit) :=
  let t1 := decide ((ev.2.1.length : Int) > (40 : Int))
  cond t1 (
    some (true, ())) (
    ref05Great.l5 fu (fun nq2 => 
        let t2 := decide (nq2 > (3000 : Int))
        some (t2, ())) fu (ev.2.1.length : Int) (ev.2.1.length : Int) (0 : Int) ev)

noncomputable def ref05Great.body : Code := Try.f12.body.getD .skip
abbrev ref05Great.shl5 : Shp := ⟨[.u, .p 0 0, .u, .d (.int .i64), .u, .u, .u, .u, .u, .u, .u, .u, .d (.int .i64), .d (.int .i64), .u, .u, .u, .u, .u, .u, .u, .u, .u, .u, .u, .u, .u, .u, .u], [.c [.g kS1]]⟩
abbrev ref05Great.outl5e2 : Shp := ⟨[.u, .u, .u, .d (.int .i64), .u, .u, .u, .u, .u, .u, .u, .u, .u, .u, .u, .u, .u, .u, .u, .u, .u, .u, .u, .u, .u, .u, .u, .u, .u], []⟩
noncomputable def ref05Great.nml5 : Norm := ⟨{ keep := [1, 3, 12, 13], shut := [(3, (.int .i64)), (12, (.int .i64)), (13, (.int .i64))], retag := [], heap := 1, dead := [], cshut := [(0, 0, (.int .u8)), (0, 1, (.slice kS0))], cretag := [] }, [(2, { keep := [3], shut := [(3, (.int .i64))], retag := [], heap := 0, dead := [], cshut := [], cretag := [] })]⟩
noncomputable def ref05Great.con : Con := { ps := [kS1], rs := [.bool], f := fun n x => ref05Great n x.1 }
noncomputable def ref05Great.env : Env := { tys := [(27, ⟨kS1, 32⟩), (4, ⟨.bool, 1⟩), (25, ⟨(.slice kS0), 24⟩), (34, ⟨kS0, 40⟩), (3, ⟨(.int .i64), 8⟩), (9, ⟨.str, 16⟩)], elems := [(25, 34)], ptrs := [], cons := [], objs := [], loops := [(5, ref05Great.nml5)], cuts := [], globs := globs, base := 0 }
noncomputable def ref05Great.lp (n : Nat) : LP (Kd.struct ref05Great.con.rs).T := fun lo κ body nm K s =>
  cond (lo && Nat.beq κ 5)
    (match ref05Great.shl5.dec s with
    | some v => ref05Great.l5 n (fun w0 => K (.exit 0) (ref05Great.outl5e2.enc (w0, ()))) n v.1 v.2.1 v.2.2.1 v.2.2.2.1
    | none => loops n (Kd.struct ref05Great.con.rs).T lo κ body nm K s)
    (loops n (Kd.struct ref05Great.con.rs).T lo κ body nm K s)
theorem ref05Great.atl5 (n : Nat) (s : St) (K : Ex → St → Option (Kd.struct ref05Great.con.rs).T) : ref05Great.lp n true 5 (evK ref05Great.env (ref05Great.lp n) n (sub [1, 1, 1, 0, 1, 0, 0] ref05Great.body)) ref05Great.nml5 K s = loops n (Kd.struct ref05Great.con.rs).T true 5 (evK ref05Great.env (ref05Great.lp n) n (sub [1, 1, 1, 0, 1, 0, 0] ref05Great.body)) ref05Great.nml5 K s := by
  show (match ref05Great.shl5.dec s with | some v => ref05Great.l5 n (fun w0 => K (.exit 0) (ref05Great.outl5e2.enc (w0, ()))) n v.1 v.2.1 v.2.2.1 v.2.2.2.1 | none => loops n (Kd.struct ref05Great.con.rs).T true 5 (evK ref05Great.env (ref05Great.lp n) n (sub [1, 1, 1, 0, 1, 0, 0] ref05Great.body)) ref05Great.nml5 K s) = _
  cases h : ref05Great.shl5.dec s with
  | none => rfl
  | some v =>
    rw [Shp.dec_enc h]
    exact (evLoop_eq (sh := ref05Great.shl5) (body := evK ref05Great.env (ref05Great.lp n) n (sub [1, 1, 1, 0, 1, 0, 0] ref05Great.body)) (nm := ref05Great.nml5) (K := K) (b := fun nx v => ref05Great.b5 n (fun x0 x1 x2 x3 => nx (x0, x1, x2, x3, ())) (fun w0 => K (.exit 0) (ref05Great.outl5e2.enc (w0, ()))) v.1 v.2.1 v.2.2.1 v.2.2.2.1) (l := fun m v => ref05Great.l5 n (fun w0 => K (.exit 0) (ref05Great.outl5e2.enc (w0, ()))) m v.1 v.2.1 v.2.2.1 v.2.2.2.1) (fun _ => rfl) (fun _ _ => rfl) (fun m v => by kernel_rfl) n v).symm
theorem ref05Great.eq (n : Nat) (x : (Kd.struct ref05Great.con.ps).T) : evFunc ref05Great.env Try.f12 ref05Great.body ref05Great.con.ps ref05Great.con.rs (ref05Great.lp n) n x = ref05Great.con.f n x := by kernel_rfl
theorem ref05Great.sound : Sound Try.prog globs 12 ref05Great.con :=
  sound_by (E := ref05Great.env) (c := ref05Great.body) (envOk (G := globs) (lc := []) (lo := []) (envB_spec (by kernel_rfl)) rfl rfl trivial rfl trivial (by kernel_rfl) (by kernel_rfl)) Try.func12 (by kernel_rfl) ref05Great.lp (l := [(true, sub [1, 1, 1, 0, 1, 0, 0] ref05Great.body, ref05Great.nml5)]) (by kernel_rfl) (fun n => ⟨ref05Great.atl5 n, trivial⟩) ref05Great.eq
noncomputable def ref04May.j4 (fu : Nat) (k1 : Bool → Option (Bool × Unit)) (whole : Bool) (point : Bool) (text : Bool) (b0 : S0) : Option (Bool × Unit) :=
  let t1 := decide (b0.1 < (4 : Int))
  cond t1 (
    cond whole (
      cond point (
        cond text (
          let t2 := (b0.2.2.2.1.length : Int)
          let t3 := decide (t2 ≤ (255 : Int))
          k1 t3) (
          k1 false)) (
        k1 false)) (
      k1 false)) (
    k1 false)
noncomputable def ref04May.j3 (fu : Nat) (k1 : Bool → Option (Bool × Unit)) (whole : Bool) (point : Bool) (b0 : S0) : Option (Bool × Unit) :=
  let t1 := b0.2.2.2.1 == ([] : List Int)
  cond t1 (
    ref04May.j4 fu (fun vq3 => 
        k1 vq3) whole point true b0) (
    ref04May.j4 fu (fun vq4 => 
        k1 vq4) whole point (b0.1 == (3 : Int)) b0)
noncomputable def ref04May.j2 (fu : Nat) (k1 : Bool → Option (Bool × Unit)) (whole : Bool) (b0 : S0) : Option (Bool × Unit) :=
  (extBits.f fu (b0.2.2.1, ())).bind fun r1 =>
  cond (r1.1 == (0 : Int)) (
    ref04May.j3 fu (fun vq5 => 
        k1 vq5) whole true b0) (
    ref04May.j3 fu (fun vq6 => 
        k1 vq6) whole (b0.1 == (2 : Int)) b0)
noncomputable def ref04May (fu : Nat) (v : S0) : Option (Bool × Unit) :=
  cond (v.2.1 == (0 : Int)) (
    ref04May.j2 fu (fun vq1 => 
        some (vq1, ())) true v) (
    ref04May.j2 fu (fun vq2 => 
        some (vq2, ())) (v.1 == (1 : Int)) v)

noncomputable def ref04May.body : Code := Try.f60.body.getD .skip
abbrev ref04May.shj4 : Shp := ⟨[.u, .p 0 0, .u, .d .bool, .d .bool, .d .bool, .u, .u, .u, .u, .u, .u, .u, .u, .u, .u, .u, .u, .u, .u, .u, .u, .u, .u, .u, .u, .u, .u, .u, .u, .u, .u, .u, .u, .u, .u, .u, .u, .u, .u, .u, .u, .u, .u, .u, .u, .u, .u, .u], [.c [.g kS0]]⟩
abbrev ref04May.outj4e1 : Shp := ⟨[.u, .u, .d .bool, .u, .u, .u, .u, .u, .u, .u, .u, .u, .u, .u, .u, .u, .u, .u, .u, .u, .u, .u, .u, .u, .u, .u, .u, .u, .u, .u, .u, .u, .u, .u, .u, .u, .u, .u, .u, .u, .u, .u, .u, .u, .u, .u, .u, .u, .u], []⟩
noncomputable def ref04May.nmj4 : Norm := ⟨{ keep := [1, 3, 4, 5], shut := [(3, .bool), (4, .bool), (5, .bool)], retag := [], heap := 1, dead := [], cshut := [(0, 0, (.int .u8)), (0, 1, (.int .i64)), (0, 2, .flt), (0, 3, .str)], cretag := [] }, [(1, { keep := [2], shut := [(2, .bool)], retag := [], heap := 0, dead := [], cshut := [], cretag := [] })]⟩
abbrev ref04May.shj3 : Shp := ⟨[.u, .p 0 0, .u, .d .bool, .d .bool, .u, .u, .u, .u, .u, .u, .u, .u, .u, .u, .u, .u, .u, .u, .u, .u, .u, .u, .u, .u, .u, .u, .u, .u, .u, .u, .u, .u, .u, .u, .u, .u, .u, .u, .u, .u, .u, .u, .u, .u, .u, .u, .u, .u], [.c [.g kS0]]⟩
abbrev ref04May.outj3e1 : Shp := ⟨[.u, .u, .d .bool, .u, .u, .u, .u, .u, .u, .u, .u, .u, .u, .u, .u, .u, .u, .u, .u, .u, .u, .u, .u, .u, .u, .u, .u, .u, .u, .u, .u, .u, .u, .u, .u, .u, .u, .u, .u, .u, .u, .u, .u, .u, .u, .u, .u, .u, .u], []⟩
noncomputable def ref04May.nmj3 : Norm := ⟨{ keep := [1, 3, 4], shut := [(3, .bool), (4, .bool)], retag := [], heap := 1, dead := [], cshut := [(0, 0, (.int .u8)), (0, 1, (.int .i64)), (0, 2, .flt), (0, 3, .str)], cretag := [] }, [(1, { keep := [2], shut := [(2, .bool)], retag := [], heap := 0, dead := [], cshut := [], cretag := [] })]⟩
abbrev ref04May.shj2 : Shp := ⟨[.u, .p 0 0, .u, .d .bool, .u, .u, .u, .u, .u, .u, .u, .u, .u, .u, .u, .u, .u, .u, .u, .u, .u, .u, .u, .u, .u, .u, .u, .u, .u, .u, .u, .u, .u, .u, .u, .u, .u, .u, .u, .u, .u, .u, .u, .u, .u, .u, .u, .u, .u], [.c [.g kS0]]⟩
abbrev ref04May.outj2e1 : Shp := ⟨[.u, .u, .d .bool, .u, .u, .u, .u, .u, .u, .u, .u, .u, .u, .u, .u, .u, .u, .u, .u, .u, .u, .u, .u, .u, .u, .u, .u, .u, .u, .u, .u, .u, .u, .u, .u, .u, .u, .u, .u, .u, .u, .u, .u, .u, .u, .u, .u, .u, .u], []⟩
noncomputable def ref04May.nmj2 : Norm := ⟨{ keep := [1, 3], shut := [(3, .bool)], retag := [], heap := 1, dead := [], cshut := [(0, 0, (.int .u8)), (0, 1, (.int .i64)), (0, 2, .flt), (0, 3, .str)], cretag := [] }, [(1, { keep := [2], shut := [(2, .bool)], retag := [], heap := 0, dead := [], cshut := [], cretag := [] })]⟩
noncomputable def ref04May.con : Con := { ps := [kS0], rs := [.bool], f := fun n x => ref04May n x.1 }
noncomputable def ref04May.env : Env := { tys := [(34, ⟨kS0, 40⟩), (4, ⟨.bool, 1⟩), (2, ⟨(.int .i64), 8⟩), (5, ⟨(.int .u8), 1⟩), (32, ⟨.flt, 8⟩), (9, ⟨.str, 16⟩)], elems := [], ptrs := [], cons := [(92, extBits)], objs := [], loops := [], cuts := [(4, ref04May.nmj4), (3, ref04May.nmj3), (2, ref04May.nmj2)], globs := globs, base := 0 }
noncomputable def ref04May.lp (n : Nat) : LP (Kd.struct ref04May.con.rs).T := fun lo κ body nm K s =>
  cond (!lo && Nat.beq κ 4)
    (match ref04May.shj4.dec s with
    | some v => ref04May.j4 n (fun w0 => K .ret (ref04May.outj4e1.enc (w0, ()))) v.1 v.2.1 v.2.2.1 v.2.2.2.1
    | none => loops n (Kd.struct ref04May.con.rs).T lo κ body nm K s)
    (cond (!lo && Nat.beq κ 3)
    (match ref04May.shj3.dec s with
    | some v => ref04May.j3 n (fun w0 => K .ret (ref04May.outj3e1.enc (w0, ()))) v.1 v.2.1 v.2.2.1
    | none => loops n (Kd.struct ref04May.con.rs).T lo κ body nm K s)
    (cond (!lo && Nat.beq κ 2)
    (match ref04May.shj2.dec s with
    | some v => ref04May.j2 n (fun w0 => K .ret (ref04May.outj2e1.enc (w0, ()))) v.1 v.2.1
    | none => loops n (Kd.struct ref04May.con.rs).T lo κ body nm K s)
    (loops n (Kd.struct ref04May.con.rs).T lo κ body nm K s)))
theorem ref04May.atj4 (n : Nat) (s : St) (K : Ex → St → Option (Kd.struct ref04May.con.rs).T) : ref04May.lp n false 4 (evK ref04May.env (ref04May.lp n) n (sub [1, 1, 1, 1] ref04May.body)) ref04May.nmj4 K s = loops n (Kd.struct ref04May.con.rs).T false 4 (evK ref04May.env (ref04May.lp n) n (sub [1, 1, 1, 1] ref04May.body)) ref04May.nmj4 K s := by
  show (match ref04May.shj4.dec s with | some v => ref04May.j4 n (fun w0 => K .ret (ref04May.outj4e1.enc (w0, ()))) v.1 v.2.1 v.2.2.1 v.2.2.2.1 | none => loops n (Kd.struct ref04May.con.rs).T false 4 (evK ref04May.env (ref04May.lp n) n (sub [1, 1, 1, 1] ref04May.body)) ref04May.nmj4 K s) = _
  cases h : ref04May.shj4.dec s with
  | none => rfl
  | some v =>
    rw [Shp.dec_enc h]
    kernel_rfl
theorem ref04May.atj3 (n : Nat) (s : St) (K : Ex → St → Option (Kd.struct ref04May.con.rs).T) : ref04May.lp n false 3 (evK ref04May.env (ref04May.lp n) n (sub [1, 1, 1] ref04May.body)) ref04May.nmj3 K s = loops n (Kd.struct ref04May.con.rs).T false 3 (evK ref04May.env (ref04May.lp n) n (sub [1, 1, 1] ref04May.body)) ref04May.nmj3 K s := by
  show (match ref04May.shj3.dec s with | some v => ref04May.j3 n (fun w0 => K .ret (ref04May.outj3e1.enc (w0, ()))) v.1 v.2.1 v.2.2.1 | none => loops n (Kd.struct ref04May.con.rs).T false 3 (evK ref04May.env (ref04May.lp n) n (sub [1, 1, 1] ref04May.body)) ref04May.nmj3 K s) = _
  cases h : ref04May.shj3.dec s with
  | none => rfl
  | some v =>
    rw [Shp.dec_enc h]
    kernel_rfl
theorem ref04May.atj2 (n : Nat) (s : St) (K : Ex → St → Option (Kd.struct ref04May.con.rs).T) : ref04May.lp n false 2 (evK ref04May.env (ref04May.lp n) n (sub [1, 1] ref04May.body)) ref04May.nmj2 K s = loops n (Kd.struct ref04May.con.rs).T false 2 (evK ref04May.env (ref04May.lp n) n (sub [1, 1] ref04May.body)) ref04May.nmj2 K s := by
  show (match ref04May.shj2.dec s with | some v => ref04May.j2 n (fun w0 => K .ret (ref04May.outj2e1.enc (w0, ()))) v.1 v.2.1 | none => loops n (Kd.struct ref04May.con.rs).T false 2 (evK ref04May.env (ref04May.lp n) n (sub [1, 1] ref04May.body)) ref04May.nmj2 K s) = _
  cases h : ref04May.shj2.dec s with
  | none => rfl
  | some v =>
    rw [Shp.dec_enc h]
    kernel_rfl
theorem ref04May.eq (n : Nat) (x : (Kd.struct ref04May.con.ps).T) : evFunc ref04May.env Try.f60 ref04May.body ref04May.con.ps ref04May.con.rs (ref04May.lp n) n x = ref04May.con.f n x := by kernel_rfl
theorem ref04May.sound : Sound Try.prog globs 60 ref04May.con :=
  sound_by (E := ref04May.env) (c := ref04May.body) (envOk (G := globs) (lc := [(92, extBits)]) (lo := []) (envB_spec (by kernel_rfl)) rfl rfl ⟨.inr (extBits_ok Try.func92 (by kernel_rfl) (by kernel_rfl) (by kernel_rfl) (by kernel_rfl)), trivial⟩ rfl trivial (by kernel_rfl) (by kernel_rfl)) Try.func60 (by kernel_rfl) ref04May.lp (l := [(false, sub [1, 1, 1, 1] ref04May.body, ref04May.nmj4), (false, sub [1, 1, 1] ref04May.body, ref04May.nmj3), (false, sub [1, 1] ref04May.body, ref04May.nmj2)]) (by kernel_rfl) (fun n => ⟨ref04May.atj4 n, ⟨ref04May.atj3 n, ⟨ref04May.atj2 n, trivial⟩⟩⟩) ref04May.eq
noncomputable def ref05May.b2 (fu : Nat) (next : Int → Int → S1 → Option (Bool × Unit)) (k1 : Bool → Option (Bool × Unit)) (k2 : S1 → Option (Bool × Unit)) (v : Int) (vx2 : Int) (b0 : S1) : Option (Bool × Unit) :=
  cond (decide (vx2 < v)) (
    chk (ixOk b0.2.1 vx2) <|
    let e1 := ixL ((0 : Int), (0 : Int), (0 : Nat), [], ()) b0.2.1 vx2
    (ref04May fu e1).bind fun r2 =>
    cond (!r2.1) (
      k1 false) (
      let t3 := IntKind.i64.wrap (vx2 + (1 : Int))
      next v t3 b0)) (
    k2 b0)
noncomputable def ref05May.l2 (fu : Nat) (k1 : Bool → Option (Bool × Unit)) (k2 : S1 → Option (Bool × Unit)) : Nat → Int → Int → S1 → Option (Bool × Unit)
  | 0, _, _, _ => none
  | m + 1, v, vx2, b0 => ref05May.b2 fu (ref05May.l2 fu k1 k2 m) k1 k2 v vx2 b0
noncomputable def ref05May (fu : Nat) (ev : S1) : Option (Bool × Unit) :=
  ref05May.l2 fu (fun vq3 => 
      some (vq3, ())) (fun b0q4 => 
      let t1 := decide ((b0q4.2.1.length : Int) ≤ (8 : Int))
      some (t1, ())) fu (ev.2.1.length : Int) (0 : Int) ev

noncomputable def ref05May.body : Code := Try.f23.body.getD .skip
abbrev ref05May.shl2 : Shp := ⟨[.u, .p 0 0, .u, .u, .u, .u, .d (.int .i64), .d (.int .i64), .u, .u, .u, .u, .u, .u, .u, .u, .u, .u, .u, .u, .u, .u], [.c [.g kS1]]⟩
abbrev ref05May.outl2e1 : Shp := ⟨[.u, .u, .d .bool, .u, .u, .u, .u, .u, .u, .u, .u, .u, .u, .u, .u, .u, .u, .u, .u, .u, .u, .u], []⟩
abbrev ref05May.outl2e2 : Shp := ⟨[.u, .p 0 0, .u, .u, .u, .u, .u, .u, .u, .u, .u, .u, .u, .u, .u, .u, .u, .u, .u, .u, .u, .u], [.c [.g kS1]]⟩
noncomputable def ref05May.nml2 : Norm := ⟨{ keep := [1, 6, 7], shut := [(6, (.int .i64)), (7, (.int .i64))], retag := [], heap := 1, dead := [], cshut := [(0, 0, (.int .u8)), (0, 1, (.slice kS0))], cretag := [] }, [(1, { keep := [2], shut := [(2, .bool)], retag := [], heap := 0, dead := [], cshut := [], cretag := [] }), (2, { keep := [1], shut := [], retag := [], heap := 1, dead := [], cshut := [(0, 0, (.int .u8)), (0, 1, (.slice kS0))], cretag := [] })]⟩
noncomputable def ref05May.con : Con := { ps := [kS1], rs := [.bool], f := fun n x => ref05May n x.1 }
noncomputable def ref05May.env : Env := { tys := [(27, ⟨kS1, 32⟩), (4, ⟨.bool, 1⟩), (25, ⟨(.slice kS0), 24⟩), (34, ⟨kS0, 40⟩), (3, ⟨(.int .i64), 8⟩)], elems := [(25, 34)], ptrs := [], cons := [(60, ref04May.con)], objs := [], loops := [(2, ref05May.nml2)], cuts := [], globs := globs, base := 0 }
noncomputable def ref05May.lp (n : Nat) : LP (Kd.struct ref05May.con.rs).T := fun lo κ body nm K s =>
  cond (lo && Nat.beq κ 2)
    (match ref05May.shl2.dec s with
    | some v => ref05May.l2 n (fun w0 => K .ret (ref05May.outl2e1.enc (w0, ()))) (fun w0 => K (.exit 0) (ref05May.outl2e2.enc (w0, ()))) n v.1 v.2.1 v.2.2.1
    | none => loops n (Kd.struct ref05May.con.rs).T lo κ body nm K s)
    (loops n (Kd.struct ref05May.con.rs).T lo κ body nm K s)
theorem ref05May.atl2 (n : Nat) (s : St) (K : Ex → St → Option (Kd.struct ref05May.con.rs).T) : ref05May.lp n true 2 (evK ref05May.env (ref05May.lp n) n (sub [1, 0, 1, 0, 0] ref05May.body)) ref05May.nml2 K s = loops n (Kd.struct ref05May.con.rs).T true 2 (evK ref05May.env (ref05May.lp n) n (sub [1, 0, 1, 0, 0] ref05May.body)) ref05May.nml2 K s := by
  show (match ref05May.shl2.dec s with | some v => ref05May.l2 n (fun w0 => K .ret (ref05May.outl2e1.enc (w0, ()))) (fun w0 => K (.exit 0) (ref05May.outl2e2.enc (w0, ()))) n v.1 v.2.1 v.2.2.1 | none => loops n (Kd.struct ref05May.con.rs).T true 2 (evK ref05May.env (ref05May.lp n) n (sub [1, 0, 1, 0, 0] ref05May.body)) ref05May.nml2 K s) = _
  cases h : ref05May.shl2.dec s with
  | none => rfl
  | some v =>
    rw [Shp.dec_enc h]
    exact (evLoop_eq (sh := ref05May.shl2) (body := evK ref05May.env (ref05May.lp n) n (sub [1, 0, 1, 0, 0] ref05May.body)) (nm := ref05May.nml2) (K := K) (b := fun nx v => ref05May.b2 n (fun x0 x1 x2 => nx (x0, x1, x2, ())) (fun w0 => K .ret (ref05May.outl2e1.enc (w0, ()))) (fun w0 => K (.exit 0) (ref05May.outl2e2.enc (w0, ()))) v.1 v.2.1 v.2.2.1) (l := fun m v => ref05May.l2 n (fun w0 => K .ret (ref05May.outl2e1.enc (w0, ()))) (fun w0 => K (.exit 0) (ref05May.outl2e2.enc (w0, ()))) m v.1 v.2.1 v.2.2.1) (fun _ => rfl) (fun _ _ => rfl) (fun m v => by kernel_rfl) n v).symm
theorem ref05May.eq (n : Nat) (x : (Kd.struct ref05May.con.ps).T) : evFunc ref05May.env Try.f23 ref05May.body ref05May.con.ps ref05May.con.rs (ref05May.lp n) n x = ref05May.con.f n x := by kernel_rfl
theorem ref05May.sound : Sound Try.prog globs 23 ref05May.con :=
  sound_by (E := ref05May.env) (c := ref05May.body) (envOk (G := globs) (lc := [(60, ref04May.con)]) (lo := []) (envB_spec (by kernel_rfl)) rfl rfl ⟨.inl ⟨ref04May.sound, by kernel_rfl⟩, trivial⟩ rfl trivial (by kernel_rfl) (by kernel_rfl)) Try.func23 (by kernel_rfl) ref05May.lp (l := [(true, sub [1, 0, 1, 0, 0] ref05May.body, ref05May.nml2)]) (by kernel_rfl) (fun n => ⟨ref05May.atl2 n, trivial⟩) ref05May.eq
noncomputable def ref03PutDat.b3 (fu : Nat) (next : Int → (List Int) → Option ((List Int) × Unit)) (k2 : Int → (List Int) → Option ((List Int) × Unit)) (n : Int) (out : List Int) : Option ((List Int) × Unit) :=
  cond (decide (n ≥ (128 : Int))) (
    let t1 := IntKind.u64.wrap (Int.tmod n (128 : Int) + (128 : Int))
    chk (apOk out ([IntKind.u8.wrap t1]) 1) <|
    let t2 := out ++ ([IntKind.u8.wrap t1])
    let t3 := IntKind.u64.wrap (Int.tdiv n (128 : Int))
    next t3 t2) (
    k2 n out)
noncomputable def ref03PutDat.l3 (fu : Nat) (k2 : Int → (List Int) → Option ((List Int) × Unit)) : Nat → Int → (List Int) → Option ((List Int) × Unit)
  | 0, _, _ => none
  | m + 1, n, out => ref03PutDat.b3 fu (ref03PutDat.l3 fu k2 m) k2 n out
noncomputable def ref03PutDat (fu : Nat) (b : List Int) (n : Int) : Option ((List Int) × Unit) :=
  chk (apOk [] b 1) <|
  ref03PutDat.l3 fu (fun nq2 outq2 => 
      chk (apOk outq2 ([IntKind.u8.wrap nq2]) 1) <|
      let t1 := outq2 ++ ([IntKind.u8.wrap nq2])
      some (t1, ())) fu n ([] ++ b)

noncomputable def ref03PutDat.body : Code := Try.f62.body.getD .skip
abbrev ref03PutDat.shl3 : Shp := ⟨[.u, .d (.int .u64), .u, .u, .u, .o 5 (.int .u8), .u, .u, .u, .u, .u, .u, .u, .u, .u, .u, .u, .u, .u, .u, .u, .u, .u, .u, .u, .u], []⟩
abbrev ref03PutDat.outl3e2 : Shp := ⟨[.u, .d (.int .u64), .u, .u, .u, .o 5 (.int .u8), .u, .u, .u, .u, .u, .u, .u, .u, .u, .u, .u, .u, .u, .u, .u, .u, .u, .u, .u, .u], []⟩
noncomputable def ref03PutDat.nml3 : Norm := ⟨{ keep := [1, 5], shut := [(1, (.int .u64))], retag := [(5, 5, (.int .u8))], heap := 0, dead := [], cshut := [], cretag := [] }, [(2, { keep := [1, 5], shut := [(1, (.int .u64))], retag := [(5, 5, (.int .u8))], heap := 0, dead := [], cshut := [], cretag := [] })]⟩
noncomputable def ref03PutDat.con : Con := { ps := [(.slice (.int .u8)), (.int .u64)], rs := [(.slice (.int .u8))], f := fun n x => ref03PutDat n x.1 x.2.1 }
noncomputable def ref03PutDat.env : Env := { tys := [(38, ⟨(.slice (.int .u8)), 24⟩), (5, ⟨(.int .u8), 1⟩), (51, ⟨(.int .u64), 8⟩)], elems := [(38, 5)], ptrs := [], cons := [], objs := [], loops := [(3, ref03PutDat.nml3)], cuts := [], globs := globs, base := 0 }
noncomputable def ref03PutDat.lp (n : Nat) : LP (Kd.struct ref03PutDat.con.rs).T := fun lo κ body nm K s =>
  cond (lo && Nat.beq κ 3)
    (match ref03PutDat.shl3.dec s with
    | some v => ref03PutDat.l3 n (fun w0 w1 => K (.exit 0) (ref03PutDat.outl3e2.enc (w0, w1, ()))) n v.1 v.2.1
    | none => loops n (Kd.struct ref03PutDat.con.rs).T lo κ body nm K s)
    (loops n (Kd.struct ref03PutDat.con.rs).T lo κ body nm K s)
theorem ref03PutDat.atl3 (n : Nat) (s : St) (K : Ex → St → Option (Kd.struct ref03PutDat.con.rs).T) : ref03PutDat.lp n true 3 (evK ref03PutDat.env (ref03PutDat.lp n) n (sub [1, 1, 1, 0, 0, 0] ref03PutDat.body)) ref03PutDat.nml3 K s = loops n (Kd.struct ref03PutDat.con.rs).T true 3 (evK ref03PutDat.env (ref03PutDat.lp n) n (sub [1, 1, 1, 0, 0, 0] ref03PutDat.body)) ref03PutDat.nml3 K s := by
  show (match ref03PutDat.shl3.dec s with | some v => ref03PutDat.l3 n (fun w0 w1 => K (.exit 0) (ref03PutDat.outl3e2.enc (w0, w1, ()))) n v.1 v.2.1 | none => loops n (Kd.struct ref03PutDat.con.rs).T true 3 (evK ref03PutDat.env (ref03PutDat.lp n) n (sub [1, 1, 1, 0, 0, 0] ref03PutDat.body)) ref03PutDat.nml3 K s) = _
  cases h : ref03PutDat.shl3.dec s with
  | none => rfl
  | some v =>
    rw [Shp.dec_enc h]
    exact (evLoop_eq (sh := ref03PutDat.shl3) (body := evK ref03PutDat.env (ref03PutDat.lp n) n (sub [1, 1, 1, 0, 0, 0] ref03PutDat.body)) (nm := ref03PutDat.nml3) (K := K) (b := fun nx v => ref03PutDat.b3 n (fun x0 x1 => nx (x0, x1, ())) (fun w0 w1 => K (.exit 0) (ref03PutDat.outl3e2.enc (w0, w1, ()))) v.1 v.2.1) (l := fun m v => ref03PutDat.l3 n (fun w0 w1 => K (.exit 0) (ref03PutDat.outl3e2.enc (w0, w1, ()))) m v.1 v.2.1) (fun _ => rfl) (fun _ _ => rfl) (fun m v => by kernel_rfl) n v).symm
theorem ref03PutDat.eq (n : Nat) (x : (Kd.struct ref03PutDat.con.ps).T) : evFunc ref03PutDat.env Try.f62 ref03PutDat.body ref03PutDat.con.ps ref03PutDat.con.rs (ref03PutDat.lp n) n x = ref03PutDat.con.f n x := by kernel_rfl
theorem ref03PutDat.sound : Sound Try.prog globs 62 ref03PutDat.con :=
  sound_by (E := ref03PutDat.env) (c := ref03PutDat.body) (envOk (G := globs) (lc := []) (lo := []) (envB_spec (by kernel_rfl)) rfl rfl trivial rfl trivial (by kernel_rfl) (by kernel_rfl)) Try.func62 (by kernel_rfl) ref03PutDat.lp (l := [(true, sub [1, 1, 1, 0, 0, 0] ref03PutDat.body, ref03PutDat.nml3)]) (by kernel_rfl) (fun n => ⟨ref03PutDat.atl3 n, trivial⟩) ref03PutDat.eq
noncomputable def ref03PutInt (fu : Nat) (b : List Int) (n : Int) : Option ((List Int) × Unit) :=
  cond (decide (n ≥ (0 : Int))) (
    let t1 := IntKind.u64.wrap ((2 : Int) * IntKind.u64.wrap n)
    (ref03PutDat fu b t1).bind fun r2 =>
    some (r2.1, ())) (
    let t3 := IntKind.i64.wrap (n + (1 : Int))
    let t4 := IntKind.i64.wrap (0 - t3)
    let t5 := IntKind.u64.wrap ((2 : Int) * IntKind.u64.wrap t4)
    let t6 := IntKind.u64.wrap (t5 + (1 : Int))
    (ref03PutDat fu b t6).bind fun r7 =>
    some (r7.1, ()))

noncomputable def ref03PutInt.body : Code := Try.f105.body.getD .skip
noncomputable def ref03PutInt.con : Con := { ps := [(.slice (.int .u8)), (.int .i64)], rs := [(.slice (.int .u8))], f := fun n x => ref03PutInt n x.1 x.2.1 }
noncomputable def ref03PutInt.env : Env := { tys := [(38, ⟨(.slice (.int .u8)), 24⟩), (51, ⟨(.int .u64), 8⟩), (2, ⟨(.int .i64), 8⟩)], elems := [], ptrs := [], cons := [(62, ref03PutDat.con)], objs := [], loops := [], cuts := [], globs := globs, base := 0 }
noncomputable def ref03PutInt.lp (n : Nat) : LP (Kd.struct ref03PutInt.con.rs).T := fun lo κ body nm K s =>
  loops n (Kd.struct ref03PutInt.con.rs).T lo κ body nm K s
theorem ref03PutInt.eq (n : Nat) (x : (Kd.struct ref03PutInt.con.ps).T) : evFunc ref03PutInt.env Try.f105 ref03PutInt.body ref03PutInt.con.ps ref03PutInt.con.rs (ref03PutInt.lp n) n x = ref03PutInt.con.f n x := by kernel_rfl
theorem ref03PutInt.sound : Sound Try.prog globs 105 ref03PutInt.con :=
  sound_by (E := ref03PutInt.env) (c := ref03PutInt.body) (envOk (G := globs) (lc := [(62, ref03PutDat.con)]) (lo := []) (envB_spec (by kernel_rfl)) rfl rfl ⟨.inl ⟨ref03PutDat.sound, by kernel_rfl⟩, trivial⟩ rfl trivial (by kernel_rfl) (by kernel_rfl)) Try.func105 (by kernel_rfl) ref03PutInt.lp (l := []) (by kernel_rfl) (fun n => trivial) ref03PutInt.eq
noncomputable def ref03PutReal.b6 (fu : Nat) (next : (List Int) → Int → Int → (List Int) → Option ((List Int) × Unit)) (k2 : (List Int) → (List Int) → Option ((List Int) × Unit)) (out : List Int) (n : Int) (i : Int) (c0 : List Int) : Option ((List Int) × Unit) :=
  cond (decide (i ≥ (0 : Int))) (
    let t1 := IntKind.u8.wrap (Int.tmod n (256 : Int))
    chk (ixArr 8 i) <|
    chk (nOk c0 8) <|
    let w2 := stL c0 i t1
    let t3 := IntKind.u64.wrap (Int.tdiv n (256 : Int))
    let t4 := IntKind.i64.wrap (i - (1 : Int))
    next out t3 t4 w2) (
    k2 out c0)
noncomputable def ref03PutReal.l6 (fu : Nat) (k2 : (List Int) → (List Int) → Option ((List Int) × Unit)) : Nat → (List Int) → Int → Int → (List Int) → Option ((List Int) × Unit)
  | 0, _, _, _, _ => none
  | m + 1, out, n, i, c0 => ref03PutReal.b6 fu (ref03PutReal.l6 fu k2 m) k2 out n i c0
noncomputable def ref03PutReal (fu : Nat) (b : List Int) (xv : Nat) : Option ((List Int) × Unit) :=
  chk (apOk [] b 1) <|
  (ref02Of fu xv).bind fun r1 =>
  (ref02PartsBits fu r1.1).bind fun r2 =>
  chk (mkMut (8 : Int) (8 : Int) 1) <|
  ref03PutReal.l6 fu (fun outq2 c0q2 => 
      chk (nOk c0q2 8 && apOk outq2 c0q2 1) <|
      some (outq2 ++ c0q2, ())) fu ([] ++ b) r2.1 (7 : Int) (List.replicate (8 : Int).toNat (0 : Int))

noncomputable def ref03PutReal.body : Code := Try.f106.body.getD .skip
abbrev ref03PutReal.shl6 : Shp := ⟨[.u, .u, .u, .u, .u, .o 5 (.int .u8), .d (.int .u64), .s 0 (.int .u8) 8, .d (.int .i64), .u, .u, .u, .u, .u, .u, .u, .u, .u, .u, .u, .u, .u, .u, .u, .u, .u, .u, .u, .u, .u, .u, .u], [.a (.int .u8)]⟩
abbrev ref03PutReal.outl6e2 : Shp := ⟨[.u, .u, .u, .u, .u, .o 5 (.int .u8), .u, .s 0 (.int .u8) 8, .u, .u, .u, .u, .u, .u, .u, .u, .u, .u, .u, .u, .u, .u, .u, .u, .u, .u, .u, .u, .u, .u, .u, .u], [.a (.int .u8)]⟩
noncomputable def ref03PutReal.nml6 : Norm := ⟨{ keep := [5, 6, 7, 8], shut := [(6, (.int .u64)), (8, (.int .i64))], retag := [(5, 5, (.int .u8))], heap := 1, dead := [], cshut := [], cretag := [] }, [(2, { keep := [5, 7], shut := [], retag := [(5, 5, (.int .u8))], heap := 1, dead := [], cshut := [], cretag := [] })]⟩
noncomputable def ref03PutReal.con : Con := { ps := [(.slice (.int .u8)), .flt], rs := [(.slice (.int .u8))], f := fun n x => ref03PutReal n x.1 x.2.1 }
noncomputable def ref03PutReal.env : Env := { tys := [(38, ⟨(.slice (.int .u8)), 24⟩), (5, ⟨(.int .u8), 1⟩), (3, ⟨(.int .i64), 8⟩), (51, ⟨(.int .u64), 8⟩)], elems := [(38, 5)], ptrs := [], cons := [(48, ref02Of.con), (49, ref02PartsBits.con)], objs := [], loops := [(6, ref03PutReal.nml6)], cuts := [], globs := globs, base := 0, muts := [16] }
noncomputable def ref03PutReal.lp (n : Nat) : LP (Kd.struct ref03PutReal.con.rs).T := fun lo κ body nm K s =>
  cond (lo && Nat.beq κ 6)
    (match ref03PutReal.shl6.dec s with
    | some v => ref03PutReal.l6 n (fun w0 w1 => K (.exit 0) (ref03PutReal.outl6e2.enc (w0, w1, ()))) n v.1 v.2.1 v.2.2.1 v.2.2.2.1
    | none => loops n (Kd.struct ref03PutReal.con.rs).T lo κ body nm K s)
    (loops n (Kd.struct ref03PutReal.con.rs).T lo κ body nm K s)
theorem ref03PutReal.atl6 (n : Nat) (s : St) (K : Ex → St → Option (Kd.struct ref03PutReal.con.rs).T) : ref03PutReal.lp n true 6 (evK ref03PutReal.env (ref03PutReal.lp n) n (sub [1, 1, 1, 1, 1, 0, 1, 0, 0] ref03PutReal.body)) ref03PutReal.nml6 K s = loops n (Kd.struct ref03PutReal.con.rs).T true 6 (evK ref03PutReal.env (ref03PutReal.lp n) n (sub [1, 1, 1, 1, 1, 0, 1, 0, 0] ref03PutReal.body)) ref03PutReal.nml6 K s := by
  show (match ref03PutReal.shl6.dec s with | some v => ref03PutReal.l6 n (fun w0 w1 => K (.exit 0) (ref03PutReal.outl6e2.enc (w0, w1, ()))) n v.1 v.2.1 v.2.2.1 v.2.2.2.1 | none => loops n (Kd.struct ref03PutReal.con.rs).T true 6 (evK ref03PutReal.env (ref03PutReal.lp n) n (sub [1, 1, 1, 1, 1, 0, 1, 0, 0] ref03PutReal.body)) ref03PutReal.nml6 K s) = _
  cases h : ref03PutReal.shl6.dec s with
  | none => rfl
  | some v =>
    rw [Shp.dec_enc h]
    exact (evLoop_eq (sh := ref03PutReal.shl6) (body := evK ref03PutReal.env (ref03PutReal.lp n) n (sub [1, 1, 1, 1, 1, 0, 1, 0, 0] ref03PutReal.body)) (nm := ref03PutReal.nml6) (K := K) (b := fun nx v => ref03PutReal.b6 n (fun x0 x1 x2 x3 => nx (x0, x1, x2, x3, ())) (fun w0 w1 => K (.exit 0) (ref03PutReal.outl6e2.enc (w0, w1, ()))) v.1 v.2.1 v.2.2.1 v.2.2.2.1) (l := fun m v => ref03PutReal.l6 n (fun w0 w1 => K (.exit 0) (ref03PutReal.outl6e2.enc (w0, w1, ()))) m v.1 v.2.1 v.2.2.1 v.2.2.2.1) (fun _ => rfl) (fun _ _ => rfl) (fun m v => by kernel_rfl) n v).symm
theorem ref03PutReal.eq (n : Nat) (x : (Kd.struct ref03PutReal.con.ps).T) : evFunc ref03PutReal.env Try.f106 ref03PutReal.body ref03PutReal.con.ps ref03PutReal.con.rs (ref03PutReal.lp n) n x = ref03PutReal.con.f n x := by kernel_rfl
theorem ref03PutReal.sound : Sound Try.prog globs 106 ref03PutReal.con :=
  sound_by (E := ref03PutReal.env) (c := ref03PutReal.body) (envOk (G := globs) (lc := [(48, ref02Of.con), (49, ref02PartsBits.con)]) (lo := []) (envB_spec (by kernel_rfl)) rfl rfl ⟨.inl ⟨ref02Of.sound, by kernel_rfl⟩, ⟨.inl ⟨ref02PartsBits.sound, by kernel_rfl⟩, trivial⟩⟩ rfl trivial (by kernel_rfl) (by kernel_rfl)) Try.func106 (by kernel_rfl) ref03PutReal.lp (l := [(true, sub [1, 1, 1, 1, 1, 0, 1, 0, 0] ref03PutReal.body, ref03PutReal.nml6)]) (by kernel_rfl) (fun n => ⟨ref03PutReal.atl6 n, trivial⟩) ref03PutReal.eq
noncomputable def ref03Put.b3 (fu : Nat) (next : Int → (List Int) → Option (((List Int) × Unit) × (Unit))) (k2 : Int → (List Int) → Option (((List Int) × Unit) × (Unit))) (n : Int) (out : List Int) : Option (((List Int) × Unit) × (Unit)) :=
  cond (decide (n ≥ (128 : Int))) (
    let t1 := IntKind.u64.wrap (Int.tmod n (128 : Int) + (128 : Int))
    chk (apOk out ([IntKind.u8.wrap t1]) 1) <|
    let t2 := out ++ ([IntKind.u8.wrap t1])
    let t3 := IntKind.u64.wrap (Int.tdiv n (128 : Int))
    next t3 t2) (
    k2 n out)
noncomputable def ref03Put.l3 (fu : Nat) (k2 : Int → (List Int) → Option (((List Int) × Unit) × (Unit))) : Nat → Int → (List Int) → Option (((List Int) × Unit) × (Unit))
  | 0, _, _ => none
  | m + 1, n, out => ref03Put.b3 fu (ref03Put.l3 fu k2 m) k2 n out
noncomputable def ref03Put (fu : Nat) (b : List Int) (n : Int) : Option (((List Int) × Unit) × (Unit)) :=
  chk (apOk [] b 1) <|
  ref03Put.l3 fu (fun nq2 outq2 => 
      chk (apOk outq2 ([IntKind.u8.wrap nq2]) 1) <|
      let t1 := outq2 ++ ([IntKind.u8.wrap nq2])
      some ((t1, ()), (()))) fu n ([] ++ b)

noncomputable def ref03Put.body : Code := Try.f62.body.getD .skip
abbrev ref03Put.shl3 : Shp := ⟨[.u, .d (.int .u64), .u, .u, .u, .o 5 (.int .u8), .u, .u, .u, .u, .u, .u, .u, .u, .u, .u, .u, .u, .u, .u, .u, .u, .u, .u, .u, .u], []⟩
abbrev ref03Put.outl3e2 : Shp := ⟨[.u, .d (.int .u64), .u, .u, .u, .o 5 (.int .u8), .u, .u, .u, .u, .u, .u, .u, .u, .u, .u, .u, .u, .u, .u, .u, .u, .u, .u, .u, .u], []⟩
noncomputable def ref03Put.nml3 : Norm := ⟨{ keep := [1, 5], shut := [(1, (.int .u64))], retag := [(5, 5, (.int .u8))], heap := 0, dead := [], cshut := [], cretag := [] }, [(2, { keep := [1, 5], shut := [(1, (.int .u64))], retag := [(5, 5, (.int .u8))], heap := 0, dead := [], cshut := [], cretag := [] })]⟩
noncomputable def ref03Put.con : OCon := { ps := [.dat (.slice (.int .u8)), .dat (.int .u64)], rs := [.own (.int .u8)], f := fun n x => ref03Put n x.1 x.2.1 }
noncomputable def ref03Put.env : Env := { tys := [(38, ⟨(.slice (.int .u8)), 24⟩), (5, ⟨(.int .u8), 1⟩), (51, ⟨(.int .u64), 8⟩)], elems := [(38, 5)], ptrs := [], cons := [], objs := [], loops := [(3, ref03Put.nml3)], cuts := [], globs := globs, base := 0 }
noncomputable def ref03Put.lp (n : Nat) : LP (RT ref03Put.con.rs × BT ref03Put.con.ps) := fun lo κ body nm K s =>
  cond (lo && Nat.beq κ 3)
    (match ref03Put.shl3.dec s with
    | some v => ref03Put.l3 n (fun w0 w1 => K (.exit 0) (ref03Put.outl3e2.enc (w0, w1, ()))) n v.1 v.2.1
    | none => loops n (RT ref03Put.con.rs × BT ref03Put.con.ps) lo κ body nm K s)
    (loops n (RT ref03Put.con.rs × BT ref03Put.con.ps) lo κ body nm K s)
theorem ref03Put.atl3 (n : Nat) (s : St) (K : Ex → St → Option (RT ref03Put.con.rs × BT ref03Put.con.ps)) : ref03Put.lp n true 3 (evK ref03Put.env (ref03Put.lp n) n (sub [1, 1, 1, 0, 0, 0] ref03Put.body)) ref03Put.nml3 K s = loops n (RT ref03Put.con.rs × BT ref03Put.con.ps) true 3 (evK ref03Put.env (ref03Put.lp n) n (sub [1, 1, 1, 0, 0, 0] ref03Put.body)) ref03Put.nml3 K s := by
  show (match ref03Put.shl3.dec s with | some v => ref03Put.l3 n (fun w0 w1 => K (.exit 0) (ref03Put.outl3e2.enc (w0, w1, ()))) n v.1 v.2.1 | none => loops n (RT ref03Put.con.rs × BT ref03Put.con.ps) true 3 (evK ref03Put.env (ref03Put.lp n) n (sub [1, 1, 1, 0, 0, 0] ref03Put.body)) ref03Put.nml3 K s) = _
  cases h : ref03Put.shl3.dec s with
  | none => rfl
  | some v =>
    rw [Shp.dec_enc h]
    exact (evLoop_eq (sh := ref03Put.shl3) (body := evK ref03Put.env (ref03Put.lp n) n (sub [1, 1, 1, 0, 0, 0] ref03Put.body)) (nm := ref03Put.nml3) (K := K) (b := fun nx v => ref03Put.b3 n (fun x0 x1 => nx (x0, x1, ())) (fun w0 w1 => K (.exit 0) (ref03Put.outl3e2.enc (w0, w1, ()))) v.1 v.2.1) (l := fun m v => ref03Put.l3 n (fun w0 w1 => K (.exit 0) (ref03Put.outl3e2.enc (w0, w1, ()))) m v.1 v.2.1) (fun _ => rfl) (fun _ _ => rfl) (fun m v => by kernel_rfl) n v).symm
theorem ref03Put.eq (n : Nat) (x : PT ref03Put.con.ps) : evFuncO ref03Put.env Try.f62 ref03Put.body ref03Put.con.ps ref03Put.con.rs (ref03Put.lp n) n x = ref03Put.con.f n x := by kernel_rfl
theorem ref03Put.sound : SoundO Try.prog globs 62 ref03Put.con :=
  sound_byO (E := ref03Put.env) (c := ref03Put.body) (envOk (G := globs) (lc := []) (lo := []) (envB_spec (by kernel_rfl)) rfl rfl trivial rfl trivial (by kernel_rfl) (by kernel_rfl)) Try.func62 (by kernel_rfl) (by kernel_rfl) (by kernel_rfl) ref03Put.lp (l := [(true, sub [1, 1, 1, 0, 0, 0] ref03Put.body, ref03Put.nml3)]) (by kernel_rfl) (fun n => ⟨ref03Put.atl3 n, trivial⟩) ref03Put.eq
noncomputable def ref03PutText (fu : Nat) (b : List Int) (sv : List Int) : Option ((List Int) × Unit) :=
  let t1 := IntKind.u64.wrap (sv.length : Int)
  (ref03Put fu b t1).bind fun r2 =>
  chk (apOk r2.1.1 sv 1) <|
  some (r2.1.1 ++ sv, ())

noncomputable def ref03PutText.body : Code := Try.f107.body.getD .skip
noncomputable def ref03PutText.con : Con := { ps := [(.slice (.int .u8)), .str], rs := [(.slice (.int .u8))], f := fun n x => ref03PutText n x.1 x.2.1 }
noncomputable def ref03PutText.env : Env := { tys := [(38, ⟨(.slice (.int .u8)), 24⟩), (9, ⟨.str, 16⟩), (51, ⟨(.int .u64), 8⟩), (3, ⟨(.int .i64), 8⟩), (5, ⟨(.int .u8), 1⟩)], elems := [(38, 5)], ptrs := [], cons := [], objs := [(62, [ref03Put.con])], loops := [], cuts := [], globs := globs, base := 0 }
noncomputable def ref03PutText.lp (n : Nat) : LP (Kd.struct ref03PutText.con.rs).T := fun lo κ body nm K s =>
  loops n (Kd.struct ref03PutText.con.rs).T lo κ body nm K s
theorem ref03PutText.eq (n : Nat) (x : (Kd.struct ref03PutText.con.ps).T) : evFunc ref03PutText.env Try.f107 ref03PutText.body ref03PutText.con.ps ref03PutText.con.rs (ref03PutText.lp n) n x = ref03PutText.con.f n x := by kernel_rfl
theorem ref03PutText.sound : Sound Try.prog globs 107 ref03PutText.con :=
  sound_by (E := ref03PutText.env) (c := ref03PutText.body) (envOk (G := globs) (lc := []) (lo := [(62, [ref03Put.con])]) (envB_spec (by kernel_rfl)) rfl rfl trivial rfl ⟨⟨⟨ref03Put.sound, trivial⟩, by kernel_rfl⟩, trivial⟩ (by kernel_rfl) (by kernel_rfl)) Try.func107 (by kernel_rfl) ref03PutText.lp (l := []) (by kernel_rfl) (fun n => trivial) ref03PutText.eq
noncomputable def ref04Put (fu : Nat) (b : List Int) (v : S0) : Option ((List Int) × Int × Unit) :=
  (ref04May fu v).bind fun r1 =>
  cond (!r1.1) (
    some ([], (1 : Int), ())) (
    chk (apOk [] b 1) <|
    chk (apOk ([] ++ b) ([v.1]) 1) <|
    cond (v.1 == (1 : Int)) (
      (ref03PutInt fu (([] ++ b) ++ ([v.1])) v.2.1).bind fun r2 =>
      some (r2.1, (0 : Int), ())) (
      cond (v.1 == (2 : Int)) (
        (ref03PutReal fu (([] ++ b) ++ ([v.1])) v.2.2.1).bind fun r3 =>
        some (r3.1, (0 : Int), ())) (
        cond (v.1 == (3 : Int)) (
          (ref03PutText fu (([] ++ b) ++ ([v.1])) v.2.2.2.1).bind fun r4 =>
          some (r4.1, (0 : Int), ())) (
          some (([] ++ b) ++ ([v.1]), (0 : Int), ())))))

noncomputable def ref04Put.body : Code := Try.f56.body.getD .skip
noncomputable def ref04Put.con : Con := { ps := [(.slice (.int .u8)), kS0], rs := [(.slice (.int .u8)), (.int .i64)], f := fun n x => ref04Put n x.1 x.2.1 }
noncomputable def ref04Put.env : Env := { tys := [(34, ⟨kS0, 40⟩), (38, ⟨(.slice (.int .u8)), 24⟩), (3, ⟨(.int .i64), 8⟩), (5, ⟨(.int .u8), 1⟩), (2, ⟨(.int .i64), 8⟩), (32, ⟨.flt, 8⟩), (9, ⟨.str, 16⟩)], elems := [(38, 5)], ptrs := [], cons := [(60, ref04May.con), (105, ref03PutInt.con), (106, ref03PutReal.con), (107, ref03PutText.con)], objs := [], loops := [], cuts := [], globs := globs, base := 0 }
noncomputable def ref04Put.lp (n : Nat) : LP (Kd.struct ref04Put.con.rs).T := fun lo κ body nm K s =>
  loops n (Kd.struct ref04Put.con.rs).T lo κ body nm K s
theorem ref04Put.eq (n : Nat) (x : (Kd.struct ref04Put.con.ps).T) : evFunc ref04Put.env Try.f56 ref04Put.body ref04Put.con.ps ref04Put.con.rs (ref04Put.lp n) n x = ref04Put.con.f n x := by kernel_rfl
theorem ref04Put.sound : Sound Try.prog globs 56 ref04Put.con :=
  sound_by (E := ref04Put.env) (c := ref04Put.body) (envOk (G := globs) (lc := [(60, ref04May.con), (105, ref03PutInt.con), (106, ref03PutReal.con), (107, ref03PutText.con)]) (lo := []) (envB_spec (by kernel_rfl)) rfl rfl ⟨.inl ⟨ref04May.sound, by kernel_rfl⟩, ⟨.inl ⟨ref03PutInt.sound, by kernel_rfl⟩, ⟨.inl ⟨ref03PutReal.sound, by kernel_rfl⟩, ⟨.inl ⟨ref03PutText.sound, by kernel_rfl⟩, trivial⟩⟩⟩⟩ rfl trivial (by kernel_rfl) (by kernel_rfl)) Try.func56 (by kernel_rfl) ref04Put.lp (l := []) (by kernel_rfl) (fun n => trivial) ref04Put.eq
noncomputable def ref05Put.b7 (fu : Nat) (next : (List Int) → Int → Int → S1 → Option ((List Int) × Int × Unit)) (k2 : (List Int) → Option ((List Int) × Int × Unit)) (out : List Int) (v : Int) (vx2 : Int) (b0 : S1) : Option ((List Int) × Int × Unit) :=
  cond (decide (vx2 < v)) (
    chk (ixOk b0.2.1 vx2) <|
    let e1 := ixL ((0 : Int), (0 : Int), (0 : Nat), [], ()) b0.2.1 vx2
    (ref04Put fu out e1).bind fun r2 =>
    let t3 := IntKind.i64.wrap (vx2 + (1 : Int))
    next r2.1 v t3 b0) (
    k2 out)
noncomputable def ref05Put.l7 (fu : Nat) (k2 : (List Int) → Option ((List Int) × Int × Unit)) : Nat → (List Int) → Int → Int → S1 → Option ((List Int) × Int × Unit)
  | 0, _, _, _, _ => none
  | m + 1, out, v, vx2, b0 => ref05Put.b7 fu (ref05Put.l7 fu k2 m) k2 out v vx2 b0
noncomputable def ref05Put (fu : Nat) (b : List Int) (ev : S1) : Option ((List Int) × Int × Unit) :=
  (ref05May fu ev).bind fun r1 =>
  cond (!r1.1) (
    some ([], (1 : Int), ())) (
    chk (apOk [] b 1) <|
    let t2 := IntKind.u8.wrap (ev.2.1.length : Int)
    chk (apOk ([] ++ b) ([ev.1, t2]) 1) <|
    let t3 := ([] ++ b) ++ ([ev.1, t2])
    ref05Put.l7 fu (fun outq2 => 
        some (outq2, (0 : Int), ())) fu t3 (ev.2.1.length : Int) (0 : Int) ev)

noncomputable def ref05Put.body : Code := Try.f21.body.getD .skip
abbrev ref05Put.shl7 : Shp := ⟨[.u, .u, .u, .p 0 0, .u, .u, .d (.slice (.int .u8)), .u, .u, .u, .u, .u, .u, .u, .u, .u, .u, .u, .u, .u, .u, .u, .u, .u, .u, .u, .u, .u, .u, .d (.int .i64), .d (.int .i64), .u, .u, .u, .u, .u, .u, .u, .u, .u, .u, .u, .u, .u, .u, .u], [.c [.g kS1]]⟩
abbrev ref05Put.outl7e2 : Shp := ⟨[.u, .u, .u, .u, .u, .u, .d (.slice (.int .u8)), .u, .u, .u, .u, .u, .u, .u, .u, .u, .u, .u, .u, .u, .u, .u, .u, .u, .u, .u, .u, .u, .u, .u, .u, .u, .u, .u, .u, .u, .u, .u, .u, .u, .u, .u, .u, .u, .u, .u], []⟩
noncomputable def ref05Put.nml7 : Norm := ⟨{ keep := [3, 6, 29, 30], shut := [(6, (.slice (.int .u8))), (29, (.int .i64)), (30, (.int .i64))], retag := [], heap := 1, dead := [], cshut := [(0, 0, (.int .u8)), (0, 1, (.slice kS0))], cretag := [] }, [(2, { keep := [6], shut := [(6, (.slice (.int .u8)))], retag := [], heap := 0, dead := [], cshut := [], cretag := [] })]⟩
noncomputable def ref05Put.con : Con := { ps := [(.slice (.int .u8)), kS1], rs := [(.slice (.int .u8)), (.int .i64)], f := fun n x => ref05Put n x.1 x.2.1 }
noncomputable def ref05Put.env : Env := { tys := [(27, ⟨kS1, 32⟩), (38, ⟨(.slice (.int .u8)), 24⟩), (3, ⟨(.int .i64), 8⟩), (5, ⟨(.int .u8), 1⟩), (25, ⟨(.slice kS0), 24⟩), (34, ⟨kS0, 40⟩)], elems := [(38, 5), (25, 34)], ptrs := [], cons := [(23, ref05May.con), (56, ref04Put.con)], objs := [], loops := [(7, ref05Put.nml7)], cuts := [], globs := globs, base := 0 }
noncomputable def ref05Put.lp (n : Nat) : LP (Kd.struct ref05Put.con.rs).T := fun lo κ body nm K s =>
  cond (lo && Nat.beq κ 7)
    (match ref05Put.shl7.dec s with
    | some v => ref05Put.l7 n (fun w0 => K (.exit 0) (ref05Put.outl7e2.enc (w0, ()))) n v.1 v.2.1 v.2.2.1 v.2.2.2.1
    | none => loops n (Kd.struct ref05Put.con.rs).T lo κ body nm K s)
    (loops n (Kd.struct ref05Put.con.rs).T lo κ body nm K s)
theorem ref05Put.atl7 (n : Nat) (s : St) (K : Ex → St → Option (Kd.struct ref05Put.con.rs).T) : ref05Put.lp n true 7 (evK ref05Put.env (ref05Put.lp n) n (sub [1, 1, 1, 1, 1, 0, 1, 0, 0] ref05Put.body)) ref05Put.nml7 K s = loops n (Kd.struct ref05Put.con.rs).T true 7 (evK ref05Put.env (ref05Put.lp n) n (sub [1, 1, 1, 1, 1, 0, 1, 0, 0] ref05Put.body)) ref05Put.nml7 K s := by
  show (match ref05Put.shl7.dec s with | some v => ref05Put.l7 n (fun w0 => K (.exit 0) (ref05Put.outl7e2.enc (w0, ()))) n v.1 v.2.1 v.2.2.1 v.2.2.2.1 | none => loops n (Kd.struct ref05Put.con.rs).T true 7 (evK ref05Put.env (ref05Put.lp n) n (sub [1, 1, 1, 1, 1, 0, 1, 0, 0] ref05Put.body)) ref05Put.nml7 K s) = _
  cases h : ref05Put.shl7.dec s with
  | none => rfl
  | some v =>
    rw [Shp.dec_enc h]
    exact (evLoop_eq (sh := ref05Put.shl7) (body := evK ref05Put.env (ref05Put.lp n) n (sub [1, 1, 1, 1, 1, 0, 1, 0, 0] ref05Put.body)) (nm := ref05Put.nml7) (K := K) (b := fun nx v => ref05Put.b7 n (fun x0 x1 x2 x3 => nx (x0, x1, x2, x3, ())) (fun w0 => K (.exit 0) (ref05Put.outl7e2.enc (w0, ()))) v.1 v.2.1 v.2.2.1 v.2.2.2.1) (l := fun m v => ref05Put.l7 n (fun w0 => K (.exit 0) (ref05Put.outl7e2.enc (w0, ()))) m v.1 v.2.1 v.2.2.1 v.2.2.2.1) (fun _ => rfl) (fun _ _ => rfl) (fun m v => by kernel_rfl) n v).symm
theorem ref05Put.eq (n : Nat) (x : (Kd.struct ref05Put.con.ps).T) : evFunc ref05Put.env Try.f21 ref05Put.body ref05Put.con.ps ref05Put.con.rs (ref05Put.lp n) n x = ref05Put.con.f n x := by kernel_rfl
theorem ref05Put.sound : Sound Try.prog globs 21 ref05Put.con :=
  sound_by (E := ref05Put.env) (c := ref05Put.body) (envOk (G := globs) (lc := [(23, ref05May.con), (56, ref04Put.con)]) (lo := []) (envB_spec (by kernel_rfl)) rfl rfl ⟨.inl ⟨ref05May.sound, by kernel_rfl⟩, ⟨.inl ⟨ref04Put.sound, by kernel_rfl⟩, trivial⟩⟩ rfl trivial (by kernel_rfl) (by kernel_rfl)) Try.func21 (by kernel_rfl) ref05Put.lp (l := [(true, sub [1, 1, 1, 1, 1, 0, 1, 0, 0] ref05Put.body, ref05Put.nml7)]) (by kernel_rfl) (fun n => ⟨ref05Put.atl7 n, trivial⟩) ref05Put.eq
noncomputable def slicesCloneDatF47 (fu : Nat) (sv : List S0) : Option ((List S0) × Unit) :=
  nilQ sv (
    some ([], ())) (
    chk (apOk [] sv 40) <|
    some ([] ++ sv, ()))

noncomputable def slicesCloneDatF47.body : Code := Try.f47.body.getD .skip
noncomputable def slicesCloneDatF47.con : Con := { ps := [(.slice kS0)], rs := [(.slice kS0)], f := fun n x => slicesCloneDatF47 n x.1 }
noncomputable def slicesCloneDatF47.env : Env := { tys := [(25, ⟨(.slice kS0), 24⟩), (34, ⟨kS0, 40⟩)], elems := [(25, 34)], ptrs := [], cons := [], objs := [], loops := [], cuts := [], globs := globs, base := 0 }
noncomputable def slicesCloneDatF47.lp (n : Nat) : LP (Kd.struct slicesCloneDatF47.con.rs).T := fun lo κ body nm K s =>
  loops n (Kd.struct slicesCloneDatF47.con.rs).T lo κ body nm K s
theorem slicesCloneDatF47.eq (n : Nat) (x : (Kd.struct slicesCloneDatF47.con.ps).T) : evFunc slicesCloneDatF47.env Try.f47 slicesCloneDatF47.body slicesCloneDatF47.con.ps slicesCloneDatF47.con.rs (slicesCloneDatF47.lp n) n x = slicesCloneDatF47.con.f n x := by kernel_rfl
theorem slicesCloneDatF47.sound : Sound Try.prog globs 47 slicesCloneDatF47.con :=
  sound_by (E := slicesCloneDatF47.env) (c := slicesCloneDatF47.body) (envOk (G := globs) (lc := []) (lo := []) (envB_spec (by kernel_rfl)) rfl rfl trivial rfl trivial (by kernel_rfl) (by kernel_rfl)) Try.func47 (by kernel_rfl) slicesCloneDatF47.lp (l := []) (by kernel_rfl) (fun n => trivial) slicesCloneDatF47.eq
noncomputable def eventOwn (fu : Nat) (ev : S1) : Option (S1 × Unit) :=
  (slicesCloneDatF47 fu ev.2.1).bind fun r1 =>
  some ((ev.1, r1.1, ()), ())

noncomputable def eventOwn.body : Code := Try.f14.body.getD .skip
noncomputable def eventOwn.con : Con := { ps := [kS1], rs := [kS1], f := fun n x => eventOwn n x.1 }
noncomputable def eventOwn.env : Env := { tys := [(27, ⟨kS1, 32⟩), (5, ⟨(.int .u8), 1⟩), (25, ⟨(.slice kS0), 24⟩)], elems := [], ptrs := [], cons := [(47, slicesCloneDatF47.con)], objs := [], loops := [], cuts := [], globs := globs, base := 0 }
noncomputable def eventOwn.lp (n : Nat) : LP (Kd.struct eventOwn.con.rs).T := fun lo κ body nm K s =>
  loops n (Kd.struct eventOwn.con.rs).T lo κ body nm K s
theorem eventOwn.eq (n : Nat) (x : (Kd.struct eventOwn.con.ps).T) : evFunc eventOwn.env Try.f14 eventOwn.body eventOwn.con.ps eventOwn.con.rs (eventOwn.lp n) n x = eventOwn.con.f n x := by kernel_rfl
theorem eventOwn.sound : Sound Try.prog globs 14 eventOwn.con :=
  sound_by (E := eventOwn.env) (c := eventOwn.body) (envOk (G := globs) (lc := [(47, slicesCloneDatF47.con)]) (lo := []) (envB_spec (by kernel_rfl)) rfl rfl ⟨.inl ⟨slicesCloneDatF47.sound, by kernel_rfl⟩, trivial⟩ rfl trivial (by kernel_rfl) (by kernel_rfl)) Try.func14 (by kernel_rfl) eventOwn.lp (l := []) (by kernel_rfl) (fun n => trivial) eventOwn.eq
noncomputable def law05EventPuts (fu : Nat) (b : List Int) (xv : S5) : Option (Bool × Unit) :=
  (law05RawEvent fu xv).bind fun r1 =>
  (ref05Great fu r1.1).bind fun r2 =>
  cond r2.1 (
    (law05Fixed fu).bind fun r3 =>
    some (r3.1, ())) (
    let t4 := decide ((b.length : Int) > (2000 : Int))
    cond t4 (
      (law05Fixed fu).bind fun r5 =>
      some (r5.1, ())) (
      (eventPut fu b r1.1).bind fun r6 =>
      (ref05Put fu b r1.1).bind fun r7 =>
      (law05Fixed fu).bind fun r8 =>
      cond (!r8.1) (
        some (false, ())) (
        cond (r6.1 != r7.1) (
          some (false, ())) (
          cond (r6.2.1 != r7.2.1) (
            some (false, ())) (
            (eventMay fu r1.1).bind fun r9 =>
            (ref05May fu r1.1).bind fun r10 =>
            cond (!(r9.1 == r10.1)) (
              some (false, ())) (
              (eventOwn fu r1.1).bind fun r11 =>
              (ref05Same fu r11.1 r1.1).bind fun r12 =>
              cond (!r12.1) (
                some (false, ())) (
                cond (r6.2.1 != (0 : Int)) (
                  some (true, ())) (
                  (eventGet fu r6.1 (b.length : Int)).bind fun r13 =>
                  cond (r13.2.2.1 == (0 : Int)) (
                    let t14 := r13.2.1 == (r6.1.length : Int)
                    cond t14 (
                      (ref05Same fu r13.1 r1.1).bind fun r15 =>
                      some (r15.1, ())) (
                      some (false, ()))) (
                    some (false, ()))))))))))

noncomputable def law05EventPuts.body : Code := Try.f5.body.getD .skip
noncomputable def law05EventPuts.con : Con := { ps := [(.slice (.int .u8)), kS5], rs := [.bool], f := fun n x => law05EventPuts n x.1 x.2.1 }
noncomputable def law05EventPuts.env : Env := { tys := [(24, ⟨kS5, 32⟩), (4, ⟨.bool, 1⟩), (27, ⟨kS1, 32⟩), (5, ⟨(.int .u8), 1⟩), (9, ⟨.str, 16⟩), (38, ⟨(.slice (.int .u8)), 24⟩)], elems := [(38, 5)], ptrs := [], cons := [(11, law05RawEvent.con), (12, ref05Great.con), (13, law05Fixed.con), (20, eventPut.con), (21, ref05Put.con), (22, eventMay.con), (23, ref05May.con), (14, eventOwn.con), (17, ref05Same.con), (18, eventGet.con)], objs := [], loops := [], cuts := [], globs := globs, base := 0 }
noncomputable def law05EventPuts.lp (n : Nat) : LP (Kd.struct law05EventPuts.con.rs).T := fun lo κ body nm K s =>
  loops n (Kd.struct law05EventPuts.con.rs).T lo κ body nm K s
theorem law05EventPuts.eq (n : Nat) (x : (Kd.struct law05EventPuts.con.ps).T) : evFunc law05EventPuts.env Try.f5 law05EventPuts.body law05EventPuts.con.ps law05EventPuts.con.rs (law05EventPuts.lp n) n x = law05EventPuts.con.f n x := by kernel_rfl
theorem law05EventPuts.sound : Sound Try.prog globs 5 law05EventPuts.con :=
  sound_by (E := law05EventPuts.env) (c := law05EventPuts.body) (envOk (G := globs) (lc := [(11, law05RawEvent.con), (12, ref05Great.con), (13, law05Fixed.con), (20, eventPut.con), (21, ref05Put.con), (22, eventMay.con), (23, ref05May.con), (14, eventOwn.con), (17, ref05Same.con), (18, eventGet.con)]) (lo := []) (envB_spec (by kernel_rfl)) rfl rfl ⟨.inl ⟨law05RawEvent.sound, by kernel_rfl⟩, ⟨.inl ⟨ref05Great.sound, by kernel_rfl⟩, ⟨.inl ⟨law05Fixed.sound, by kernel_rfl⟩, ⟨.inl ⟨eventPut.sound, by kernel_rfl⟩, ⟨.inl ⟨ref05Put.sound, by kernel_rfl⟩, ⟨.inl ⟨eventMay.sound, by kernel_rfl⟩, ⟨.inl ⟨ref05May.sound, by kernel_rfl⟩, ⟨.inl ⟨eventOwn.sound, by kernel_rfl⟩, ⟨.inl ⟨ref05Same.sound, by kernel_rfl⟩, ⟨.inl ⟨eventGet.sound, by kernel_rfl⟩, trivial⟩⟩⟩⟩⟩⟩⟩⟩⟩⟩ rfl trivial (by kernel_rfl) (by kernel_rfl)) Try.func5 (by kernel_rfl) law05EventPuts.lp (l := []) (by kernel_rfl) (fun n => trivial) law05EventPuts.eq
noncomputable def ref05Write (fu : Nat) (l : S3) : Option ((List Int) × Int × Unit) :=
  (ref03PutDat fu [] (IntKind.u64.wrap l.1)).bind fun r1 =>
  (ref03PutDat fu r1.1 l.2.1).bind fun r2 =>
  (ref03PutDat fu r2.1 l.2.2.1).bind fun r3 =>
  (ref05Put fu r3.1 l.2.2.2.1).bind fun r4 =>
  some (r4.1, r4.2.1, ())

noncomputable def ref05Write.body : Code := Try.f25.body.getD .skip
noncomputable def ref05Write.con : Con := { ps := [kS3], rs := [(.slice (.int .u8)), (.int .i64)], f := fun n x => ref05Write n x.1 }
noncomputable def ref05Write.env : Env := { tys := [(53, ⟨kS3, 56⟩), (38, ⟨(.slice (.int .u8)), 24⟩), (3, ⟨(.int .i64), 8⟩), (5, ⟨(.int .u8), 1⟩), (50, ⟨(.int .u32), 4⟩), (51, ⟨(.int .u64), 8⟩), (27, ⟨kS1, 32⟩)], elems := [(38, 5)], ptrs := [], cons := [(62, ref03PutDat.con), (21, ref05Put.con)], objs := [], loops := [], cuts := [], globs := globs, base := 0 }
noncomputable def ref05Write.lp (n : Nat) : LP (Kd.struct ref05Write.con.rs).T := fun lo κ body nm K s =>
  loops n (Kd.struct ref05Write.con.rs).T lo κ body nm K s
theorem ref05Write.eq (n : Nat) (x : (Kd.struct ref05Write.con.ps).T) : evFunc ref05Write.env Try.f25 ref05Write.body ref05Write.con.ps ref05Write.con.rs (ref05Write.lp n) n x = ref05Write.con.f n x := by kernel_rfl
theorem ref05Write.sound : Sound Try.prog globs 25 ref05Write.con :=
  sound_by (E := ref05Write.env) (c := ref05Write.body) (envOk (G := globs) (lc := [(62, ref03PutDat.con), (21, ref05Put.con)]) (lo := []) (envB_spec (by kernel_rfl)) rfl rfl ⟨.inl ⟨ref03PutDat.sound, by kernel_rfl⟩, ⟨.inl ⟨ref05Put.sound, by kernel_rfl⟩, trivial⟩⟩ rfl trivial (by kernel_rfl) (by kernel_rfl)) Try.func25 (by kernel_rfl) ref05Write.lp (l := []) (by kernel_rfl) (fun n => trivial) ref05Write.eq
noncomputable def law05EventWrites (fu : Nat) (pub : Int) (seq : Int) (atv : Int) (xv : S5) : Option (Bool × Unit) :=
  (law05RawEvent fu xv).bind fun r1 =>
  (ref05Great fu r1.1).bind fun r2 =>
  cond r2.1 (
    (law05Fixed fu).bind fun r3 =>
    some (r3.1, ())) (
    (eventWrite fu (pub, seq, atv, r1.1, ())).bind fun r4 =>
    (ref05Write fu (pub, seq, atv, r1.1, ())).bind fun r5 =>
    (law05Fixed fu).bind fun r6 =>
    cond (!r6.1) (
      some (false, ())) (
      cond (r4.1 != r5.1) (
        some (false, ())) (
        cond (r4.2.1 != r5.2.1) (
          some (false, ())) (
          cond (r4.2.1 != (0 : Int)) (
            some (true, ())) (
            (eventRead fu r4.1).bind fun r7 =>
            cond (r7.2.1 == (0 : Int)) (
              (ref05SameLogged fu r7.1 (pub, seq, atv, r1.1, ())).bind fun r8 =>
              some (r8.1, ())) (
              some (false, ())))))))

noncomputable def law05EventWrites.body : Code := Try.f6.body.getD .skip
noncomputable def law05EventWrites.con : Con := { ps := [(.int .u32), (.int .u64), (.int .u64), kS5], rs := [.bool], f := fun n x => law05EventWrites n x.1 x.2.1 x.2.2.1 x.2.2.2.1 }
noncomputable def law05EventWrites.env : Env := { tys := [(24, ⟨kS5, 32⟩), (4, ⟨.bool, 1⟩), (53, ⟨kS3, 56⟩), (27, ⟨kS1, 32⟩), (9, ⟨.str, 16⟩), (38, ⟨(.slice (.int .u8)), 24⟩), (5, ⟨(.int .u8), 1⟩)], elems := [(38, 5)], ptrs := [], cons := [(11, law05RawEvent.con), (12, ref05Great.con), (13, law05Fixed.con), (24, eventWrite.con), (25, ref05Write.con), (26, eventRead.con), (27, ref05SameLogged.con)], objs := [], loops := [], cuts := [], globs := globs, base := 0 }
noncomputable def law05EventWrites.lp (n : Nat) : LP (Kd.struct law05EventWrites.con.rs).T := fun lo κ body nm K s =>
  loops n (Kd.struct law05EventWrites.con.rs).T lo κ body nm K s
theorem law05EventWrites.eq (n : Nat) (x : (Kd.struct law05EventWrites.con.ps).T) : evFunc law05EventWrites.env Try.f6 law05EventWrites.body law05EventWrites.con.ps law05EventWrites.con.rs (law05EventWrites.lp n) n x = law05EventWrites.con.f n x := by kernel_rfl
theorem law05EventWrites.sound : Sound Try.prog globs 6 law05EventWrites.con :=
  sound_by (E := law05EventWrites.env) (c := law05EventWrites.body) (envOk (G := globs) (lc := [(11, law05RawEvent.con), (12, ref05Great.con), (13, law05Fixed.con), (24, eventWrite.con), (25, ref05Write.con), (26, eventRead.con), (27, ref05SameLogged.con)]) (lo := []) (envB_spec (by kernel_rfl)) rfl rfl ⟨.inl ⟨law05RawEvent.sound, by kernel_rfl⟩, ⟨.inl ⟨ref05Great.sound, by kernel_rfl⟩, ⟨.inl ⟨law05Fixed.sound, by kernel_rfl⟩, ⟨.inl ⟨eventWrite.sound, by kernel_rfl⟩, ⟨.inl ⟨ref05Write.sound, by kernel_rfl⟩, ⟨.inl ⟨eventRead.sound, by kernel_rfl⟩, ⟨.inl ⟨ref05SameLogged.sound, by kernel_rfl⟩, trivial⟩⟩⟩⟩⟩⟩⟩ rfl trivial (by kernel_rfl) (by kernel_rfl)) Try.func6 (by kernel_rfl) law05EventWrites.lp (l := []) (by kernel_rfl) (fun n => trivial) law05EventWrites.eq
end
end Go.Shal.Pr
