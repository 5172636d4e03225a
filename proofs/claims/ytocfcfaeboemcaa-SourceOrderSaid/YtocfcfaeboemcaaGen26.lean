/- Prints of functions, and proofs that they are what the code computes. By an AI agent. -/
import Derived.Test.YtocfcfaeboemcaaShC
import Derived.Test.YtocfcfaeboemcaaProg
set_option linter.unusedVariables false
set_option maxRecDepth 100000
namespace Go.Shal.Pr
open Go Go.Shal Go.Proofs
noncomputable section
def globs : Globs := []
abbrev kS0 : Kd := .struct [(.int .u32), (.int .u32), (.int .u32)]
abbrev S0 : Type := Int × Int × Int × Unit
abbrev kO1 : Ob := (.dat kS0 (.dat .bool (.dat (.int .u32) (.dat (.int .u64) .nil))))
abbrev O1 : Type := S0 × Bool × Int × Int × Unit
abbrev kO2 : Ob := (.dat (.int .u32) (.ref kO1 (.dat (.int .u64) (.own (.slice (.int .u8)) .nil))))
abbrev O2 : Type := Int × O1 × Int × (List (List Int)) × Unit
abbrev kS3 : Kd := .struct [(.int .u8), (.int .i64), .flt, .str]
abbrev S3 : Type := Int × Int × Nat × (List Int) × Unit
abbrev kS4 : Kd := .struct [(.int .u8), (.slice kS3)]
abbrev S4 : Type := Int × (List S3) × Unit
abbrev kS5 : Kd := .struct [(.int .u8), (.int .u32), (.int .u32), (.int .u64), (.int .u64), (.slice (.int .u8))]
abbrev S5 : Type := Int × Int × Int × Int × Int × (List Int) × Unit
abbrev kS6 : Kd := .struct [(.int .u8), (.int .i64), (.int .u64), .str]
abbrev S6 : Type := Int × Int × Int × (List Int) × Unit
abbrev kS7 : Kd := .struct [(.int .u8), (.slice kS6)]
abbrev S7 : Type := Int × (List S6) × Unit
abbrev kS8 : Kd := .struct [(.int .i64), (.int .u64), kS7, (.int .u8), (.int .u32), (.int .u64)]
abbrev S8 : Type := Int × Int × S7 × Int × Int × Int × Unit
abbrev kS9 : Kd := .struct [.bool, (.int .i64), (.int .u64)]
abbrev S9 : Type := Bool × Int × Int × Unit
abbrev kS10 : Kd := .struct [kS0, .bool, (.int .u32), (.int .u64)]
abbrev S10 : Type := S0 × Bool × Int × Int × Unit
abbrev kS11 : Kd := .struct [(.int .u32), .np, (.int .u64), (.slice (.slice (.int .u8)))]
abbrev S11 : Type := Int × Unit × Int × (List (List Int)) × Unit
noncomputable def backMay (fu : Nat) (b : S0) : Option (Bool × Unit) :=
  cond (decide (b.1 ≥ (1 : Int))) (
    let t1 := decide (b.1 ≤ (65536 : Int))
    cond t1 (
      cond (decide (b.2.1 ≥ b.1)) (
        let t2 := decide (b.2.1 ≤ (1048576 : Int))
        cond t2 (
          let t3 := decide (b.2.2.1 ≥ (1 : Int))
          cond t3 (
            let t4 := decide (b.2.2.1 ≤ (64 : Int))
            some (t4, ())) (
            some (false, ()))) (
          some (false, ()))) (
        some (false, ()))) (
      some (false, ()))) (
    some (false, ()))

noncomputable def backMay.body : Code := Try.f56.body.getD .skip
noncomputable def backMay.con : Con := { ps := [kS0], rs := [.bool], f := fun n x => backMay n x.1 }
noncomputable def backMay.env : Env := { tys := [(24, ⟨kS0, 12⟩), (4, ⟨.bool, 1⟩), (22, ⟨(.int .u32), 4⟩)], elems := [], ptrs := [], cons := [], objs := [], loops := [], cuts := [], globs := globs, base := 0 }
noncomputable def backMay.lp (n : Nat) : LP (Kd.struct backMay.con.rs).T := fun lo κ body nm K s =>
  loops n (Kd.struct backMay.con.rs).T lo κ body nm K s
theorem backMay.eq (n : Nat) (x : (Kd.struct backMay.con.ps).T) : evFunc backMay.env Try.f56 backMay.body backMay.con.ps backMay.con.rs (backMay.lp n) n x = backMay.con.f n x := by kernel_rfl
theorem backMay.sound : Sound Try.prog globs 56 backMay.con :=
  sound_by (E := backMay.env) (c := backMay.body) (envOk (G := globs) (lc := []) (lo := []) (envB_spec (by kernel_rfl)) rfl rfl trivial rfl trivial (by kernel_rfl) (by kernel_rfl)) Try.func56 (by kernel_rfl) backMay.lp (l := []) (by kernel_rfl) (fun n => trivial) backMay.eq
noncomputable def backNew (fu : Nat) (b : S0) : Option (((Option O1) × Int × Unit) × (Unit)) :=
  (backMay fu b).bind fun r1 =>
  cond (!r1.1) (
    some ((none, (1 : Int), ()), (()))) (
    some ((some (b, false, (0 : Int), (0 : Int), ()), (0 : Int), ()), (())))

noncomputable def backNew.body : Code := Try.f38.body.getD .skip
noncomputable def backNew.con : OCon := { ps := [.dat kS0], rs := [.ref kO1, .dat (.int .i64)], f := fun n x => backNew n x.1 }
noncomputable def backNew.env : Env := { tys := [(24, ⟨kS0, 12⟩), (93, ⟨.np, 8⟩), (27, ⟨(.int .i64), 8⟩), (121, ⟨kS10, 32⟩)], elems := [], ptrs := [], cons := [(56, backMay.con)], objs := [], loops := [], cuts := [], globs := globs, base := 0 }
noncomputable def backNew.lp (n : Nat) : LP (RT backNew.con.rs × BT backNew.con.ps) := fun lo κ body nm K s =>
  loops n (RT backNew.con.rs × BT backNew.con.ps) lo κ body nm K s
theorem backNew.eq (n : Nat) (x : PT backNew.con.ps) : evFuncO backNew.env Try.f38 backNew.body backNew.con.ps backNew.con.rs (backNew.lp n) n x = backNew.con.f n x := by kernel_rfl
theorem backNew.sound : SoundO Try.prog globs 38 backNew.con :=
  sound_byO (E := backNew.env) (c := backNew.body) (envOk (G := globs) (lc := [(56, backMay.con)]) (lo := []) (envB_spec (by kernel_rfl)) rfl rfl ⟨.inl ⟨backMay.sound, by kernel_rfl⟩, trivial⟩ rfl trivial (by kernel_rfl) (by kernel_rfl)) Try.func38 (by kernel_rfl) (by kernel_rfl) (by kernel_rfl) backNew.lp (l := []) (by kernel_rfl) (fun n => trivial) backNew.eq
noncomputable def sourceNew (fu : Nat) (pub : Int) (b : S0) : Option (((Option O2) × Int × Unit) × (Unit)) :=
  (backNew fu b).bind fun r1 =>
  oc r1.1.1 (
    cond (r1.1.2.1 != (0 : Int)) (
      some ((none, r1.1.2.1, ()), (()))) (
      none)) fun o2 =>
  cond (r1.1.2.1 != (0 : Int)) (
    some ((none, r1.1.2.1, ()), (()))) (
    some ((some (pub, o2, (1 : Int), [], ()), (0 : Int), ()), (())))

noncomputable def sourceNew.body : Code := Try.f23.body.getD .skip
noncomputable def sourceNew.con : OCon := { ps := [.dat (.int .u32), .dat kS0], rs := [.ref kO2, .dat (.int .i64)], f := fun n x => sourceNew n x.1 x.2.1 }
noncomputable def sourceNew.env : Env := { tys := [(24, ⟨kS0, 12⟩), (57, ⟨.np, 8⟩), (27, ⟨(.int .i64), 8⟩), (93, ⟨.np, 8⟩), (105, ⟨kS11, 48⟩)], elems := [], ptrs := [], cons := [], objs := [(38, [backNew.con])], loops := [], cuts := [], globs := globs, base := 0 }
noncomputable def sourceNew.lp (n : Nat) : LP (RT sourceNew.con.rs × BT sourceNew.con.ps) := fun lo κ body nm K s =>
  loops n (RT sourceNew.con.rs × BT sourceNew.con.ps) lo κ body nm K s
theorem sourceNew.eq (n : Nat) (x : PT sourceNew.con.ps) : evFuncO sourceNew.env Try.f23 sourceNew.body sourceNew.con.ps sourceNew.con.rs (sourceNew.lp n) n x = sourceNew.con.f n x := by kernel_rfl
theorem sourceNew.sound : SoundO Try.prog globs 23 sourceNew.con :=
  sound_byO (E := sourceNew.env) (c := sourceNew.body) (envOk (G := globs) (lc := []) (lo := [(38, [backNew.con])]) (envB_spec (by kernel_rfl)) rfl rfl trivial rfl ⟨⟨⟨backNew.sound, trivial⟩, by kernel_rfl⟩, trivial⟩ (by kernel_rfl) (by kernel_rfl)) Try.func23 (by kernel_rfl) (by kernel_rfl) (by kernel_rfl) sourceNew.lp (l := []) (by kernel_rfl) (fun n => trivial) sourceNew.eq
noncomputable def valueHeld (fu : Nat) (v : S3) : Option (S3 × Unit) :=
  cond (v.1 == (1 : Int)) (
    some ((v.1, v.2.1, (0 : Nat), [], ()), ())) (
    cond (v.1 == (2 : Int)) (
      some ((v.1, (0 : Int), v.2.2.1, [], ()), ())) (
      cond (v.1 == (3 : Int)) (
        some ((v.1, (0 : Int), (0 : Nat), v.2.2.2.1, ()), ())) (
        some ((v.1, (0 : Int), (0 : Nat), [], ()), ()))))

noncomputable def valueHeld.body : Code := Try.f81.body.getD .skip
noncomputable def valueHeld.con : Con := { ps := [kS3], rs := [kS3], f := fun n x => valueHeld n x.1 }
noncomputable def valueHeld.env : Env := { tys := [(112, ⟨kS3, 40⟩), (5, ⟨(.int .u8), 1⟩), (2, ⟨(.int .i64), 8⟩), (110, ⟨.flt, 8⟩), (9, ⟨.str, 16⟩)], elems := [], ptrs := [], cons := [], objs := [], loops := [], cuts := [], globs := globs, base := 0 }
noncomputable def valueHeld.lp (n : Nat) : LP (Kd.struct valueHeld.con.rs).T := fun lo κ body nm K s =>
  loops n (Kd.struct valueHeld.con.rs).T lo κ body nm K s
theorem valueHeld.eq (n : Nat) (x : (Kd.struct valueHeld.con.ps).T) : evFunc valueHeld.env Try.f81 valueHeld.body valueHeld.con.ps valueHeld.con.rs (valueHeld.lp n) n x = valueHeld.con.f n x := by kernel_rfl
theorem valueHeld.sound : Sound Try.prog globs 81 valueHeld.con :=
  sound_by (E := valueHeld.env) (c := valueHeld.body) (envOk (G := globs) (lc := []) (lo := []) (envB_spec (by kernel_rfl)) rfl rfl trivial rfl trivial (by kernel_rfl) (by kernel_rfl)) Try.func81 (by kernel_rfl) valueHeld.lp (l := []) (by kernel_rfl) (fun n => trivial) valueHeld.eq
noncomputable def valueMay (fu : Nat) (v : S3) : Option (Bool × Unit) :=
  (valueHeld fu v).bind fun r1 =>
  cond (decide (v.1 ≤ (3 : Int))) (
    let t2 := decide ((v.2.2.2.1.length : Int) ≤ (255 : Int))
    cond t2 (
      cond (r1.1.2.1 == v.2.1) (
        let t3 := r1.1.2.2.2.1 == v.2.2.2.1
        cond t3 (
          (extBits.f fu (r1.1.2.2.1, ())).bind fun r4 =>
          (extBits.f fu (v.2.2.1, ())).bind fun r5 =>
          some (r4.1 == r5.1, ())) (
          some (false, ()))) (
        some (false, ()))) (
      some (false, ()))) (
    some (false, ()))

noncomputable def valueMay.body : Code := Try.f72.body.getD .skip
noncomputable def valueMay.con : Con := { ps := [kS3], rs := [.bool], f := fun n x => valueMay n x.1 }
noncomputable def valueMay.env : Env := { tys := [(112, ⟨kS3, 40⟩), (4, ⟨.bool, 1⟩), (5, ⟨(.int .u8), 1⟩), (9, ⟨.str, 16⟩), (2, ⟨(.int .i64), 8⟩), (110, ⟨.flt, 8⟩)], elems := [], ptrs := [], cons := [(81, valueHeld.con), (76, extBits)], objs := [], loops := [], cuts := [], globs := globs, base := 0 }
noncomputable def valueMay.lp (n : Nat) : LP (Kd.struct valueMay.con.rs).T := fun lo κ body nm K s =>
  loops n (Kd.struct valueMay.con.rs).T lo κ body nm K s
theorem valueMay.eq (n : Nat) (x : (Kd.struct valueMay.con.ps).T) : evFunc valueMay.env Try.f72 valueMay.body valueMay.con.ps valueMay.con.rs (valueMay.lp n) n x = valueMay.con.f n x := by kernel_rfl
theorem valueMay.sound : Sound Try.prog globs 72 valueMay.con :=
  sound_by (E := valueMay.env) (c := valueMay.body) (envOk (G := globs) (lc := [(81, valueHeld.con), (76, extBits)]) (lo := []) (envB_spec (by kernel_rfl)) rfl rfl ⟨.inl ⟨valueHeld.sound, by kernel_rfl⟩, ⟨.inr (extBits_ok Try.func76 (by kernel_rfl) (by kernel_rfl) (by kernel_rfl) (by kernel_rfl)), trivial⟩⟩ rfl trivial (by kernel_rfl) (by kernel_rfl)) Try.func72 (by kernel_rfl) valueMay.lp (l := []) (by kernel_rfl) (fun n => trivial) valueMay.eq
noncomputable def eventMay1 (fu : Nat) (v : S3) : Option (Bool × Unit) :=
  (valueMay fu v).bind fun r1 =>
  some (!r1.1, ())

noncomputable def eventMay1.body : Code := Try.f71.body.getD .skip
noncomputable def eventMay1.con : Con := { ps := [kS3], rs := [.bool], f := fun n x => eventMay1 n x.1 }
noncomputable def eventMay1.env : Env := { tys := [(112, ⟨kS3, 40⟩), (4, ⟨.bool, 1⟩)], elems := [], ptrs := [], cons := [(72, valueMay.con)], objs := [], loops := [], cuts := [], globs := globs, base := 0 }
noncomputable def eventMay1.lp (n : Nat) : LP (Kd.struct eventMay1.con.rs).T := fun lo κ body nm K s =>
  loops n (Kd.struct eventMay1.con.rs).T lo κ body nm K s
theorem eventMay1.eq (n : Nat) (x : (Kd.struct eventMay1.con.ps).T) : evFunc eventMay1.env Try.f71 eventMay1.body eventMay1.con.ps eventMay1.con.rs (eventMay1.lp n) n x = eventMay1.con.f n x := by kernel_rfl
theorem eventMay1.sound : Sound Try.prog globs 71 eventMay1.con :=
  sound_by (E := eventMay1.env) (c := eventMay1.body) (envOk (G := globs) (lc := [(72, valueMay.con)]) (lo := []) (envB_spec (by kernel_rfl)) rfl rfl ⟨.inl ⟨valueMay.sound, by kernel_rfl⟩, trivial⟩ rfl trivial (by kernel_rfl) (by kernel_rfl)) Try.func71 (by kernel_rfl) eventMay1.lp (l := []) (by kernel_rfl) (fun n => trivial) eventMay1.eq
noncomputable def slicesIndexFunc.b2 (fu : Nat) (next : (List S3) → Int → Int → Option ((Int × Unit) × (Unit))) (k1 : Int → Option ((Int × Unit) × (Unit))) (k2 : Unit → Option ((Int × Unit) × (Unit))) (sv : List S3) (v : Int) (vx2 : Int) : Option ((Int × Unit) × (Unit)) :=
  cond (decide (vx2 < v)) (
    chk (ixOk sv vx2) <|
    let e1 := ixL ((0 : Int), (0 : Int), (0 : Nat), [], ()) sv vx2
    (eventMay1 fu e1).bind fun r2 =>
    cond r2.1 (
      k1 vx2) (
      let t3 := IntKind.i64.wrap (vx2 + (1 : Int))
      next sv v t3)) (
    k2 ())
noncomputable def slicesIndexFunc.l2 (fu : Nat) (k1 : Int → Option ((Int × Unit) × (Unit))) (k2 : Unit → Option ((Int × Unit) × (Unit))) : Nat → (List S3) → Int → Int → Option ((Int × Unit) × (Unit))
  | 0, _, _, _ => none
  | m + 1, sv, v, vx2 => slicesIndexFunc.b2 fu (slicesIndexFunc.l2 fu k1 k2 m) k1 k2 sv v vx2
noncomputable def slicesIndexFunc (fu : Nat) (sv : List S3) : Option ((Int × Unit) × (Unit)) :=
  slicesIndexFunc.l2 fu (fun vq3 => 
      some ((vq3, ()), (()))) (fun (_ : Unit) => 
      some (((-1 : Int), ()), (()))) fu sv (sv.length : Int) (0 : Int)

noncomputable def slicesIndexFunc.body : Code := Try.f80.body.getD .skip
abbrev slicesIndexFunc.shl2 : Shp := ⟨[.d (.slice kS3), .f 71, .u, .u, .u, .u, .u, .d (.int .i64), .d (.int .i64), .u, .u, .u, .u, .u, .u, .u, .u, .u, .u], []⟩
abbrev slicesIndexFunc.outl2e1 : Shp := ⟨[.u, .u, .u, .u, .d (.int .i64), .u, .u, .u, .u, .u, .u, .u, .u, .u, .u, .u, .u, .u, .u], []⟩
abbrev slicesIndexFunc.outl2e2 : Shp := ⟨[.u, .u, .u, .u, .u, .u, .u, .u, .u, .u, .u, .u, .u, .u, .u, .u, .u, .u, .u], []⟩
noncomputable def slicesIndexFunc.nml2 : Norm := ⟨{ keep := [0, 1, 7, 8], shut := [(0, (.slice kS3)), (7, (.int .i64)), (8, (.int .i64))], retag := [], heap := 0, dead := [], cshut := [], cretag := [] }, [(1, { keep := [4], shut := [(4, (.int .i64))], retag := [], heap := 0, dead := [], cshut := [], cretag := [] }), (2, { keep := [], shut := [], retag := [], heap := 0, dead := [], cshut := [], cretag := [] })]⟩
noncomputable def slicesIndexFunc.con : OCon := { ps := [.dat (.slice kS3), .fn 71], rs := [.dat (.int .i64)], f := fun n x => slicesIndexFunc n x.1 }
noncomputable def slicesIndexFunc.env : Env := { tys := [(3, ⟨(.int .i64), 8⟩), (112, ⟨kS3, 40⟩)], elems := [(61, 112)], ptrs := [], cons := [(71, eventMay1.con)], objs := [], loops := [(2, slicesIndexFunc.nml2)], cuts := [], globs := globs, base := 0 }
noncomputable def slicesIndexFunc.lp (n : Nat) : LP (RT slicesIndexFunc.con.rs × BT slicesIndexFunc.con.ps) := fun lo κ body nm K s =>
  cond (lo && Nat.beq κ 2)
    (match slicesIndexFunc.shl2.dec s with
    | some v => slicesIndexFunc.l2 n (fun w0 => K .ret (slicesIndexFunc.outl2e1.enc (w0, ()))) (fun _ => K (.exit 0) (slicesIndexFunc.outl2e2.enc (()))) n v.1 v.2.1 v.2.2.1
    | none => loops n (RT slicesIndexFunc.con.rs × BT slicesIndexFunc.con.ps) lo κ body nm K s)
    (loops n (RT slicesIndexFunc.con.rs × BT slicesIndexFunc.con.ps) lo κ body nm K s)
theorem slicesIndexFunc.atl2 (n : Nat) (s : St) (K : Ex → St → Option (RT slicesIndexFunc.con.rs × BT slicesIndexFunc.con.ps)) : (slicesIndexFunc.lp n) true 2 (evK slicesIndexFunc.env (slicesIndexFunc.lp n) n (sub [1, 0, 1, 0, 0] slicesIndexFunc.body)) slicesIndexFunc.nml2 K s = loops n (RT slicesIndexFunc.con.rs × BT slicesIndexFunc.con.ps) true 2 (evK slicesIndexFunc.env (slicesIndexFunc.lp n) n (sub [1, 0, 1, 0, 0] slicesIndexFunc.body)) slicesIndexFunc.nml2 K s := by
  show (match slicesIndexFunc.shl2.dec s with | some v => slicesIndexFunc.l2 n (fun w0 => K .ret (slicesIndexFunc.outl2e1.enc (w0, ()))) (fun _ => K (.exit 0) (slicesIndexFunc.outl2e2.enc (()))) n v.1 v.2.1 v.2.2.1 | none => loops n (RT slicesIndexFunc.con.rs × BT slicesIndexFunc.con.ps) true 2 (evK slicesIndexFunc.env (slicesIndexFunc.lp n) n (sub [1, 0, 1, 0, 0] slicesIndexFunc.body)) slicesIndexFunc.nml2 K s) = _
  cases h : slicesIndexFunc.shl2.dec s with
  | none => rfl
  | some v =>
    rw [Shp.dec_enc h]
    exact (evLoop_eq (sh := slicesIndexFunc.shl2) (body := evK slicesIndexFunc.env (slicesIndexFunc.lp n) n (sub [1, 0, 1, 0, 0] slicesIndexFunc.body)) (nm := slicesIndexFunc.nml2) (K := K) (b := fun nx v => slicesIndexFunc.b2 n (fun x0 x1 x2 => nx (x0, x1, x2, ())) (fun w0 => K .ret (slicesIndexFunc.outl2e1.enc (w0, ()))) (fun _ => K (.exit 0) (slicesIndexFunc.outl2e2.enc (()))) v.1 v.2.1 v.2.2.1) (l := fun m v => slicesIndexFunc.l2 n (fun w0 => K .ret (slicesIndexFunc.outl2e1.enc (w0, ()))) (fun _ => K (.exit 0) (slicesIndexFunc.outl2e2.enc (()))) m v.1 v.2.1 v.2.2.1) (fun _ => rfl) (fun _ _ => rfl) (fun m v => by kernel_rfl) n v).symm
theorem slicesIndexFunc.eq (n : Nat) (x : PT slicesIndexFunc.con.ps) : evFuncO slicesIndexFunc.env Try.f80 slicesIndexFunc.body slicesIndexFunc.con.ps slicesIndexFunc.con.rs (slicesIndexFunc.lp n) n x = slicesIndexFunc.con.f n x := by kernel_rfl
theorem slicesIndexFunc.sound : SoundO Try.prog globs 80 slicesIndexFunc.con :=
  sound_byO (E := slicesIndexFunc.env) (c := slicesIndexFunc.body) (envOk (G := globs) (lc := [(71, eventMay1.con)]) (lo := []) (envB_spec (by kernel_rfl)) rfl rfl ⟨.inl ⟨eventMay1.sound, by kernel_rfl⟩, trivial⟩ rfl trivial (by kernel_rfl) (by kernel_rfl)) Try.func80 (by kernel_rfl) (by kernel_rfl) (by kernel_rfl) slicesIndexFunc.lp (l := [(true, sub [1, 0, 1, 0, 0] slicesIndexFunc.body, slicesIndexFunc.nml2)]) (by kernel_rfl) (fun n => ⟨slicesIndexFunc.atl2 n, trivial⟩) slicesIndexFunc.eq
noncomputable def slicesContainsFunc (fu : Nat) (sv : List S3) : Option ((Bool × Unit) × (Unit)) :=
  (slicesIndexFunc fu sv).bind fun r1 =>
  let t2 := decide (r1.1.1 ≥ (0 : Int))
  some ((t2, ()), (()))

noncomputable def slicesContainsFunc.body : Code := Try.f70.body.getD .skip
noncomputable def slicesContainsFunc.con : OCon := { ps := [.dat (.slice kS3), .fn 71], rs := [.dat .bool], f := fun n x => slicesContainsFunc n x.1 }
noncomputable def slicesContainsFunc.env : Env := { tys := [(4, ⟨.bool, 1⟩)], elems := [], ptrs := [], cons := [], objs := [(80, [slicesIndexFunc.con])], loops := [], cuts := [], globs := globs, base := 0 }
noncomputable def slicesContainsFunc.lp (n : Nat) : LP (RT slicesContainsFunc.con.rs × BT slicesContainsFunc.con.ps) := fun lo κ body nm K s =>
  loops n (RT slicesContainsFunc.con.rs × BT slicesContainsFunc.con.ps) lo κ body nm K s
theorem slicesContainsFunc.eq (n : Nat) (x : PT slicesContainsFunc.con.ps) : evFuncO slicesContainsFunc.env Try.f70 slicesContainsFunc.body slicesContainsFunc.con.ps slicesContainsFunc.con.rs (slicesContainsFunc.lp n) n x = slicesContainsFunc.con.f n x := by kernel_rfl
theorem slicesContainsFunc.sound : SoundO Try.prog globs 70 slicesContainsFunc.con :=
  sound_byO (E := slicesContainsFunc.env) (c := slicesContainsFunc.body) (envOk (G := globs) (lc := []) (lo := [(80, [slicesIndexFunc.con])]) (envB_spec (by kernel_rfl)) rfl rfl trivial rfl ⟨⟨⟨slicesIndexFunc.sound, trivial⟩, by kernel_rfl⟩, trivial⟩ (by kernel_rfl) (by kernel_rfl)) Try.func70 (by kernel_rfl) (by kernel_rfl) (by kernel_rfl) slicesContainsFunc.lp (l := []) (by kernel_rfl) (fun n => trivial) slicesContainsFunc.eq
noncomputable def eventMay (fu : Nat) (ev : S4) : Option (Bool × Unit) :=
  let t1 := decide ((ev.2.1.length : Int) ≤ (8 : Int))
  cond t1 (
    (slicesContainsFunc fu ev.2.1).bind fun r2 =>
    some (!r2.1.1, ())) (
    some (false, ()))

noncomputable def eventMay.body : Code := Try.f60.body.getD .skip
noncomputable def eventMay.con : Con := { ps := [kS4], rs := [.bool], f := fun n x => eventMay n x.1 }
noncomputable def eventMay.env : Env := { tys := [(63, ⟨kS4, 32⟩), (4, ⟨.bool, 1⟩), (61, ⟨(.slice kS3), 24⟩), (112, ⟨kS3, 40⟩)], elems := [(61, 112)], ptrs := [], cons := [], objs := [(70, [slicesContainsFunc.con])], loops := [], cuts := [], globs := globs, base := 0 }
noncomputable def eventMay.lp (n : Nat) : LP (Kd.struct eventMay.con.rs).T := fun lo κ body nm K s =>
  loops n (Kd.struct eventMay.con.rs).T lo κ body nm K s
theorem eventMay.eq (n : Nat) (x : (Kd.struct eventMay.con.ps).T) : evFunc eventMay.env Try.f60 eventMay.body eventMay.con.ps eventMay.con.rs (eventMay.lp n) n x = eventMay.con.f n x := by kernel_rfl
theorem eventMay.sound : Sound Try.prog globs 60 eventMay.con :=
  sound_by (E := eventMay.env) (c := eventMay.body) (envOk (G := globs) (lc := []) (lo := [(70, [slicesContainsFunc.con])]) (envB_spec (by kernel_rfl)) rfl rfl trivial rfl ⟨⟨⟨slicesContainsFunc.sound, trivial⟩, by kernel_rfl⟩, trivial⟩ (by kernel_rfl) (by kernel_rfl)) Try.func60 (by kernel_rfl) eventMay.lp (l := []) (by kernel_rfl) (fun n => trivial) eventMay.eq
noncomputable def slicesCloneDat (fu : Nat) (sv : List Int) : Option ((List Int) × Unit) :=
  nilQ sv (
    some ([], ())) (
    chk (apOk [] sv 1) <|
    some ([] ++ sv, ()))

noncomputable def slicesCloneDat.body : Code := Try.f39.body.getD .skip
noncomputable def slicesCloneDat.con : Con := { ps := [(.slice (.int .u8))], rs := [(.slice (.int .u8))], f := fun n x => slicesCloneDat n x.1 }
noncomputable def slicesCloneDat.env : Env := { tys := [(35, ⟨(.slice (.int .u8)), 24⟩), (5, ⟨(.int .u8), 1⟩)], elems := [(35, 5)], ptrs := [], cons := [], objs := [], loops := [], cuts := [], globs := globs, base := 0 }
noncomputable def slicesCloneDat.lp (n : Nat) : LP (Kd.struct slicesCloneDat.con.rs).T := fun lo κ body nm K s =>
  loops n (Kd.struct slicesCloneDat.con.rs).T lo κ body nm K s
theorem slicesCloneDat.eq (n : Nat) (x : (Kd.struct slicesCloneDat.con.ps).T) : evFunc slicesCloneDat.env Try.f39 slicesCloneDat.body slicesCloneDat.con.ps slicesCloneDat.con.rs (slicesCloneDat.lp n) n x = slicesCloneDat.con.f n x := by kernel_rfl
theorem slicesCloneDat.sound : Sound Try.prog globs 39 slicesCloneDat.con :=
  sound_by (E := slicesCloneDat.env) (c := slicesCloneDat.body) (envOk (G := globs) (lc := []) (lo := []) (envB_spec (by kernel_rfl)) rfl rfl trivial rfl trivial (by kernel_rfl) (by kernel_rfl)) Try.func39 (by kernel_rfl) slicesCloneDat.lp (l := []) (by kernel_rfl) (fun n => trivial) slicesCloneDat.eq
noncomputable def slicesClone (fu : Nat) (sv : List Int) : Option (((List Int) × Unit) × (Unit)) :=
  nilQ sv (
    some (([], ()), (()))) (
    chk (apOk [] sv 1) <|
    some (([] ++ sv, ()), (())))

noncomputable def slicesClone.body : Code := Try.f39.body.getD .skip
noncomputable def slicesClone.con : OCon := { ps := [.dat (.slice (.int .u8))], rs := [.own (.int .u8)], f := fun n x => slicesClone n x.1 }
noncomputable def slicesClone.env : Env := { tys := [(35, ⟨(.slice (.int .u8)), 24⟩), (5, ⟨(.int .u8), 1⟩)], elems := [(35, 5)], ptrs := [], cons := [], objs := [], loops := [], cuts := [], globs := globs, base := 0 }
noncomputable def slicesClone.lp (n : Nat) : LP (RT slicesClone.con.rs × BT slicesClone.con.ps) := fun lo κ body nm K s =>
  loops n (RT slicesClone.con.rs × BT slicesClone.con.ps) lo κ body nm K s
theorem slicesClone.eq (n : Nat) (x : PT slicesClone.con.ps) : evFuncO slicesClone.env Try.f39 slicesClone.body slicesClone.con.ps slicesClone.con.rs (slicesClone.lp n) n x = slicesClone.con.f n x := by kernel_rfl
theorem slicesClone.sound : SoundO Try.prog globs 39 slicesClone.con :=
  sound_byO (E := slicesClone.env) (c := slicesClone.body) (envOk (G := globs) (lc := []) (lo := []) (envB_spec (by kernel_rfl)) rfl rfl trivial rfl trivial (by kernel_rfl) (by kernel_rfl)) Try.func39 (by kernel_rfl) (by kernel_rfl) (by kernel_rfl) slicesClone.lp (l := []) (by kernel_rfl) (fun n => trivial) slicesClone.eq
noncomputable def bitsLen64.j7 (fu : Nat) (k1 : Int → Option (Int × Unit)) (xv : Int) (n : Int) : Option (Int × Unit) :=
  let t1 := decide (xv ≥ (256 : Int))
  cond t1 (
    let t2 := IntKind.i64.wrap (n + (8 : Int))
    let t3 := IntKind.u8.wrap (sShr .u64 xv (8 : Int))
    chk (ixOk ([0, 1, 2, 2, 3, 3, 3, 3, 4, 4, 4, 4, 4, 4, 4, 4, 5, 5, 5, 5, 5, 5, 5, 5, 5, 5, 5, 5, 5, 5, 5, 5, 6, 6, 6, 6, 6, 6, 6, 6, 6, 6, 6, 6, 6, 6, 6, 6, 6, 6, 6, 6, 6, 6, 6, 6, 6, 6, 6, 6, 6, 6, 6, 6, 7, 7, 7, 7, 7, 7, 7, 7, 7, 7, 7, 7, 7, 7, 7, 7, 7, 7, 7, 7, 7, 7, 7, 7, 7, 7, 7, 7, 7, 7, 7, 7, 7, 7, 7, 7, 7, 7, 7, 7, 7, 7, 7, 7, 7, 7, 7, 7, 7, 7, 7, 7, 7, 7, 7, 7, 7, 7, 7, 7, 7, 7, 7, 7, 8, 8, 8, 8, 8, 8, 8, 8, 8, 8, 8, 8, 8, 8, 8, 8, 8, 8, 8, 8, 8, 8, 8, 8, 8, 8, 8, 8, 8, 8, 8, 8, 8, 8, 8, 8, 8, 8, 8, 8, 8, 8, 8, 8, 8, 8, 8, 8, 8, 8, 8, 8, 8, 8, 8, 8, 8, 8, 8, 8, 8, 8, 8, 8, 8, 8, 8, 8, 8, 8, 8, 8, 8, 8, 8, 8, 8, 8, 8, 8, 8, 8, 8, 8, 8, 8, 8, 8, 8, 8, 8, 8, 8, 8, 8, 8, 8, 8, 8, 8, 8, 8, 8, 8, 8, 8, 8, 8, 8, 8, 8, 8, 8, 8, 8, 8, 8, 8, 8, 8, 8, 8, 8, 8, 8, 8, 8, 8] : List Int) t3) <|
    let t4 := ixL (0 : Int) ([0, 1, 2, 2, 3, 3, 3, 3, 4, 4, 4, 4, 4, 4, 4, 4, 5, 5, 5, 5, 5, 5, 5, 5, 5, 5, 5, 5, 5, 5, 5, 5, 6, 6, 6, 6, 6, 6, 6, 6, 6, 6, 6, 6, 6, 6, 6, 6, 6, 6, 6, 6, 6, 6, 6, 6, 6, 6, 6, 6, 6, 6, 6, 6, 7, 7, 7, 7, 7, 7, 7, 7, 7, 7, 7, 7, 7, 7, 7, 7, 7, 7, 7, 7, 7, 7, 7, 7, 7, 7, 7, 7, 7, 7, 7, 7, 7, 7, 7, 7, 7, 7, 7, 7, 7, 7, 7, 7, 7, 7, 7, 7, 7, 7, 7, 7, 7, 7, 7, 7, 7, 7, 7, 7, 7, 7, 7, 7, 8, 8, 8, 8, 8, 8, 8, 8, 8, 8, 8, 8, 8, 8, 8, 8, 8, 8, 8, 8, 8, 8, 8, 8, 8, 8, 8, 8, 8, 8, 8, 8, 8, 8, 8, 8, 8, 8, 8, 8, 8, 8, 8, 8, 8, 8, 8, 8, 8, 8, 8, 8, 8, 8, 8, 8, 8, 8, 8, 8, 8, 8, 8, 8, 8, 8, 8, 8, 8, 8, 8, 8, 8, 8, 8, 8, 8, 8, 8, 8, 8, 8, 8, 8, 8, 8, 8, 8, 8, 8, 8, 8, 8, 8, 8, 8, 8, 8, 8, 8, 8, 8, 8, 8, 8, 8, 8, 8, 8, 8, 8, 8, 8, 8, 8, 8, 8, 8, 8, 8, 8, 8, 8, 8, 8, 8, 8, 8] : List Int) t3
    let t5 := IntKind.i64.wrap (t2 + IntKind.i64.wrap t4)
    k1 t5) (
    chk (ixOk ([0, 1, 2, 2, 3, 3, 3, 3, 4, 4, 4, 4, 4, 4, 4, 4, 5, 5, 5, 5, 5, 5, 5, 5, 5, 5, 5, 5, 5, 5, 5, 5, 6, 6, 6, 6, 6, 6, 6, 6, 6, 6, 6, 6, 6, 6, 6, 6, 6, 6, 6, 6, 6, 6, 6, 6, 6, 6, 6, 6, 6, 6, 6, 6, 7, 7, 7, 7, 7, 7, 7, 7, 7, 7, 7, 7, 7, 7, 7, 7, 7, 7, 7, 7, 7, 7, 7, 7, 7, 7, 7, 7, 7, 7, 7, 7, 7, 7, 7, 7, 7, 7, 7, 7, 7, 7, 7, 7, 7, 7, 7, 7, 7, 7, 7, 7, 7, 7, 7, 7, 7, 7, 7, 7, 7, 7, 7, 7, 8, 8, 8, 8, 8, 8, 8, 8, 8, 8, 8, 8, 8, 8, 8, 8, 8, 8, 8, 8, 8, 8, 8, 8, 8, 8, 8, 8, 8, 8, 8, 8, 8, 8, 8, 8, 8, 8, 8, 8, 8, 8, 8, 8, 8, 8, 8, 8, 8, 8, 8, 8, 8, 8, 8, 8, 8, 8, 8, 8, 8, 8, 8, 8, 8, 8, 8, 8, 8, 8, 8, 8, 8, 8, 8, 8, 8, 8, 8, 8, 8, 8, 8, 8, 8, 8, 8, 8, 8, 8, 8, 8, 8, 8, 8, 8, 8, 8, 8, 8, 8, 8, 8, 8, 8, 8, 8, 8, 8, 8, 8, 8, 8, 8, 8, 8, 8, 8, 8, 8, 8, 8, 8, 8, 8, 8, 8, 8] : List Int) (IntKind.u8.wrap xv)) <|
    let t6 := ixL (0 : Int) ([0, 1, 2, 2, 3, 3, 3, 3, 4, 4, 4, 4, 4, 4, 4, 4, 5, 5, 5, 5, 5, 5, 5, 5, 5, 5, 5, 5, 5, 5, 5, 5, 6, 6, 6, 6, 6, 6, 6, 6, 6, 6, 6, 6, 6, 6, 6, 6, 6, 6, 6, 6, 6, 6, 6, 6, 6, 6, 6, 6, 6, 6, 6, 6, 7, 7, 7, 7, 7, 7, 7, 7, 7, 7, 7, 7, 7, 7, 7, 7, 7, 7, 7, 7, 7, 7, 7, 7, 7, 7, 7, 7, 7, 7, 7, 7, 7, 7, 7, 7, 7, 7, 7, 7, 7, 7, 7, 7, 7, 7, 7, 7, 7, 7, 7, 7, 7, 7, 7, 7, 7, 7, 7, 7, 7, 7, 7, 7, 8, 8, 8, 8, 8, 8, 8, 8, 8, 8, 8, 8, 8, 8, 8, 8, 8, 8, 8, 8, 8, 8, 8, 8, 8, 8, 8, 8, 8, 8, 8, 8, 8, 8, 8, 8, 8, 8, 8, 8, 8, 8, 8, 8, 8, 8, 8, 8, 8, 8, 8, 8, 8, 8, 8, 8, 8, 8, 8, 8, 8, 8, 8, 8, 8, 8, 8, 8, 8, 8, 8, 8, 8, 8, 8, 8, 8, 8, 8, 8, 8, 8, 8, 8, 8, 8, 8, 8, 8, 8, 8, 8, 8, 8, 8, 8, 8, 8, 8, 8, 8, 8, 8, 8, 8, 8, 8, 8, 8, 8, 8, 8, 8, 8, 8, 8, 8, 8, 8, 8, 8, 8, 8, 8, 8, 8, 8, 8] : List Int) (IntKind.u8.wrap xv)
    let t7 := IntKind.i64.wrap (n + IntKind.i64.wrap t6)
    k1 t7)
noncomputable def bitsLen64.j4 (fu : Nat) (k1 : Int → Option (Int × Unit)) (xv : Int) (n : Int) : Option (Int × Unit) :=
  let t1 := decide (xv ≥ (65536 : Int))
  cond t1 (
    let t2 := IntKind.i64.wrap (n + (16 : Int))
    bitsLen64.j7 fu (fun nq3 => 
        k1 nq3) (sShr .u64 xv (16 : Int)) t2) (
    bitsLen64.j7 fu (fun nq4 => 
        k1 nq4) xv n)
noncomputable def bitsLen64 (fu : Nat) (xv : Int) : Option (Int × Unit) :=
  let t1 := decide (xv ≥ (4294967296 : Int))
  cond t1 (
    bitsLen64.j4 fu (fun nq1 => 
        some (nq1, ())) (sShr .u64 xv (32 : Int)) (32 : Int)) (
    bitsLen64.j4 fu (fun nq2 => 
        some (nq2, ())) xv (0 : Int))

noncomputable def bitsLen64.body : Code := Try.f88.body.getD .skip
abbrev bitsLen64.shj7 : Shp := ⟨[.d (.int .u64), .u, .d (.int .i64), .u, .u, .u, .u, .u, .u, .u, .u, .u, .u, .u, .u, .u, .u, .u, .u, .u, .u, .u, .u, .u, .u], []⟩
abbrev bitsLen64.outj7e1 : Shp := ⟨[.u, .u, .d (.int .i64), .u, .u, .u, .u, .u, .u, .u, .u, .u, .u, .u, .u, .u, .u, .u, .u, .u, .u, .u, .u, .u, .u], []⟩
noncomputable def bitsLen64.nmj7 : Norm := ⟨{ keep := [0, 2], shut := [(0, (.int .u64)), (2, (.int .i64))], retag := [], heap := 0, dead := [], cshut := [], cretag := [] }, [(1, { keep := [2], shut := [(2, (.int .i64))], retag := [], heap := 0, dead := [], cshut := [], cretag := [] })]⟩
abbrev bitsLen64.shj4 : Shp := ⟨[.d (.int .u64), .u, .d (.int .i64), .u, .u, .u, .u, .u, .u, .u, .u, .u, .u, .u, .u, .u, .u, .u, .u, .u, .u, .u, .u, .u, .u], []⟩
abbrev bitsLen64.outj4e1 : Shp := ⟨[.u, .u, .d (.int .i64), .u, .u, .u, .u, .u, .u, .u, .u, .u, .u, .u, .u, .u, .u, .u, .u, .u, .u, .u, .u, .u, .u], []⟩
noncomputable def bitsLen64.nmj4 : Norm := ⟨{ keep := [0, 2], shut := [(0, (.int .u64)), (2, (.int .i64))], retag := [], heap := 0, dead := [], cshut := [], cretag := [] }, [(1, { keep := [2], shut := [(2, (.int .i64))], retag := [], heap := 0, dead := [], cshut := [], cretag := [] })]⟩
noncomputable def bitsLen64.con : Con := { ps := [(.int .u64)], rs := [(.int .i64)], f := fun n x => bitsLen64 n x.1 }
noncomputable def bitsLen64.env : Env := { tys := [(3, ⟨(.int .i64), 8⟩), (5, ⟨(.int .u8), 1⟩), (34, ⟨(.int .u64), 8⟩), (9, ⟨.str, 16⟩)], elems := [], ptrs := [], cons := [], objs := [], loops := [], cuts := [(7, bitsLen64.nmj7), (4, bitsLen64.nmj4)], globs := globs, base := 0 }
noncomputable def bitsLen64.lp (n : Nat) : LP (Kd.struct bitsLen64.con.rs).T := fun lo κ body nm K s =>
  cond (!lo && Nat.beq κ 7)
    (match bitsLen64.shj7.dec s with
    | some v => bitsLen64.j7 n (fun w0 => K .ret (bitsLen64.outj7e1.enc (w0, ()))) v.1 v.2.1
    | none => loops n (Kd.struct bitsLen64.con.rs).T lo κ body nm K s)
    (cond (!lo && Nat.beq κ 4)
    (match bitsLen64.shj4.dec s with
    | some v => bitsLen64.j4 n (fun w0 => K .ret (bitsLen64.outj4e1.enc (w0, ()))) v.1 v.2.1
    | none => loops n (Kd.struct bitsLen64.con.rs).T lo κ body nm K s)
    (loops n (Kd.struct bitsLen64.con.rs).T lo κ body nm K s))
theorem bitsLen64.atj7 (n : Nat) (s : St) (K : Ex → St → Option (Kd.struct bitsLen64.con.rs).T) : (bitsLen64.lp n) false 7 (evK bitsLen64.env (bitsLen64.lp n) n (sub [1, 1, 1] bitsLen64.body)) bitsLen64.nmj7 K s = loops n (Kd.struct bitsLen64.con.rs).T false 7 (evK bitsLen64.env (bitsLen64.lp n) n (sub [1, 1, 1] bitsLen64.body)) bitsLen64.nmj7 K s := by
  show (match bitsLen64.shj7.dec s with | some v => bitsLen64.j7 n (fun w0 => K .ret (bitsLen64.outj7e1.enc (w0, ()))) v.1 v.2.1 | none => loops n (Kd.struct bitsLen64.con.rs).T false 7 (evK bitsLen64.env (bitsLen64.lp n) n (sub [1, 1, 1] bitsLen64.body)) bitsLen64.nmj7 K s) = _
  cases h : bitsLen64.shj7.dec s with
  | none => rfl
  | some v =>
    rw [Shp.dec_enc h]
    kernel_rfl
theorem bitsLen64.atj4 (n : Nat) (s : St) (K : Ex → St → Option (Kd.struct bitsLen64.con.rs).T) : (bitsLen64.lp n) false 4 (evK bitsLen64.env (bitsLen64.lp n) n (sub [1, 1] bitsLen64.body)) bitsLen64.nmj4 K s = loops n (Kd.struct bitsLen64.con.rs).T false 4 (evK bitsLen64.env (bitsLen64.lp n) n (sub [1, 1] bitsLen64.body)) bitsLen64.nmj4 K s := by
  show (match bitsLen64.shj4.dec s with | some v => bitsLen64.j4 n (fun w0 => K .ret (bitsLen64.outj4e1.enc (w0, ()))) v.1 v.2.1 | none => loops n (Kd.struct bitsLen64.con.rs).T false 4 (evK bitsLen64.env (bitsLen64.lp n) n (sub [1, 1] bitsLen64.body)) bitsLen64.nmj4 K s) = _
  cases h : bitsLen64.shj4.dec s with
  | none => rfl
  | some v =>
    rw [Shp.dec_enc h]
    kernel_rfl
theorem bitsLen64.eq (n : Nat) (x : (Kd.struct bitsLen64.con.ps).T) : evFunc bitsLen64.env Try.f88 bitsLen64.body bitsLen64.con.ps bitsLen64.con.rs (bitsLen64.lp n) n x = bitsLen64.con.f n x := by kernel_rfl
theorem bitsLen64.sound : Sound Try.prog globs 88 bitsLen64.con :=
  sound_by (E := bitsLen64.env) (c := bitsLen64.body) (envOk (G := globs) (lc := []) (lo := []) (envB_spec (by kernel_rfl)) rfl rfl trivial rfl trivial (by kernel_rfl) (by kernel_rfl)) Try.func88 (by kernel_rfl) bitsLen64.lp (l := [(false, sub [1, 1, 1] bitsLen64.body, bitsLen64.nmj7), (false, sub [1, 1] bitsLen64.body, bitsLen64.nmj4)]) (by kernel_rfl) (fun n => ⟨bitsLen64.atj7 n, ⟨bitsLen64.atj4 n, trivial⟩⟩) bitsLen64.eq
noncomputable def packSize (fu : Nat) (n : Int) : Option (Int × Unit) :=
  (bitsLen64 fu n).bind fun r1 =>
  let t2 := IntKind.i64.wrap (max2 r1.1 (1 : Int) + (6 : Int))
  let t3 := IntKind.i64.wrap (Int.tdiv t2 (7 : Int))
  some (t3, ())

noncomputable def packSize.body : Code := Try.f87.body.getD .skip
noncomputable def packSize.con : Con := { ps := [(.int .u64)], rs := [(.int .i64)], f := fun n x => packSize n x.1 }
noncomputable def packSize.env : Env := { tys := [(3, ⟨(.int .i64), 8⟩)], elems := [], ptrs := [], cons := [(88, bitsLen64.con)], objs := [], loops := [], cuts := [], globs := globs, base := 0 }
noncomputable def packSize.lp (n : Nat) : LP (Kd.struct packSize.con.rs).T := fun lo κ body nm K s =>
  loops n (Kd.struct packSize.con.rs).T lo κ body nm K s
theorem packSize.eq (n : Nat) (x : (Kd.struct packSize.con.ps).T) : evFunc packSize.env Try.f87 packSize.body packSize.con.ps packSize.con.rs (packSize.lp n) n x = packSize.con.f n x := by kernel_rfl
theorem packSize.sound : Sound Try.prog globs 87 packSize.con :=
  sound_by (E := packSize.env) (c := packSize.body) (envOk (G := globs) (lc := [(88, bitsLen64.con)]) (lo := []) (envB_spec (by kernel_rfl)) rfl rfl ⟨.inl ⟨bitsLen64.sound, by kernel_rfl⟩, trivial⟩ rfl trivial (by kernel_rfl) (by kernel_rfl)) Try.func87 (by kernel_rfl) packSize.lp (l := []) (by kernel_rfl) (fun n => trivial) packSize.eq
noncomputable def packOwn (fu : Nat) (b : List Int) (room : Int) : Option (((List Int) × Unit) × (Unit)) :=
  let t1 := IntKind.i64.wrap ((b.length : Int) + room)
  chk (mkOk (0 : Int) t1 1) <|
  let t2 := List.replicate (0 : Int).toNat (0 : Int)
  chk (apOk t2 b 1) <|
  some ((t2 ++ b, ()), (()))

noncomputable def packOwn.body : Code := Try.f83.body.getD .skip
noncomputable def packOwn.con : OCon := { ps := [.dat (.slice (.int .u8)), .dat (.int .i64)], rs := [.own (.int .u8)], f := fun n x => packOwn n x.1 x.2.1 }
noncomputable def packOwn.env : Env := { tys := [(35, ⟨(.slice (.int .u8)), 24⟩), (5, ⟨(.int .u8), 1⟩)], elems := [(35, 5)], ptrs := [], cons := [], objs := [], loops := [], cuts := [], globs := globs, base := 0 }
noncomputable def packOwn.lp (n : Nat) : LP (RT packOwn.con.rs × BT packOwn.con.ps) := fun lo κ body nm K s =>
  loops n (RT packOwn.con.rs × BT packOwn.con.ps) lo κ body nm K s
theorem packOwn.eq (n : Nat) (x : PT packOwn.con.ps) : evFuncO packOwn.env Try.f83 packOwn.body packOwn.con.ps packOwn.con.rs (packOwn.lp n) n x = packOwn.con.f n x := by kernel_rfl
theorem packOwn.sound : SoundO Try.prog globs 83 packOwn.con :=
  sound_byO (E := packOwn.env) (c := packOwn.body) (envOk (G := globs) (lc := []) (lo := []) (envB_spec (by kernel_rfl)) rfl rfl trivial rfl trivial (by kernel_rfl) (by kernel_rfl)) Try.func83 (by kernel_rfl) (by kernel_rfl) (by kernel_rfl) packOwn.lp (l := []) (by kernel_rfl) (fun n => trivial) packOwn.eq
noncomputable def packPutDat.b2 (fu : Nat) (next : Int → (List Int) → Option ((List Int) × Unit)) (k2 : Int → (List Int) → Option ((List Int) × Unit)) (n : Int) (out : List Int) : Option ((List Int) × Unit) :=
  cond (decide (n ≥ (128 : Int))) (
    let t1 := bOr .u8 (IntKind.u8.wrap n) (128 : Int)
    chk (apOk out ([t1]) 1) <|
    next (sShr .u64 n (7 : Int)) (out ++ ([t1]))) (
    k2 n out)
noncomputable def packPutDat.l2 (fu : Nat) (k2 : Int → (List Int) → Option ((List Int) × Unit)) : Nat → Int → (List Int) → Option ((List Int) × Unit)
  | 0, _, _ => none
  | m + 1, n, out => packPutDat.b2 fu (packPutDat.l2 fu k2 m) k2 n out
noncomputable def packPutDat (fu : Nat) (b : List Int) (n : Int) : Option ((List Int) × Unit) :=
  (packSize fu n).bind fun r1 =>
  (packOwn fu b r1.1).bind fun r2 =>
  packPutDat.l2 fu (fun nq2 outq2 => 
      chk (apOk outq2 ([IntKind.u8.wrap nq2]) 1) <|
      let t3 := outq2 ++ ([IntKind.u8.wrap nq2])
      some (t3, ())) fu n r2.1.1

noncomputable def packPutDat.body : Code := Try.f82.body.getD .skip
abbrev packPutDat.shl2 : Shp := ⟨[.u, .d (.int .u64), .u, .u, .u, .o 5 (.int .u8), .u, .u, .u, .u, .u, .u, .u, .u, .u, .u, .u, .u, .u, .u, .u, .u, .u, .u, .u], []⟩
abbrev packPutDat.outl2e2 : Shp := ⟨[.u, .d (.int .u64), .u, .u, .u, .o 5 (.int .u8), .u, .u, .u, .u, .u, .u, .u, .u, .u, .u, .u, .u, .u, .u, .u, .u, .u, .u, .u], []⟩
noncomputable def packPutDat.nml2 : Norm := ⟨{ keep := [1, 5], shut := [(1, (.int .u64))], retag := [(5, 5, (.int .u8))], heap := 0, dead := [], cshut := [], cretag := [] }, [(2, { keep := [1, 5], shut := [(1, (.int .u64))], retag := [(5, 5, (.int .u8))], heap := 0, dead := [], cshut := [], cretag := [] })]⟩
noncomputable def packPutDat.con : Con := { ps := [(.slice (.int .u8)), (.int .u64)], rs := [(.slice (.int .u8))], f := fun n x => packPutDat n x.1 x.2.1 }
noncomputable def packPutDat.env : Env := { tys := [(35, ⟨(.slice (.int .u8)), 24⟩), (5, ⟨(.int .u8), 1⟩), (34, ⟨(.int .u64), 8⟩)], elems := [(35, 5)], ptrs := [], cons := [(87, packSize.con)], objs := [(83, [packOwn.con])], loops := [(2, packPutDat.nml2)], cuts := [], globs := globs, base := 0 }
noncomputable def packPutDat.lp (n : Nat) : LP (Kd.struct packPutDat.con.rs).T := fun lo κ body nm K s =>
  cond (lo && Nat.beq κ 2)
    (match packPutDat.shl2.dec s with
    | some v => packPutDat.l2 n (fun w0 w1 => K (.exit 0) (packPutDat.outl2e2.enc (w0, w1, ()))) n v.1 v.2.1
    | none => loops n (Kd.struct packPutDat.con.rs).T lo κ body nm K s)
    (loops n (Kd.struct packPutDat.con.rs).T lo κ body nm K s)
theorem packPutDat.atl2 (n : Nat) (s : St) (K : Ex → St → Option (Kd.struct packPutDat.con.rs).T) : (packPutDat.lp n) true 2 (evK packPutDat.env (packPutDat.lp n) n (sub [1, 1, 0, 0, 0] packPutDat.body)) packPutDat.nml2 K s = loops n (Kd.struct packPutDat.con.rs).T true 2 (evK packPutDat.env (packPutDat.lp n) n (sub [1, 1, 0, 0, 0] packPutDat.body)) packPutDat.nml2 K s := by
  show (match packPutDat.shl2.dec s with | some v => packPutDat.l2 n (fun w0 w1 => K (.exit 0) (packPutDat.outl2e2.enc (w0, w1, ()))) n v.1 v.2.1 | none => loops n (Kd.struct packPutDat.con.rs).T true 2 (evK packPutDat.env (packPutDat.lp n) n (sub [1, 1, 0, 0, 0] packPutDat.body)) packPutDat.nml2 K s) = _
  cases h : packPutDat.shl2.dec s with
  | none => rfl
  | some v =>
    rw [Shp.dec_enc h]
    exact (evLoop_eq (sh := packPutDat.shl2) (body := evK packPutDat.env (packPutDat.lp n) n (sub [1, 1, 0, 0, 0] packPutDat.body)) (nm := packPutDat.nml2) (K := K) (b := fun nx v => packPutDat.b2 n (fun x0 x1 => nx (x0, x1, ())) (fun w0 w1 => K (.exit 0) (packPutDat.outl2e2.enc (w0, w1, ()))) v.1 v.2.1) (l := fun m v => packPutDat.l2 n (fun w0 w1 => K (.exit 0) (packPutDat.outl2e2.enc (w0, w1, ()))) m v.1 v.2.1) (fun _ => rfl) (fun _ _ => rfl) (fun m v => by kernel_rfl) n v).symm
theorem packPutDat.eq (n : Nat) (x : (Kd.struct packPutDat.con.ps).T) : evFunc packPutDat.env Try.f82 packPutDat.body packPutDat.con.ps packPutDat.con.rs (packPutDat.lp n) n x = packPutDat.con.f n x := by kernel_rfl
theorem packPutDat.sound : Sound Try.prog globs 82 packPutDat.con :=
  sound_by (E := packPutDat.env) (c := packPutDat.body) (envOk (G := globs) (lc := [(87, packSize.con)]) (lo := [(83, [packOwn.con])]) (envB_spec (by kernel_rfl)) rfl rfl ⟨.inl ⟨packSize.sound, by kernel_rfl⟩, trivial⟩ rfl ⟨⟨⟨packOwn.sound, trivial⟩, by kernel_rfl⟩, trivial⟩ (by kernel_rfl) (by kernel_rfl)) Try.func82 (by kernel_rfl) packPutDat.lp (l := [(true, sub [1, 1, 0, 0, 0] packPutDat.body, packPutDat.nml2)]) (by kernel_rfl) (fun n => ⟨packPutDat.atl2 n, trivial⟩) packPutDat.eq
noncomputable def packPutInt (fu : Nat) (b : List Int) (n : Int) : Option ((List Int) × Unit) :=
  let t1 := sShl .u64 (IntKind.u64.wrap n) (1 : Int)
  let t2 := IntKind.u64.wrap (sShr .i64 n (63 : Int))
  (packPutDat fu b (bXor .u64 t1 t2)).bind fun r3 =>
  some (r3.1, ())

noncomputable def packPutInt.body : Code := Try.f73.body.getD .skip
noncomputable def packPutInt.con : Con := { ps := [(.slice (.int .u8)), (.int .i64)], rs := [(.slice (.int .u8))], f := fun n x => packPutInt n x.1 x.2.1 }
noncomputable def packPutInt.env : Env := { tys := [(35, ⟨(.slice (.int .u8)), 24⟩), (34, ⟨(.int .u64), 8⟩), (2, ⟨(.int .i64), 8⟩)], elems := [], ptrs := [], cons := [(82, packPutDat.con)], objs := [], loops := [], cuts := [], globs := globs, base := 0 }
noncomputable def packPutInt.lp (n : Nat) : LP (Kd.struct packPutInt.con.rs).T := fun lo κ body nm K s =>
  loops n (Kd.struct packPutInt.con.rs).T lo κ body nm K s
theorem packPutInt.eq (n : Nat) (x : (Kd.struct packPutInt.con.ps).T) : evFunc packPutInt.env Try.f73 packPutInt.body packPutInt.con.ps packPutInt.con.rs (packPutInt.lp n) n x = packPutInt.con.f n x := by kernel_rfl
theorem packPutInt.sound : Sound Try.prog globs 73 packPutInt.con :=
  sound_by (E := packPutInt.env) (c := packPutInt.body) (envOk (G := globs) (lc := [(82, packPutDat.con)]) (lo := []) (envB_spec (by kernel_rfl)) rfl rfl ⟨.inl ⟨packPutDat.sound, by kernel_rfl⟩, trivial⟩ rfl trivial (by kernel_rfl) (by kernel_rfl)) Try.func73 (by kernel_rfl) packPutInt.lp (l := []) (by kernel_rfl) (fun n => trivial) packPutInt.eq
noncomputable def realBits (fu : Nat) (xv : Nat) : Option (Int × Unit) :=
  cond (fNeq xv xv) (
    some ((9221120237041090560 : Int), ())) (
    (extBits.f fu (xv, ())).bind fun r1 =>
    some (r1.1, ()))

noncomputable def realBits.body : Code := Try.f84.body.getD .skip
noncomputable def realBits.con : Con := { ps := [.flt], rs := [(.int .u64)], f := fun n x => realBits n x.1 }
noncomputable def realBits.env : Env := { tys := [(34, ⟨(.int .u64), 8⟩)], elems := [], ptrs := [], cons := [(76, extBits)], objs := [], loops := [], cuts := [], globs := globs, base := 0 }
noncomputable def realBits.lp (n : Nat) : LP (Kd.struct realBits.con.rs).T := fun lo κ body nm K s =>
  loops n (Kd.struct realBits.con.rs).T lo κ body nm K s
theorem realBits.eq (n : Nat) (x : (Kd.struct realBits.con.ps).T) : evFunc realBits.env Try.f84 realBits.body realBits.con.ps realBits.con.rs (realBits.lp n) n x = realBits.con.f n x := by kernel_rfl
theorem realBits.sound : Sound Try.prog globs 84 realBits.con :=
  sound_by (E := realBits.env) (c := realBits.body) (envOk (G := globs) (lc := [(76, extBits)]) (lo := []) (envB_spec (by kernel_rfl)) rfl rfl ⟨.inr (extBits_ok Try.func76 (by kernel_rfl) (by kernel_rfl) (by kernel_rfl) (by kernel_rfl)), trivial⟩ rfl trivial (by kernel_rfl) (by kernel_rfl)) Try.func84 (by kernel_rfl) realBits.lp (l := []) (by kernel_rfl) (fun n => trivial) realBits.eq
noncomputable def packPutRealDat.b4 (fu : Nat) (next : (List Int) → Int → Int → Option ((List Int) × Unit)) (k2 : (List Int) → Option ((List Int) × Unit)) (out : List Int) (n : Int) (i : Int) : Option ((List Int) × Unit) :=
  cond (decide (i ≥ (0 : Int))) (
    chk (!decide (i < 0)) <|
    let t1 := IntKind.u8.wrap (sShr .u64 n i)
    chk (apOk out ([t1]) 1) <|
    let t2 := IntKind.i64.wrap (i - (8 : Int))
    next (out ++ ([t1])) n t2) (
    k2 out)
noncomputable def packPutRealDat.l4 (fu : Nat) (k2 : (List Int) → Option ((List Int) × Unit)) : Nat → (List Int) → Int → Int → Option ((List Int) × Unit)
  | 0, _, _, _ => none
  | m + 1, out, n, i => packPutRealDat.b4 fu (packPutRealDat.l4 fu k2 m) k2 out n i
noncomputable def packPutRealDat (fu : Nat) (b : List Int) (xv : Nat) : Option ((List Int) × Unit) :=
  (packOwn fu b (8 : Int)).bind fun r1 =>
  (realBits fu xv).bind fun r2 =>
  packPutRealDat.l4 fu (fun outq2 => 
      some (outq2, ())) fu r1.1.1 r2.1 (56 : Int)

noncomputable def packPutRealDat.body : Code := Try.f74.body.getD .skip
abbrev packPutRealDat.shl4 : Shp := ⟨[.u, .u, .u, .u, .u, .o 5 (.int .u8), .d (.int .u64), .d (.int .i64), .u, .u, .u, .u, .u, .u, .u, .u, .u, .u, .u, .u, .u, .u, .u, .u], []⟩
abbrev packPutRealDat.outl4e2 : Shp := ⟨[.u, .u, .u, .u, .u, .o 5 (.int .u8), .u, .u, .u, .u, .u, .u, .u, .u, .u, .u, .u, .u, .u, .u, .u, .u, .u, .u], []⟩
noncomputable def packPutRealDat.nml4 : Norm := ⟨{ keep := [5, 6, 7], shut := [(6, (.int .u64)), (7, (.int .i64))], retag := [(5, 5, (.int .u8))], heap := 0, dead := [], cshut := [], cretag := [] }, [(2, { keep := [5], shut := [], retag := [(5, 5, (.int .u8))], heap := 0, dead := [], cshut := [], cretag := [] })]⟩
noncomputable def packPutRealDat.con : Con := { ps := [(.slice (.int .u8)), .flt], rs := [(.slice (.int .u8))], f := fun n x => packPutRealDat n x.1 x.2.1 }
noncomputable def packPutRealDat.env : Env := { tys := [(35, ⟨(.slice (.int .u8)), 24⟩), (3, ⟨(.int .i64), 8⟩), (5, ⟨(.int .u8), 1⟩), (34, ⟨(.int .u64), 8⟩)], elems := [(35, 5)], ptrs := [], cons := [(84, realBits.con)], objs := [(83, [packOwn.con])], loops := [(4, packPutRealDat.nml4)], cuts := [], globs := globs, base := 0 }
noncomputable def packPutRealDat.lp (n : Nat) : LP (Kd.struct packPutRealDat.con.rs).T := fun lo κ body nm K s =>
  cond (lo && Nat.beq κ 4)
    (match packPutRealDat.shl4.dec s with
    | some v => packPutRealDat.l4 n (fun w0 => K (.exit 0) (packPutRealDat.outl4e2.enc (w0, ()))) n v.1 v.2.1 v.2.2.1
    | none => loops n (Kd.struct packPutRealDat.con.rs).T lo κ body nm K s)
    (loops n (Kd.struct packPutRealDat.con.rs).T lo κ body nm K s)
theorem packPutRealDat.atl4 (n : Nat) (s : St) (K : Ex → St → Option (Kd.struct packPutRealDat.con.rs).T) : (packPutRealDat.lp n) true 4 (evK packPutRealDat.env (packPutRealDat.lp n) n (sub [1, 1, 1, 0, 1, 0, 0] packPutRealDat.body)) packPutRealDat.nml4 K s = loops n (Kd.struct packPutRealDat.con.rs).T true 4 (evK packPutRealDat.env (packPutRealDat.lp n) n (sub [1, 1, 1, 0, 1, 0, 0] packPutRealDat.body)) packPutRealDat.nml4 K s := by
  show (match packPutRealDat.shl4.dec s with | some v => packPutRealDat.l4 n (fun w0 => K (.exit 0) (packPutRealDat.outl4e2.enc (w0, ()))) n v.1 v.2.1 v.2.2.1 | none => loops n (Kd.struct packPutRealDat.con.rs).T true 4 (evK packPutRealDat.env (packPutRealDat.lp n) n (sub [1, 1, 1, 0, 1, 0, 0] packPutRealDat.body)) packPutRealDat.nml4 K s) = _
  cases h : packPutRealDat.shl4.dec s with
  | none => rfl
  | some v =>
    rw [Shp.dec_enc h]
    exact (evLoop_eq (sh := packPutRealDat.shl4) (body := evK packPutRealDat.env (packPutRealDat.lp n) n (sub [1, 1, 1, 0, 1, 0, 0] packPutRealDat.body)) (nm := packPutRealDat.nml4) (K := K) (b := fun nx v => packPutRealDat.b4 n (fun x0 x1 x2 => nx (x0, x1, x2, ())) (fun w0 => K (.exit 0) (packPutRealDat.outl4e2.enc (w0, ()))) v.1 v.2.1 v.2.2.1) (l := fun m v => packPutRealDat.l4 n (fun w0 => K (.exit 0) (packPutRealDat.outl4e2.enc (w0, ()))) m v.1 v.2.1 v.2.2.1) (fun _ => rfl) (fun _ _ => rfl) (fun m v => by kernel_rfl) n v).symm
theorem packPutRealDat.eq (n : Nat) (x : (Kd.struct packPutRealDat.con.ps).T) : evFunc packPutRealDat.env Try.f74 packPutRealDat.body packPutRealDat.con.ps packPutRealDat.con.rs (packPutRealDat.lp n) n x = packPutRealDat.con.f n x := by kernel_rfl
theorem packPutRealDat.sound : Sound Try.prog globs 74 packPutRealDat.con :=
  sound_by (E := packPutRealDat.env) (c := packPutRealDat.body) (envOk (G := globs) (lc := [(84, realBits.con)]) (lo := [(83, [packOwn.con])]) (envB_spec (by kernel_rfl)) rfl rfl ⟨.inl ⟨realBits.sound, by kernel_rfl⟩, trivial⟩ rfl ⟨⟨⟨packOwn.sound, trivial⟩, by kernel_rfl⟩, trivial⟩ (by kernel_rfl) (by kernel_rfl)) Try.func74 (by kernel_rfl) packPutRealDat.lp (l := [(true, sub [1, 1, 1, 0, 1, 0, 0] packPutRealDat.body, packPutRealDat.nml4)]) (by kernel_rfl) (fun n => ⟨packPutRealDat.atl4 n, trivial⟩) packPutRealDat.eq
noncomputable def packPut.b2 (fu : Nat) (next : Int → (List Int) → Option (((List Int) × Unit) × (Unit))) (k2 : Int → (List Int) → Option (((List Int) × Unit) × (Unit))) (n : Int) (out : List Int) : Option (((List Int) × Unit) × (Unit)) :=
  cond (decide (n ≥ (128 : Int))) (
    let t1 := bOr .u8 (IntKind.u8.wrap n) (128 : Int)
    chk (apOk out ([t1]) 1) <|
    next (sShr .u64 n (7 : Int)) (out ++ ([t1]))) (
    k2 n out)
noncomputable def packPut.l2 (fu : Nat) (k2 : Int → (List Int) → Option (((List Int) × Unit) × (Unit))) : Nat → Int → (List Int) → Option (((List Int) × Unit) × (Unit))
  | 0, _, _ => none
  | m + 1, n, out => packPut.b2 fu (packPut.l2 fu k2 m) k2 n out
noncomputable def packPut (fu : Nat) (b : List Int) (n : Int) : Option (((List Int) × Unit) × (Unit)) :=
  (packSize fu n).bind fun r1 =>
  (packOwn fu b r1.1).bind fun r2 =>
  packPut.l2 fu (fun nq2 outq2 => 
      chk (apOk outq2 ([IntKind.u8.wrap nq2]) 1) <|
      let t3 := outq2 ++ ([IntKind.u8.wrap nq2])
      some ((t3, ()), (()))) fu n r2.1.1

noncomputable def packPut.body : Code := Try.f82.body.getD .skip
abbrev packPut.shl2 : Shp := ⟨[.u, .d (.int .u64), .u, .u, .u, .o 5 (.int .u8), .u, .u, .u, .u, .u, .u, .u, .u, .u, .u, .u, .u, .u, .u, .u, .u, .u, .u, .u], []⟩
abbrev packPut.outl2e2 : Shp := ⟨[.u, .d (.int .u64), .u, .u, .u, .o 5 (.int .u8), .u, .u, .u, .u, .u, .u, .u, .u, .u, .u, .u, .u, .u, .u, .u, .u, .u, .u, .u], []⟩
noncomputable def packPut.nml2 : Norm := ⟨{ keep := [1, 5], shut := [(1, (.int .u64))], retag := [(5, 5, (.int .u8))], heap := 0, dead := [], cshut := [], cretag := [] }, [(2, { keep := [1, 5], shut := [(1, (.int .u64))], retag := [(5, 5, (.int .u8))], heap := 0, dead := [], cshut := [], cretag := [] })]⟩
noncomputable def packPut.con : OCon := { ps := [.dat (.slice (.int .u8)), .dat (.int .u64)], rs := [.own (.int .u8)], f := fun n x => packPut n x.1 x.2.1 }
noncomputable def packPut.env : Env := { tys := [(35, ⟨(.slice (.int .u8)), 24⟩), (5, ⟨(.int .u8), 1⟩), (34, ⟨(.int .u64), 8⟩)], elems := [(35, 5)], ptrs := [], cons := [(87, packSize.con)], objs := [(83, [packOwn.con])], loops := [(2, packPut.nml2)], cuts := [], globs := globs, base := 0 }
noncomputable def packPut.lp (n : Nat) : LP (RT packPut.con.rs × BT packPut.con.ps) := fun lo κ body nm K s =>
  cond (lo && Nat.beq κ 2)
    (match packPut.shl2.dec s with
    | some v => packPut.l2 n (fun w0 w1 => K (.exit 0) (packPut.outl2e2.enc (w0, w1, ()))) n v.1 v.2.1
    | none => loops n (RT packPut.con.rs × BT packPut.con.ps) lo κ body nm K s)
    (loops n (RT packPut.con.rs × BT packPut.con.ps) lo κ body nm K s)
theorem packPut.atl2 (n : Nat) (s : St) (K : Ex → St → Option (RT packPut.con.rs × BT packPut.con.ps)) : (packPut.lp n) true 2 (evK packPut.env (packPut.lp n) n (sub [1, 1, 0, 0, 0] packPut.body)) packPut.nml2 K s = loops n (RT packPut.con.rs × BT packPut.con.ps) true 2 (evK packPut.env (packPut.lp n) n (sub [1, 1, 0, 0, 0] packPut.body)) packPut.nml2 K s := by
  show (match packPut.shl2.dec s with | some v => packPut.l2 n (fun w0 w1 => K (.exit 0) (packPut.outl2e2.enc (w0, w1, ()))) n v.1 v.2.1 | none => loops n (RT packPut.con.rs × BT packPut.con.ps) true 2 (evK packPut.env (packPut.lp n) n (sub [1, 1, 0, 0, 0] packPut.body)) packPut.nml2 K s) = _
  cases h : packPut.shl2.dec s with
  | none => rfl
  | some v =>
    rw [Shp.dec_enc h]
    exact (evLoop_eq (sh := packPut.shl2) (body := evK packPut.env (packPut.lp n) n (sub [1, 1, 0, 0, 0] packPut.body)) (nm := packPut.nml2) (K := K) (b := fun nx v => packPut.b2 n (fun x0 x1 => nx (x0, x1, ())) (fun w0 w1 => K (.exit 0) (packPut.outl2e2.enc (w0, w1, ()))) v.1 v.2.1) (l := fun m v => packPut.l2 n (fun w0 w1 => K (.exit 0) (packPut.outl2e2.enc (w0, w1, ()))) m v.1 v.2.1) (fun _ => rfl) (fun _ _ => rfl) (fun m v => by kernel_rfl) n v).symm
theorem packPut.eq (n : Nat) (x : PT packPut.con.ps) : evFuncO packPut.env Try.f82 packPut.body packPut.con.ps packPut.con.rs (packPut.lp n) n x = packPut.con.f n x := by kernel_rfl
theorem packPut.sound : SoundO Try.prog globs 82 packPut.con :=
  sound_byO (E := packPut.env) (c := packPut.body) (envOk (G := globs) (lc := [(87, packSize.con)]) (lo := [(83, [packOwn.con])]) (envB_spec (by kernel_rfl)) rfl rfl ⟨.inl ⟨packSize.sound, by kernel_rfl⟩, trivial⟩ rfl ⟨⟨⟨packOwn.sound, trivial⟩, by kernel_rfl⟩, trivial⟩ (by kernel_rfl) (by kernel_rfl)) Try.func82 (by kernel_rfl) (by kernel_rfl) (by kernel_rfl) packPut.lp (l := [(true, sub [1, 1, 0, 0, 0] packPut.body, packPut.nml2)]) (by kernel_rfl) (fun n => ⟨packPut.atl2 n, trivial⟩) packPut.eq
noncomputable def packPutText (fu : Nat) (b : List Int) (sv : List Int) : Option ((List Int) × Unit) :=
  let t1 := IntKind.u64.wrap (sv.length : Int)
  (packPut fu b t1).bind fun r2 =>
  chk (apOk r2.1.1 sv 1) <|
  some (r2.1.1 ++ sv, ())

noncomputable def packPutText.body : Code := Try.f75.body.getD .skip
noncomputable def packPutText.con : Con := { ps := [(.slice (.int .u8)), .str], rs := [(.slice (.int .u8))], f := fun n x => packPutText n x.1 x.2.1 }
noncomputable def packPutText.env : Env := { tys := [(35, ⟨(.slice (.int .u8)), 24⟩), (9, ⟨.str, 16⟩), (34, ⟨(.int .u64), 8⟩), (3, ⟨(.int .i64), 8⟩), (5, ⟨(.int .u8), 1⟩)], elems := [(35, 5)], ptrs := [], cons := [], objs := [(82, [packPut.con])], loops := [], cuts := [], globs := globs, base := 0 }
noncomputable def packPutText.lp (n : Nat) : LP (Kd.struct packPutText.con.rs).T := fun lo κ body nm K s =>
  loops n (Kd.struct packPutText.con.rs).T lo κ body nm K s
theorem packPutText.eq (n : Nat) (x : (Kd.struct packPutText.con.ps).T) : evFunc packPutText.env Try.f75 packPutText.body packPutText.con.ps packPutText.con.rs (packPutText.lp n) n x = packPutText.con.f n x := by kernel_rfl
theorem packPutText.sound : Sound Try.prog globs 75 packPutText.con :=
  sound_by (E := packPutText.env) (c := packPutText.body) (envOk (G := globs) (lc := []) (lo := [(82, [packPut.con])]) (envB_spec (by kernel_rfl)) rfl rfl trivial rfl ⟨⟨⟨packPut.sound, trivial⟩, by kernel_rfl⟩, trivial⟩ (by kernel_rfl) (by kernel_rfl)) Try.func75 (by kernel_rfl) packPutText.lp (l := []) (by kernel_rfl) (fun n => trivial) packPutText.eq
noncomputable def valuePut (fu : Nat) (b : List Int) (v : S3) : Option ((List Int) × Int × Unit) :=
  (valueMay fu v).bind fun r1 =>
  cond (!r1.1) (
    some ([], (1 : Int), ())) (
    let t2 := IntKind.i64.wrap ((b.length : Int) + (1 : Int))
    chk (mkOk (0 : Int) t2 1) <|
    let t3 := List.replicate (0 : Int).toNat (0 : Int)
    chk (apOk t3 b 1) <|
    chk (apOk (t3 ++ b) ([v.1]) 1) <|
    cond (v.1 == (1 : Int)) (
      (packPutInt fu ((t3 ++ b) ++ ([v.1])) v.2.1).bind fun r4 =>
      some (r4.1, (0 : Int), ())) (
      cond (v.1 == (2 : Int)) (
        (packPutRealDat fu ((t3 ++ b) ++ ([v.1])) v.2.2.1).bind fun r5 =>
        some (r5.1, (0 : Int), ())) (
        cond (v.1 == (3 : Int)) (
          (packPutText fu ((t3 ++ b) ++ ([v.1])) v.2.2.2.1).bind fun r6 =>
          some (r6.1, (0 : Int), ())) (
          some ((t3 ++ b) ++ ([v.1]), (0 : Int), ())))))

noncomputable def valuePut.body : Code := Try.f61.body.getD .skip
noncomputable def valuePut.con : Con := { ps := [(.slice (.int .u8)), kS3], rs := [(.slice (.int .u8)), (.int .i64)], f := fun n x => valuePut n x.1 x.2.1 }
noncomputable def valuePut.env : Env := { tys := [(112, ⟨kS3, 40⟩), (35, ⟨(.slice (.int .u8)), 24⟩), (27, ⟨(.int .i64), 8⟩), (5, ⟨(.int .u8), 1⟩), (2, ⟨(.int .i64), 8⟩), (110, ⟨.flt, 8⟩), (9, ⟨.str, 16⟩)], elems := [(35, 5)], ptrs := [], cons := [(72, valueMay.con), (73, packPutInt.con), (74, packPutRealDat.con), (75, packPutText.con)], objs := [], loops := [], cuts := [], globs := globs, base := 0 }
noncomputable def valuePut.lp (n : Nat) : LP (Kd.struct valuePut.con.rs).T := fun lo κ body nm K s =>
  loops n (Kd.struct valuePut.con.rs).T lo κ body nm K s
theorem valuePut.eq (n : Nat) (x : (Kd.struct valuePut.con.ps).T) : evFunc valuePut.env Try.f61 valuePut.body valuePut.con.ps valuePut.con.rs (valuePut.lp n) n x = valuePut.con.f n x := by kernel_rfl
theorem valuePut.sound : Sound Try.prog globs 61 valuePut.con :=
  sound_by (E := valuePut.env) (c := valuePut.body) (envOk (G := globs) (lc := [(72, valueMay.con), (73, packPutInt.con), (74, packPutRealDat.con), (75, packPutText.con)]) (lo := []) (envB_spec (by kernel_rfl)) rfl rfl ⟨.inl ⟨valueMay.sound, by kernel_rfl⟩, ⟨.inl ⟨packPutInt.sound, by kernel_rfl⟩, ⟨.inl ⟨packPutRealDat.sound, by kernel_rfl⟩, ⟨.inl ⟨packPutText.sound, by kernel_rfl⟩, trivial⟩⟩⟩⟩ rfl trivial (by kernel_rfl) (by kernel_rfl)) Try.func61 (by kernel_rfl) valuePut.lp (l := []) (by kernel_rfl) (fun n => trivial) valuePut.eq
noncomputable def eventPut.b5 (fu : Nat) (next : (List Int) → (List S3) → Int → Int → Option ((List Int) × Int × Unit)) (k2 : (List Int) → Option ((List Int) × Int × Unit)) (out : List Int) (v : List S3) (vx2 : Int) (vx3 : Int) : Option ((List Int) × Int × Unit) :=
  cond (decide (vx3 < vx2)) (
    chk (ixOk v vx3) <|
    let e1 := ixL ((0 : Int), (0 : Int), (0 : Nat), [], ()) v vx3
    (valuePut fu out e1).bind fun r2 =>
    let t3 := IntKind.i64.wrap (vx3 + (1 : Int))
    next r2.1 v vx2 t3) (
    k2 out)
noncomputable def eventPut.l5 (fu : Nat) (k2 : (List Int) → Option ((List Int) × Int × Unit)) : Nat → (List Int) → (List S3) → Int → Int → Option ((List Int) × Int × Unit)
  | 0, _, _, _, _ => none
  | m + 1, out, v, vx2, vx3 => eventPut.b5 fu (eventPut.l5 fu k2 m) k2 out v vx2 vx3
noncomputable def eventPut (fu : Nat) (b : List Int) (ev : S4) : Option ((List Int) × Int × Unit) :=
  (eventMay fu ev).bind fun r1 =>
  cond (!r1.1) (
    some ([], (1 : Int), ())) (
    (slicesClone fu b).bind fun r2 =>
    let t3 := IntKind.u8.wrap (ev.2.1.length : Int)
    chk (apOk r2.1.1 ([ev.1, t3]) 1) <|
    eventPut.l5 fu (fun outq2 => 
        some (outq2, (0 : Int), ())) fu (r2.1.1 ++ ([ev.1, t3])) ev.2.1 (ev.2.1.length : Int) (0 : Int))

noncomputable def eventPut.body : Code := Try.f47.body.getD .skip
abbrev eventPut.shl5 : Shp := ⟨[.u, .u, .u, .u, .u, .u, .d (.slice (.int .u8)), .u, .u, .u, .u, .u, .u, .u, .u, .u, .u, .u, .u, .u, .u, .u, .u, .d (.slice kS3), .d (.int .i64), .d (.int .i64), .u, .u, .u, .u, .u, .u, .u, .u, .u, .u, .u], []⟩
abbrev eventPut.outl5e2 : Shp := ⟨[.u, .u, .u, .u, .u, .u, .d (.slice (.int .u8)), .u, .u, .u, .u, .u, .u, .u, .u, .u, .u, .u, .u, .u, .u, .u, .u, .u, .u, .u, .u, .u, .u, .u, .u, .u, .u, .u, .u, .u, .u], []⟩
noncomputable def eventPut.nml5 : Norm := ⟨{ keep := [6, 23, 24, 25], shut := [(6, (.slice (.int .u8))), (23, (.slice kS3)), (24, (.int .i64)), (25, (.int .i64))], retag := [], heap := 0, dead := [], cshut := [], cretag := [] }, [(2, { keep := [6], shut := [(6, (.slice (.int .u8)))], retag := [], heap := 0, dead := [], cshut := [], cretag := [] })]⟩
noncomputable def eventPut.con : Con := { ps := [(.slice (.int .u8)), kS4], rs := [(.slice (.int .u8)), (.int .i64)], f := fun n x => eventPut n x.1 x.2.1 }
noncomputable def eventPut.env : Env := { tys := [(63, ⟨kS4, 32⟩), (35, ⟨(.slice (.int .u8)), 24⟩), (27, ⟨(.int .i64), 8⟩), (5, ⟨(.int .u8), 1⟩), (61, ⟨(.slice kS3), 24⟩), (112, ⟨kS3, 40⟩), (3, ⟨(.int .i64), 8⟩)], elems := [(61, 112), (35, 5)], ptrs := [], cons := [(60, eventMay.con), (61, valuePut.con)], objs := [(39, [slicesClone.con])], loops := [(5, eventPut.nml5)], cuts := [], globs := globs, base := 0 }
noncomputable def eventPut.lp (n : Nat) : LP (Kd.struct eventPut.con.rs).T := fun lo κ body nm K s =>
  cond (lo && Nat.beq κ 5)
    (match eventPut.shl5.dec s with
    | some v => eventPut.l5 n (fun w0 => K (.exit 0) (eventPut.outl5e2.enc (w0, ()))) n v.1 v.2.1 v.2.2.1 v.2.2.2.1
    | none => loops n (Kd.struct eventPut.con.rs).T lo κ body nm K s)
    (loops n (Kd.struct eventPut.con.rs).T lo κ body nm K s)
theorem eventPut.atl5 (n : Nat) (s : St) (K : Ex → St → Option (Kd.struct eventPut.con.rs).T) : (eventPut.lp n) true 5 (evK eventPut.env (eventPut.lp n) n (sub [1, 1, 1, 0, 1, 0, 0] eventPut.body)) eventPut.nml5 K s = loops n (Kd.struct eventPut.con.rs).T true 5 (evK eventPut.env (eventPut.lp n) n (sub [1, 1, 1, 0, 1, 0, 0] eventPut.body)) eventPut.nml5 K s := by
  show (match eventPut.shl5.dec s with | some v => eventPut.l5 n (fun w0 => K (.exit 0) (eventPut.outl5e2.enc (w0, ()))) n v.1 v.2.1 v.2.2.1 v.2.2.2.1 | none => loops n (Kd.struct eventPut.con.rs).T true 5 (evK eventPut.env (eventPut.lp n) n (sub [1, 1, 1, 0, 1, 0, 0] eventPut.body)) eventPut.nml5 K s) = _
  cases h : eventPut.shl5.dec s with
  | none => rfl
  | some v =>
    rw [Shp.dec_enc h]
    exact (evLoop_eq (sh := eventPut.shl5) (body := evK eventPut.env (eventPut.lp n) n (sub [1, 1, 1, 0, 1, 0, 0] eventPut.body)) (nm := eventPut.nml5) (K := K) (b := fun nx v => eventPut.b5 n (fun x0 x1 x2 x3 => nx (x0, x1, x2, x3, ())) (fun w0 => K (.exit 0) (eventPut.outl5e2.enc (w0, ()))) v.1 v.2.1 v.2.2.1 v.2.2.2.1) (l := fun m v => eventPut.l5 n (fun w0 => K (.exit 0) (eventPut.outl5e2.enc (w0, ()))) m v.1 v.2.1 v.2.2.1 v.2.2.2.1) (fun _ => rfl) (fun _ _ => rfl) (fun m v => by kernel_rfl) n v).symm
theorem eventPut.eq (n : Nat) (x : (Kd.struct eventPut.con.ps).T) : evFunc eventPut.env Try.f47 eventPut.body eventPut.con.ps eventPut.con.rs (eventPut.lp n) n x = eventPut.con.f n x := by kernel_rfl
theorem eventPut.sound : Sound Try.prog globs 47 eventPut.con :=
  sound_by (E := eventPut.env) (c := eventPut.body) (envOk (G := globs) (lc := [(60, eventMay.con), (61, valuePut.con)]) (lo := [(39, [slicesClone.con])]) (envB_spec (by kernel_rfl)) rfl rfl ⟨.inl ⟨eventMay.sound, by kernel_rfl⟩, ⟨.inl ⟨valuePut.sound, by kernel_rfl⟩, trivial⟩⟩ rfl ⟨⟨⟨slicesClone.sound, trivial⟩, by kernel_rfl⟩, trivial⟩ (by kernel_rfl) (by kernel_rfl)) Try.func47 (by kernel_rfl) eventPut.lp (l := [(true, sub [1, 1, 1, 0, 1, 0, 0] eventPut.body, eventPut.nml5)]) (by kernel_rfl) (fun n => ⟨eventPut.atl5 n, trivial⟩) eventPut.eq
noncomputable def backTriesBegin (fu : Nat) (tv : O1) (now : Int) : Option ((Unit) × (O1 × Unit)) :=
  some ((()), ((tv.1, true, (0 : Int), now, ()), ()))

noncomputable def backTriesBegin.body : Code := Try.f48.body.getD .skip
noncomputable def backTriesBegin.con : OCon := { ps := [.obj kO1, .dat (.int .u64)], rs := [], f := fun n x => backTriesBegin n x.1 x.2.1 }
noncomputable def backTriesBegin.env : Env := { tys := [(121, ⟨kS10, 32⟩), (4, ⟨.bool, 1⟩), (22, ⟨(.int .u32), 4⟩), (34, ⟨(.int .u64), 8⟩)], elems := [], ptrs := [(93, 121)], cons := [], objs := [], loops := [], cuts := [], globs := globs, base := 1 }
noncomputable def backTriesBegin.lp (n : Nat) : LP (RT backTriesBegin.con.rs × BT backTriesBegin.con.ps) := fun lo κ body nm K s =>
  loops n (RT backTriesBegin.con.rs × BT backTriesBegin.con.ps) lo κ body nm K s
theorem backTriesBegin.eq (n : Nat) (x : PT backTriesBegin.con.ps) : evFuncO backTriesBegin.env Try.f48 backTriesBegin.body backTriesBegin.con.ps backTriesBegin.con.rs (backTriesBegin.lp n) n x = backTriesBegin.con.f n x := by kernel_rfl
theorem backTriesBegin.sound : SoundO Try.prog globs 48 backTriesBegin.con :=
  sound_byO (E := backTriesBegin.env) (c := backTriesBegin.body) (envOk (G := globs) (lc := []) (lo := []) (envB_spec (by kernel_rfl)) rfl rfl trivial rfl trivial (by kernel_rfl) (by kernel_rfl)) Try.func48 (by kernel_rfl) (by kernel_rfl) (by kernel_rfl) backTriesBegin.lp (l := []) (by kernel_rfl) (fun n => trivial) backTriesBegin.eq
noncomputable def sourceSourceAdd (fu : Nat) (sv : O2) (ev : S4) (now : Int) : Option ((Int × Unit) × (O2 × Unit)) :=
  let t1 := decide (now > (1099511627776 : Int))
  cond t1 (
    some (((1 : Int), ()), (sv, ()))) (
    (eventPut fu [] ev).bind fun r2 =>
    cond (r2.2.1 != (0 : Int)) (
      some ((r2.2.1, ()), (sv, ()))) (
      let t3 := decide ((r2.1.length : Int) > (4096 : Int))
      cond t3 (
        some (((4 : Int), ()), (sv, ()))) (
        let t4 := (sv.2.2.2.1.length : Int)
        let t5 := decide (t4 ≥ (512 : Int))
        cond t5 (
          some (((7 : Int), ()), (sv, ()))) (
          let t6 := (sv.2.2.2.1.length : Int)
          cond (t6 == (0 : Int)) (
            (backTriesBegin fu sv.2.1 now).bind fun r7 =>
            chk (apOk sv.2.2.2.1 ([r2.1]) 24) <|
            some (((0 : Int), ()), ((sv.1, r7.2.1, sv.2.2.1, sv.2.2.2.1 ++ ([r2.1]), ()), ()))) (
            chk (apOk sv.2.2.2.1 ([r2.1]) 24) <|
            some (((0 : Int), ()), ((sv.1, sv.2.1, sv.2.2.1, sv.2.2.2.1 ++ ([r2.1]), ()), ())))))))

noncomputable def sourceSourceAdd.body : Code := Try.f25.body.getD .skip
noncomputable def sourceSourceAdd.con : OCon := { ps := [.obj kO2, .dat kS4, .dat (.int .u64)], rs := [.dat (.int .i64)], f := fun n x => sourceSourceAdd n x.1 x.2.1 x.2.2.1 }
noncomputable def sourceSourceAdd.env : Env := { tys := [(63, ⟨kS4, 32⟩), (27, ⟨(.int .i64), 8⟩), (5, ⟨(.int .u8), 1⟩), (105, ⟨kS11, 48⟩), (103, ⟨(.slice (.slice (.int .u8))), 24⟩), (35, ⟨(.slice (.int .u8)), 24⟩), (93, ⟨.np, 8⟩)], elems := [(35, 5), (103, 35)], ptrs := [(57, 105)], cons := [(47, eventPut.con)], objs := [(48, [backTriesBegin.con])], loops := [], cuts := [], globs := globs, base := 2 }
noncomputable def sourceSourceAdd.lp (n : Nat) : LP (RT sourceSourceAdd.con.rs × BT sourceSourceAdd.con.ps) := fun lo κ body nm K s =>
  loops n (RT sourceSourceAdd.con.rs × BT sourceSourceAdd.con.ps) lo κ body nm K s
theorem sourceSourceAdd.eq (n : Nat) (x : PT sourceSourceAdd.con.ps) : evFuncO sourceSourceAdd.env Try.f25 sourceSourceAdd.body sourceSourceAdd.con.ps sourceSourceAdd.con.rs (sourceSourceAdd.lp n) n x = sourceSourceAdd.con.f n x := by kernel_rfl
theorem sourceSourceAdd.sound : SoundO Try.prog globs 25 sourceSourceAdd.con :=
  sound_byO (E := sourceSourceAdd.env) (c := sourceSourceAdd.body) (envOk (G := globs) (lc := [(47, eventPut.con)]) (lo := [(48, [backTriesBegin.con])]) (envB_spec (by kernel_rfl)) rfl rfl ⟨.inl ⟨eventPut.sound, by kernel_rfl⟩, trivial⟩ rfl ⟨⟨⟨backTriesBegin.sound, trivial⟩, by kernel_rfl⟩, trivial⟩ (by kernel_rfl) (by kernel_rfl)) Try.func25 (by kernel_rfl) (by kernel_rfl) (by kernel_rfl) sourceSourceAdd.lp (l := []) (by kernel_rfl) (fun n => trivial) sourceSourceAdd.eq
noncomputable def backTriesOver (fu : Nat) (tv : O1) : Option ((Bool × Unit) × (O1 × Unit)) :=
  let t1 := decide (tv.2.2.1 ≥ tv.1.2.2.1)
  some ((t1, ()), (tv, ()))

noncomputable def backTriesOver.body : Code := Try.f40.body.getD .skip
noncomputable def backTriesOver.con : OCon := { ps := [.obj kO1], rs := [.dat .bool], f := fun n x => backTriesOver n x.1 }
noncomputable def backTriesOver.env : Env := { tys := [(4, ⟨.bool, 1⟩), (121, ⟨kS10, 32⟩), (22, ⟨(.int .u32), 4⟩), (24, ⟨kS0, 12⟩)], elems := [], ptrs := [(93, 121)], cons := [], objs := [], loops := [], cuts := [], globs := globs, base := 1 }
noncomputable def backTriesOver.lp (n : Nat) : LP (RT backTriesOver.con.rs × BT backTriesOver.con.ps) := fun lo κ body nm K s =>
  loops n (RT backTriesOver.con.rs × BT backTriesOver.con.ps) lo κ body nm K s
theorem backTriesOver.eq (n : Nat) (x : PT backTriesOver.con.ps) : evFuncO backTriesOver.env Try.f40 backTriesOver.body backTriesOver.con.ps backTriesOver.con.rs (backTriesOver.lp n) n x = backTriesOver.con.f n x := by kernel_rfl
theorem backTriesOver.sound : SoundO Try.prog globs 40 backTriesOver.con :=
  sound_byO (E := backTriesOver.env) (c := backTriesOver.body) (envOk (G := globs) (lc := []) (lo := []) (envB_spec (by kernel_rfl)) rfl rfl trivial rfl trivial (by kernel_rfl) (by kernel_rfl)) Try.func40 (by kernel_rfl) (by kernel_rfl) (by kernel_rfl) backTriesOver.lp (l := []) (by kernel_rfl) (fun n => trivial) backTriesOver.eq
noncomputable def backTriesNext (fu : Nat) (tv : O1) : Option ((Int × Unit) × (O1 × Unit)) :=
  some ((tv.2.2.2.1, ()), (tv, ()))

noncomputable def backTriesNext.body : Code := Try.f42.body.getD .skip
noncomputable def backTriesNext.con : OCon := { ps := [.obj kO1], rs := [.dat (.int .u64)], f := fun n x => backTriesNext n x.1 }
noncomputable def backTriesNext.env : Env := { tys := [(34, ⟨(.int .u64), 8⟩), (121, ⟨kS10, 32⟩)], elems := [], ptrs := [(93, 121)], cons := [], objs := [], loops := [], cuts := [], globs := globs, base := 1 }
noncomputable def backTriesNext.lp (n : Nat) : LP (RT backTriesNext.con.rs × BT backTriesNext.con.ps) := fun lo κ body nm K s =>
  loops n (RT backTriesNext.con.rs × BT backTriesNext.con.ps) lo κ body nm K s
theorem backTriesNext.eq (n : Nat) (x : PT backTriesNext.con.ps) : evFuncO backTriesNext.env Try.f42 backTriesNext.body backTriesNext.con.ps backTriesNext.con.rs (backTriesNext.lp n) n x = backTriesNext.con.f n x := by kernel_rfl
theorem backTriesNext.sound : SoundO Try.prog globs 42 backTriesNext.con :=
  sound_byO (E := backTriesNext.env) (c := backTriesNext.body) (envOk (G := globs) (lc := []) (lo := []) (envB_spec (by kernel_rfl)) rfl rfl trivial rfl trivial (by kernel_rfl) (by kernel_rfl)) Try.func42 (by kernel_rfl) (by kernel_rfl) (by kernel_rfl) backTriesNext.lp (l := []) (by kernel_rfl) (fun n => trivial) backTriesNext.eq
noncomputable def backTriesDue (fu : Nat) (tv : O1) (now : Int) : Option ((Bool × Unit) × (O1 × Unit)) :=
  cond tv.2.1 (
    (backTriesOver fu tv).bind fun r1 =>
    cond (!r1.1.1) (
      let t2 := decide (r1.2.1.2.2.2.1 ≤ now)
      some ((t2, ()), (r1.2.1, ()))) (
      some ((false, ()), (r1.2.1, ())))) (
    some ((false, ()), (tv, ())))

noncomputable def backTriesDue.body : Code := Try.f57.body.getD .skip
noncomputable def backTriesDue.con : OCon := { ps := [.obj kO1, .dat (.int .u64)], rs := [.dat .bool], f := fun n x => backTriesDue n x.1 x.2.1 }
noncomputable def backTriesDue.env : Env := { tys := [(4, ⟨.bool, 1⟩), (121, ⟨kS10, 32⟩), (34, ⟨(.int .u64), 8⟩)], elems := [], ptrs := [(93, 121)], cons := [], objs := [(40, [backTriesOver.con])], loops := [], cuts := [], globs := globs, base := 1 }
noncomputable def backTriesDue.lp (n : Nat) : LP (RT backTriesDue.con.rs × BT backTriesDue.con.ps) := fun lo κ body nm K s =>
  loops n (RT backTriesDue.con.rs × BT backTriesDue.con.ps) lo κ body nm K s
theorem backTriesDue.eq (n : Nat) (x : PT backTriesDue.con.ps) : evFuncO backTriesDue.env Try.f57 backTriesDue.body backTriesDue.con.ps backTriesDue.con.rs (backTriesDue.lp n) n x = backTriesDue.con.f n x := by kernel_rfl
theorem backTriesDue.sound : SoundO Try.prog globs 57 backTriesDue.con :=
  sound_byO (E := backTriesDue.env) (c := backTriesDue.body) (envOk (G := globs) (lc := []) (lo := [(40, [backTriesOver.con])]) (envB_spec (by kernel_rfl)) rfl rfl trivial rfl ⟨⟨⟨backTriesOver.sound, trivial⟩, by kernel_rfl⟩, trivial⟩ (by kernel_rfl) (by kernel_rfl)) Try.func57 (by kernel_rfl) (by kernel_rfl) (by kernel_rfl) backTriesDue.lp (l := []) (by kernel_rfl) (fun n => trivial) backTriesDue.eq
noncomputable def backPause (fu : Nat) (b : S0) (n : Int) : Option (Int × Unit) :=
  (backMay fu b).bind fun r1 =>
  cond (!r1.1) (
    some ((0 : Int), ())) (
    cond (n == (0 : Int)) (
      some ((0 : Int), ())) (
      let t2 := IntKind.u32.wrap (n - (1 : Int))
      chk (!decide (min2 t2 (20 : Int) < 0)) <|
      let t3 := sShl .u64 (IntKind.u64.wrap b.1) (min2 t2 (20 : Int))
      let t4 := min2 t3 (IntKind.u64.wrap b.2.1)
      some (t4, ())))

noncomputable def backPause.body : Code := Try.f58.body.getD .skip
noncomputable def backPause.con : Con := { ps := [kS0, (.int .u32)], rs := [(.int .u64)], f := fun n x => backPause n x.1 x.2.1 }
noncomputable def backPause.env : Env := { tys := [(24, ⟨kS0, 12⟩), (34, ⟨(.int .u64), 8⟩), (4, ⟨.bool, 1⟩), (22, ⟨(.int .u32), 4⟩)], elems := [], ptrs := [], cons := [(56, backMay.con)], objs := [], loops := [], cuts := [], globs := globs, base := 0 }
noncomputable def backPause.lp (n : Nat) : LP (Kd.struct backPause.con.rs).T := fun lo κ body nm K s =>
  loops n (Kd.struct backPause.con.rs).T lo κ body nm K s
theorem backPause.eq (n : Nat) (x : (Kd.struct backPause.con.ps).T) : evFunc backPause.env Try.f58 backPause.body backPause.con.ps backPause.con.rs (backPause.lp n) n x = backPause.con.f n x := by kernel_rfl
theorem backPause.sound : Sound Try.prog globs 58 backPause.con :=
  sound_by (E := backPause.env) (c := backPause.body) (envOk (G := globs) (lc := [(56, backMay.con)]) (lo := []) (envB_spec (by kernel_rfl)) rfl rfl ⟨.inl ⟨backMay.sound, by kernel_rfl⟩, trivial⟩ rfl trivial (by kernel_rfl) (by kernel_rfl)) Try.func58 (by kernel_rfl) backPause.lp (l := []) (by kernel_rfl) (fun n => trivial) backPause.eq
noncomputable def backTriesTry (fu : Nat) (tv : O1) (now : Int) : Option ((Bool × Unit) × (O1 × Unit)) :=
  (backTriesDue fu tv now).bind fun r1 =>
  cond (!r1.1.1) (
    some ((false, ()), (r1.2.1, ()))) (
    let t2 := IntKind.u32.wrap (r1.2.1.2.2.1 + (1 : Int))
    (backPause fu r1.2.1.1 t2).bind fun r3 =>
    let t4 := IntKind.u64.wrap (now + r3.1)
    some ((true, ()), ((r1.2.1.1, r1.2.1.2.1, t2, t4, ()), ())))

noncomputable def backTriesTry.body : Code := Try.f43.body.getD .skip
noncomputable def backTriesTry.con : OCon := { ps := [.obj kO1, .dat (.int .u64)], rs := [.dat .bool], f := fun n x => backTriesTry n x.1 x.2.1 }
noncomputable def backTriesTry.env : Env := { tys := [(4, ⟨.bool, 1⟩), (121, ⟨kS10, 32⟩), (22, ⟨(.int .u32), 4⟩), (24, ⟨kS0, 12⟩), (34, ⟨(.int .u64), 8⟩)], elems := [], ptrs := [], cons := [(58, backPause.con)], objs := [(57, [backTriesDue.con])], loops := [], cuts := [], globs := globs, base := 1 }
noncomputable def backTriesTry.lp (n : Nat) : LP (RT backTriesTry.con.rs × BT backTriesTry.con.ps) := fun lo κ body nm K s =>
  loops n (RT backTriesTry.con.rs × BT backTriesTry.con.ps) lo κ body nm K s
theorem backTriesTry.eq (n : Nat) (x : PT backTriesTry.con.ps) : evFuncO backTriesTry.env Try.f43 backTriesTry.body backTriesTry.con.ps backTriesTry.con.rs (backTriesTry.lp n) n x = backTriesTry.con.f n x := by kernel_rfl
theorem backTriesTry.sound : SoundO Try.prog globs 43 backTriesTry.con :=
  sound_byO (E := backTriesTry.env) (c := backTriesTry.body) (envOk (G := globs) (lc := [(58, backPause.con)]) (lo := [(57, [backTriesDue.con])]) (envB_spec (by kernel_rfl)) rfl rfl ⟨.inl ⟨backPause.sound, by kernel_rfl⟩, trivial⟩ rfl ⟨⟨⟨backTriesDue.sound, trivial⟩, by kernel_rfl⟩, trivial⟩ (by kernel_rfl) (by kernel_rfl)) Try.func43 (by kernel_rfl) (by kernel_rfl) (by kernel_rfl) backTriesTry.lp (l := []) (by kernel_rfl) (fun n => trivial) backTriesTry.eq
noncomputable def sourceSourceSend.j5 (fu : Nat) (k1 : (List S5) → Int → Int → (List (List Int)) → S0 → Bool → Int → Int → Option (((List S5) × Unit) × (O2 × Unit))) (now : Int) (c0 : Int) (c0x2 : Int) (c0x3 : List (List Int)) (b1 : S0) (c1 : Bool) (c1x2 : Int) (c1x3 : Int) : Option (((List S5) × Unit) × (O2 × Unit)) :=
  (backTriesTry fu (b1, c1, c1x2, c1x3, ()) now).bind fun r1 =>
  cond (!r1.1.1) (
    k1 [] c0 c0x2 c0x3 r1.2.1.1 r1.2.1.2.1 r1.2.1.2.2.1 r1.2.1.2.2.2.1) (
    chk (ixOk c0x3 (0 : Int)) <|
    let e2 := ixL [] c0x3 (0 : Int)
    (slicesCloneDat fu e2).bind fun r3 =>
    let t4 := [((3 : Int), c0, (0 : Int), c0x2, (0 : Int), r3.1, ())]
    k1 t4 c0 c0x2 c0x3 r1.2.1.1 r1.2.1.2.1 r1.2.1.2.2.1 r1.2.1.2.2.2.1)
noncomputable def sourceSourceSend (fu : Nat) (sv : O2) (now : Int) : Option (((List S5) × Unit) × (O2 × Unit)) :=
  let t1 := (sv.2.2.2.1.length : Int)
  cond (t1 == (0 : Int)) (
    some (([], ()), (sv, ()))) (
    let t2 := decide (now > (1099511627776 : Int))
    cond t2 (
      some (([], ()), (sv, ()))) (
      (backTriesOver fu sv.2.1).bind fun r3 =>
      cond r3.1.1 (
        (backTriesNext fu r3.2.1).bind fun r4 =>
        cond (decide (r4.1.1 ≤ now)) (
          (backTriesBegin fu r4.2.1 now).bind fun r5 =>
          sourceSourceSend.j5 fu (fun vq1 c0q1 c0q1x2 c0q1x3 b1q1 c1q1 c1q1x2 c1q1x3 => 
              some ((vq1, ()), ((c0q1, (b1q1, c1q1, c1q1x2, c1q1x3, ()), c0q1x2, c0q1x3, ()), ()))) now sv.1 sv.2.2.1 sv.2.2.2.1 r5.2.1.1 r5.2.1.2.1 r5.2.1.2.2.1 r5.2.1.2.2.2.1) (
          sourceSourceSend.j5 fu (fun vq2 c0q2 c0q2x2 c0q2x3 b1q2 c1q2 c1q2x2 c1q2x3 => 
              some ((vq2, ()), ((c0q2, (b1q2, c1q2, c1q2x2, c1q2x3, ()), c0q2x2, c0q2x3, ()), ()))) now sv.1 sv.2.2.1 sv.2.2.2.1 r4.2.1.1 r4.2.1.2.1 r4.2.1.2.2.1 r4.2.1.2.2.2.1)) (
        sourceSourceSend.j5 fu (fun vq3 c0q3 c0q3x2 c0q3x3 b1q3 c1q3 c1q3x2 c1q3x3 => 
            some ((vq3, ()), ((c0q3, (b1q3, c1q3, c1q3x2, c1q3x3, ()), c0q3x2, c0q3x3, ()), ()))) now sv.1 sv.2.2.1 sv.2.2.2.1 r3.2.1.1 r3.2.1.2.1 r3.2.1.2.2.1 r3.2.1.2.2.2.1)))

noncomputable def sourceSourceSend.body : Code := Try.f30.body.getD .skip
abbrev sourceSourceSend.shj5 : Shp := ⟨[.p 0 0, .d (.int .u64), .u, .u, .u, .u, .u, .u, .u, .u, .u, .u, .u, .u, .u, .u, .u, .u, .u, .u, .u, .u, .u, .u, .u, .u, .u, .u, .u, .u, .u, .u, .u, .u, .u, .u, .u, .u, .u, .u, .u, .u, .u, .u, .u, .u, .u, .u, .u, .u, .u, .u, .u, .u, .u, .u, .u, .u, .u, .u, .u, .u, .u], [.c [.d (.int .u32), .p 1 0, .d (.int .u64), .o 1003 (.slice (.int .u8))], .c [.g kS0, .d .bool, .d (.int .u32), .d (.int .u64)]]⟩
abbrev sourceSourceSend.outj5e1 : Shp := ⟨[.u, .u, .u, .u, .o 4 kS5, .u, .u, .u, .u, .u, .u, .u, .u, .u, .u, .u, .u, .u, .u, .u, .u, .u, .u, .u, .u, .u, .u, .u, .u, .u, .u, .u, .u, .u, .u, .u, .u, .u, .u, .u, .u, .u, .u, .u, .u, .u, .u, .u, .u, .u, .u, .u, .u, .u, .u, .u, .u, .u, .u, .u, .u, .u, .u], [.c [.d (.int .u32), .p 1 0, .d (.int .u64), .o 1003 (.slice (.int .u8))], .c [.g kS0, .d .bool, .d (.int .u32), .d (.int .u64)]]⟩
noncomputable def sourceSourceSend.nmj5 : Norm := ⟨{ keep := [0, 1], shut := [(1, (.int .u64))], retag := [], heap := 2, dead := [], cshut := [(0, 0, (.int .u32)), (0, 2, (.int .u64)), (1, 0, (.int .u32)), (1, 1, (.int .u32)), (1, 2, (.int .u32)), (1, 3, .bool), (1, 4, (.int .u32)), (1, 5, (.int .u64))], cretag := [(0, 3, 1003, (.slice (.int .u8)))] }, [(1, { keep := [4], shut := [], retag := [(4, 4, kS5)], heap := 2, dead := [], cshut := [(0, 0, (.int .u32)), (0, 2, (.int .u64)), (1, 0, (.int .u32)), (1, 1, (.int .u32)), (1, 2, (.int .u32)), (1, 3, .bool), (1, 4, (.int .u32)), (1, 5, (.int .u64))], cretag := [(0, 3, 1003, (.slice (.int .u8)))] })]⟩
noncomputable def sourceSourceSend.con : OCon := { ps := [.obj kO2, .dat (.int .u64)], rs := [.dat (.slice kS5)], f := fun n x => sourceSourceSend n x.1 x.2.1 }
noncomputable def sourceSourceSend.env : Env := { tys := [(41, ⟨(.slice kS5), 24⟩), (105, ⟨kS11, 48⟩), (103, ⟨(.slice (.slice (.int .u8))), 24⟩), (35, ⟨(.slice (.int .u8)), 24⟩), (4, ⟨.bool, 1⟩), (93, ⟨.np, 8⟩), (22, ⟨(.int .u32), 4⟩), (34, ⟨(.int .u64), 8⟩), (37, ⟨kS5, 56⟩)], elems := [(103, 35), (41, 37)], ptrs := [(57, 105)], cons := [(39, slicesCloneDat.con)], objs := [(40, [backTriesOver.con]), (42, [backTriesNext.con]), (43, [backTriesTry.con]), (48, [backTriesBegin.con])], loops := [], cuts := [(5, sourceSourceSend.nmj5)], globs := globs, base := 2 }
noncomputable def sourceSourceSend.lp (n : Nat) : LP (RT sourceSourceSend.con.rs × BT sourceSourceSend.con.ps) := fun lo κ body nm K s =>
  cond (!lo && Nat.beq κ 5)
    (match sourceSourceSend.shj5.dec s with
    | some v => sourceSourceSend.j5 n (fun w0 w1 w2 w3 w4 w5 w6 w7 => K .ret (sourceSourceSend.outj5e1.enc (w0, w1, w2, w3, w4, w5, w6, w7, ()))) v.1 v.2.1 v.2.2.1 v.2.2.2.1 v.2.2.2.2.1 v.2.2.2.2.2.1 v.2.2.2.2.2.2.1 v.2.2.2.2.2.2.2.1
    | none => loops n (RT sourceSourceSend.con.rs × BT sourceSourceSend.con.ps) lo κ body nm K s)
    (loops n (RT sourceSourceSend.con.rs × BT sourceSourceSend.con.ps) lo κ body nm K s)
theorem sourceSourceSend.atj5 (n : Nat) (s : St) (K : Ex → St → Option (RT sourceSourceSend.con.rs × BT sourceSourceSend.con.ps)) : (sourceSourceSend.lp n) false 5 (evK sourceSourceSend.env (sourceSourceSend.lp n) n (sub [1, 1, 1] sourceSourceSend.body)) sourceSourceSend.nmj5 K s = loops n (RT sourceSourceSend.con.rs × BT sourceSourceSend.con.ps) false 5 (evK sourceSourceSend.env (sourceSourceSend.lp n) n (sub [1, 1, 1] sourceSourceSend.body)) sourceSourceSend.nmj5 K s := by
  show (match sourceSourceSend.shj5.dec s with | some v => sourceSourceSend.j5 n (fun w0 w1 w2 w3 w4 w5 w6 w7 => K .ret (sourceSourceSend.outj5e1.enc (w0, w1, w2, w3, w4, w5, w6, w7, ()))) v.1 v.2.1 v.2.2.1 v.2.2.2.1 v.2.2.2.2.1 v.2.2.2.2.2.1 v.2.2.2.2.2.2.1 v.2.2.2.2.2.2.2.1 | none => loops n (RT sourceSourceSend.con.rs × BT sourceSourceSend.con.ps) false 5 (evK sourceSourceSend.env (sourceSourceSend.lp n) n (sub [1, 1, 1] sourceSourceSend.body)) sourceSourceSend.nmj5 K s) = _
  cases h : sourceSourceSend.shj5.dec s with
  | none => rfl
  | some v =>
    rw [Shp.dec_enc h]
    kernel_rfl
theorem sourceSourceSend.eq (n : Nat) (x : PT sourceSourceSend.con.ps) : evFuncO sourceSourceSend.env Try.f30 sourceSourceSend.body sourceSourceSend.con.ps sourceSourceSend.con.rs (sourceSourceSend.lp n) n x = sourceSourceSend.con.f n x := by kernel_rfl
theorem sourceSourceSend.sound : SoundO Try.prog globs 30 sourceSourceSend.con :=
  sound_byO (E := sourceSourceSend.env) (c := sourceSourceSend.body) (envOk (G := globs) (lc := [(39, slicesCloneDat.con)]) (lo := [(40, [backTriesOver.con]), (42, [backTriesNext.con]), (43, [backTriesTry.con]), (48, [backTriesBegin.con])]) (envB_spec (by kernel_rfl)) rfl rfl ⟨.inl ⟨slicesCloneDat.sound, by kernel_rfl⟩, trivial⟩ rfl ⟨⟨⟨backTriesOver.sound, trivial⟩, by kernel_rfl⟩, ⟨⟨⟨backTriesNext.sound, trivial⟩, by kernel_rfl⟩, ⟨⟨⟨backTriesTry.sound, trivial⟩, by kernel_rfl⟩, ⟨⟨⟨backTriesBegin.sound, trivial⟩, by kernel_rfl⟩, trivial⟩⟩⟩⟩ (by kernel_rfl) (by kernel_rfl)) Try.func30 (by kernel_rfl) (by kernel_rfl) (by kernel_rfl) sourceSourceSend.lp (l := [(false, sub [1, 1, 1] sourceSourceSend.body, sourceSourceSend.nmj5)]) (by kernel_rfl) (fun n => ⟨sourceSourceSend.atj5 n, trivial⟩) sourceSourceSend.eq
noncomputable def ref20Same (fu : Nat) (a : S5) (b : S5) : Option (Bool × Unit) :=
  cond (a.1 == b.1) (
    cond (a.2.1 == b.2.1) (
      cond (a.2.2.1 == b.2.2.1) (
        cond (a.2.2.2.1 == b.2.2.2.1) (
          let t1 := a.2.2.2.2.1 == b.2.2.2.2.1
          cond t1 (
            let t2 := a.2.2.2.2.2.1 == b.2.2.2.2.2.1
            some (t2, ())) (
            some (false, ()))) (
          some (false, ()))) (
        some (false, ()))) (
      some (false, ()))) (
    some (false, ()))

noncomputable def ref20Same.body : Code := Try.f55.body.getD .skip
noncomputable def ref20Same.con : Con := { ps := [kS5, kS5], rs := [.bool], f := fun n x => ref20Same n x.1 x.2.1 }
noncomputable def ref20Same.env : Env := { tys := [(37, ⟨kS5, 56⟩), (4, ⟨.bool, 1⟩), (5, ⟨(.int .u8), 1⟩), (22, ⟨(.int .u32), 4⟩), (34, ⟨(.int .u64), 8⟩), (35, ⟨(.slice (.int .u8)), 24⟩), (9, ⟨.str, 16⟩)], elems := [(35, 5)], ptrs := [], cons := [], objs := [], loops := [], cuts := [], globs := globs, base := 0 }
noncomputable def ref20Same.lp (n : Nat) : LP (Kd.struct ref20Same.con.rs).T := fun lo κ body nm K s =>
  loops n (Kd.struct ref20Same.con.rs).T lo κ body nm K s
theorem ref20Same.eq (n : Nat) (x : (Kd.struct ref20Same.con.ps).T) : evFunc ref20Same.env Try.f55 ref20Same.body ref20Same.con.ps ref20Same.con.rs (ref20Same.lp n) n x = ref20Same.con.f n x := by kernel_rfl
theorem ref20Same.sound : Sound Try.prog globs 55 ref20Same.con :=
  sound_by (E := ref20Same.env) (c := ref20Same.body) (envOk (G := globs) (lc := []) (lo := []) (envB_spec (by kernel_rfl)) rfl rfl trivial rfl trivial (by kernel_rfl) (by kernel_rfl)) Try.func55 (by kernel_rfl) ref20Same.lp (l := []) (by kernel_rfl) (fun n => trivial) ref20Same.eq
noncomputable def ref20SameAll.b4 (fu : Nat) (next : (List S5) → (List S5) → Int → Int → Option (Bool × Unit)) (k1 : Bool → Option (Bool × Unit)) (k2 : Unit → Option (Bool × Unit)) (a : List S5) (b : List S5) (v : Int) (vx2 : Int) : Option (Bool × Unit) :=
  cond (decide (vx2 < v)) (
    chk (ixOk a vx2) <|
    let e1 := ixL ((0 : Int), (0 : Int), (0 : Int), (0 : Int), (0 : Int), [], ()) a vx2
    chk (ixOk b vx2) <|
    let e2 := ixL ((0 : Int), (0 : Int), (0 : Int), (0 : Int), (0 : Int), [], ()) b vx2
    (ref20Same fu e1 e2).bind fun r3 =>
    cond (!r3.1) (
      k1 false) (
      let t4 := IntKind.i64.wrap (vx2 + (1 : Int))
      next a b v t4)) (
    k2 ())
noncomputable def ref20SameAll.l4 (fu : Nat) (k1 : Bool → Option (Bool × Unit)) (k2 : Unit → Option (Bool × Unit)) : Nat → (List S5) → (List S5) → Int → Int → Option (Bool × Unit)
  | 0, _, _, _, _ => none
  | m + 1, a, b, v, vx2 => ref20SameAll.b4 fu (ref20SameAll.l4 fu k1 k2 m) k1 k2 a b v vx2
noncomputable def ref20SameAll (fu : Nat) (a : List S5) (b : List S5) : Option (Bool × Unit) :=
  let t1 := (a.length : Int) != (b.length : Int)
  cond t1 (
    some (false, ())) (
    ref20SameAll.l4 fu (fun vq3 => 
        some (vq3, ())) (fun (_ : Unit) => 
        some (true, ())) fu a b (a.length : Int) (0 : Int))

noncomputable def ref20SameAll.body : Code := Try.f35.body.getD .skip
abbrev ref20SameAll.shl4 : Shp := ⟨[.d (.slice kS5), .d (.slice kS5), .u, .u, .u, .u, .u, .u, .u, .u, .u, .u, .d (.int .i64), .d (.int .i64), .u, .u, .u, .u, .u, .u, .u, .u, .u, .u, .u, .u, .u], []⟩
abbrev ref20SameAll.outl4e1 : Shp := ⟨[.u, .u, .u, .u, .d .bool, .u, .u, .u, .u, .u, .u, .u, .u, .u, .u, .u, .u, .u, .u, .u, .u, .u, .u, .u, .u, .u, .u], []⟩
abbrev ref20SameAll.outl4e2 : Shp := ⟨[.u, .u, .u, .u, .u, .u, .u, .u, .u, .u, .u, .u, .u, .u, .u, .u, .u, .u, .u, .u, .u, .u, .u, .u, .u, .u, .u], []⟩
noncomputable def ref20SameAll.nml4 : Norm := ⟨{ keep := [0, 1, 12, 13], shut := [(0, (.slice kS5)), (1, (.slice kS5)), (12, (.int .i64)), (13, (.int .i64))], retag := [], heap := 0, dead := [], cshut := [], cretag := [] }, [(1, { keep := [4], shut := [(4, .bool)], retag := [], heap := 0, dead := [], cshut := [], cretag := [] }), (2, { keep := [], shut := [], retag := [], heap := 0, dead := [], cshut := [], cretag := [] })]⟩
noncomputable def ref20SameAll.con : Con := { ps := [(.slice kS5), (.slice kS5)], rs := [.bool], f := fun n x => ref20SameAll n x.1 x.2.1 }
noncomputable def ref20SameAll.env : Env := { tys := [(4, ⟨.bool, 1⟩), (37, ⟨kS5, 56⟩), (3, ⟨(.int .i64), 8⟩)], elems := [(41, 37)], ptrs := [], cons := [(55, ref20Same.con)], objs := [], loops := [(4, ref20SameAll.nml4)], cuts := [], globs := globs, base := 0 }
noncomputable def ref20SameAll.lp (n : Nat) : LP (Kd.struct ref20SameAll.con.rs).T := fun lo κ body nm K s =>
  cond (lo && Nat.beq κ 4)
    (match ref20SameAll.shl4.dec s with
    | some v => ref20SameAll.l4 n (fun w0 => K .ret (ref20SameAll.outl4e1.enc (w0, ()))) (fun _ => K (.exit 0) (ref20SameAll.outl4e2.enc (()))) n v.1 v.2.1 v.2.2.1 v.2.2.2.1
    | none => loops n (Kd.struct ref20SameAll.con.rs).T lo κ body nm K s)
    (loops n (Kd.struct ref20SameAll.con.rs).T lo κ body nm K s)
theorem ref20SameAll.atl4 (n : Nat) (s : St) (K : Ex → St → Option (Kd.struct ref20SameAll.con.rs).T) : (ref20SameAll.lp n) true 4 (evK ref20SameAll.env (ref20SameAll.lp n) n (sub [1, 1, 0, 1, 0, 0] ref20SameAll.body)) ref20SameAll.nml4 K s = loops n (Kd.struct ref20SameAll.con.rs).T true 4 (evK ref20SameAll.env (ref20SameAll.lp n) n (sub [1, 1, 0, 1, 0, 0] ref20SameAll.body)) ref20SameAll.nml4 K s := by
  show (match ref20SameAll.shl4.dec s with | some v => ref20SameAll.l4 n (fun w0 => K .ret (ref20SameAll.outl4e1.enc (w0, ()))) (fun _ => K (.exit 0) (ref20SameAll.outl4e2.enc (()))) n v.1 v.2.1 v.2.2.1 v.2.2.2.1 | none => loops n (Kd.struct ref20SameAll.con.rs).T true 4 (evK ref20SameAll.env (ref20SameAll.lp n) n (sub [1, 1, 0, 1, 0, 0] ref20SameAll.body)) ref20SameAll.nml4 K s) = _
  cases h : ref20SameAll.shl4.dec s with
  | none => rfl
  | some v =>
    rw [Shp.dec_enc h]
    exact (evLoop_eq (sh := ref20SameAll.shl4) (body := evK ref20SameAll.env (ref20SameAll.lp n) n (sub [1, 1, 0, 1, 0, 0] ref20SameAll.body)) (nm := ref20SameAll.nml4) (K := K) (b := fun nx v => ref20SameAll.b4 n (fun x0 x1 x2 x3 => nx (x0, x1, x2, x3, ())) (fun w0 => K .ret (ref20SameAll.outl4e1.enc (w0, ()))) (fun _ => K (.exit 0) (ref20SameAll.outl4e2.enc (()))) v.1 v.2.1 v.2.2.1 v.2.2.2.1) (l := fun m v => ref20SameAll.l4 n (fun w0 => K .ret (ref20SameAll.outl4e1.enc (w0, ()))) (fun _ => K (.exit 0) (ref20SameAll.outl4e2.enc (()))) m v.1 v.2.1 v.2.2.1 v.2.2.2.1) (fun _ => rfl) (fun _ _ => rfl) (fun m v => by kernel_rfl) n v).symm
theorem ref20SameAll.eq (n : Nat) (x : (Kd.struct ref20SameAll.con.ps).T) : evFunc ref20SameAll.env Try.f35 ref20SameAll.body ref20SameAll.con.ps ref20SameAll.con.rs (ref20SameAll.lp n) n x = ref20SameAll.con.f n x := by kernel_rfl
theorem ref20SameAll.sound : Sound Try.prog globs 35 ref20SameAll.con :=
  sound_by (E := ref20SameAll.env) (c := ref20SameAll.body) (envOk (G := globs) (lc := [(55, ref20Same.con)]) (lo := []) (envB_spec (by kernel_rfl)) rfl rfl ⟨.inl ⟨ref20Same.sound, by kernel_rfl⟩, trivial⟩ rfl trivial (by kernel_rfl) (by kernel_rfl)) Try.func35 (by kernel_rfl) ref20SameAll.lp (l := [(true, sub [1, 1, 0, 1, 0, 0] ref20SameAll.body, ref20SameAll.nml4)]) (by kernel_rfl) (fun n => ⟨ref20SameAll.atl4 n, trivial⟩) ref20SameAll.eq
noncomputable def sourceSourceHear (fu : Nat) (sv : O2) (f : S5) (now : Int) : Option ((Bool × Unit) × (O2 × Unit)) :=
  let t1 := (sv.2.2.2.1.length : Int)
  cond (t1 == (0 : Int)) (
    some ((false, ()), (sv, ()))) (
    let t2 := decide (now > (1099511627776 : Int))
    cond t2 (
      some ((false, ()), (sv, ()))) (
      cond (f.1 != (4 : Int)) (
        some ((false, ()), (sv, ()))) (
        cond (f.2.1 != sv.1) (
          some ((false, ()), (sv, ()))) (
          cond (f.2.2.2.1 != sv.2.2.1) (
            some ((false, ()), (sv, ()))) (
            chk (tailOk sv.2.2.2.1 (1 : Int)) <|
            let t3 := tailL sv.2.2.2.1 (1 : Int)
            let t4 := IntKind.u64.wrap (sv.2.2.1 + (1 : Int))
            let t5 := decide ((t3.length : Int) > (0 : Int))
            cond t5 (
              (backTriesBegin fu sv.2.1 now).bind fun r6 =>
              some ((true, ()), ((sv.1, r6.2.1, t4, t3, ()), ()))) (
              some ((true, ()), ((sv.1, sv.2.1, t4, t3, ()), ()))))))))

noncomputable def sourceSourceHear.body : Code := Try.f31.body.getD .skip
noncomputable def sourceSourceHear.con : OCon := { ps := [.obj kO2, .dat kS5, .dat (.int .u64)], rs := [.dat .bool], f := fun n x => sourceSourceHear n x.1 x.2.1 x.2.2.1 }
noncomputable def sourceSourceHear.env : Env := { tys := [(37, ⟨kS5, 56⟩), (4, ⟨.bool, 1⟩), (105, ⟨kS11, 48⟩), (103, ⟨(.slice (.slice (.int .u8))), 24⟩), (35, ⟨(.slice (.int .u8)), 24⟩), (5, ⟨(.int .u8), 1⟩), (22, ⟨(.int .u32), 4⟩), (34, ⟨(.int .u64), 8⟩), (93, ⟨.np, 8⟩)], elems := [(103, 35)], ptrs := [(57, 105)], cons := [], objs := [(48, [backTriesBegin.con])], loops := [], cuts := [], globs := globs, base := 2, tails := [49] }
noncomputable def sourceSourceHear.lp (n : Nat) : LP (RT sourceSourceHear.con.rs × BT sourceSourceHear.con.ps) := fun lo κ body nm K s =>
  loops n (RT sourceSourceHear.con.rs × BT sourceSourceHear.con.ps) lo κ body nm K s
theorem sourceSourceHear.eq (n : Nat) (x : PT sourceSourceHear.con.ps) : evFuncO sourceSourceHear.env Try.f31 sourceSourceHear.body sourceSourceHear.con.ps sourceSourceHear.con.rs (sourceSourceHear.lp n) n x = sourceSourceHear.con.f n x := by kernel_rfl
theorem sourceSourceHear.sound : SoundO Try.prog globs 31 sourceSourceHear.con :=
  sound_byO (E := sourceSourceHear.env) (c := sourceSourceHear.body) (envOk (G := globs) (lc := []) (lo := [(48, [backTriesBegin.con])]) (envB_spec (by kernel_rfl)) rfl rfl trivial rfl ⟨⟨⟨backTriesBegin.sound, trivial⟩, by kernel_rfl⟩, trivial⟩ (by kernel_rfl) (by kernel_rfl)) Try.func31 (by kernel_rfl) (by kernel_rfl) (by kernel_rfl) sourceSourceHear.lp (l := []) (by kernel_rfl) (fun n => trivial) sourceSourceHear.eq
noncomputable def sourceSourceWaits (fu : Nat) (sv : O2) : Option ((Int × Unit) × (O2 × Unit)) :=
  let t1 := (sv.2.2.2.1.length : Int)
  some ((t1, ()), (sv, ()))

noncomputable def sourceSourceWaits.body : Code := Try.f26.body.getD .skip
noncomputable def sourceSourceWaits.con : OCon := { ps := [.obj kO2], rs := [.dat (.int .i64)], f := fun n x => sourceSourceWaits n x.1 }
noncomputable def sourceSourceWaits.env : Env := { tys := [(3, ⟨(.int .i64), 8⟩), (105, ⟨kS11, 48⟩), (103, ⟨(.slice (.slice (.int .u8))), 24⟩), (35, ⟨(.slice (.int .u8)), 24⟩)], elems := [(103, 35)], ptrs := [(57, 105)], cons := [], objs := [], loops := [], cuts := [], globs := globs, base := 2 }
noncomputable def sourceSourceWaits.lp (n : Nat) : LP (RT sourceSourceWaits.con.rs × BT sourceSourceWaits.con.ps) := fun lo κ body nm K s =>
  loops n (RT sourceSourceWaits.con.rs × BT sourceSourceWaits.con.ps) lo κ body nm K s
theorem sourceSourceWaits.eq (n : Nat) (x : PT sourceSourceWaits.con.ps) : evFuncO sourceSourceWaits.env Try.f26 sourceSourceWaits.body sourceSourceWaits.con.ps sourceSourceWaits.con.rs (sourceSourceWaits.lp n) n x = sourceSourceWaits.con.f n x := by kernel_rfl
theorem sourceSourceWaits.sound : SoundO Try.prog globs 26 sourceSourceWaits.con :=
  sound_byO (E := sourceSourceWaits.env) (c := sourceSourceWaits.body) (envOk (G := globs) (lc := []) (lo := []) (envB_spec (by kernel_rfl)) rfl rfl trivial rfl trivial (by kernel_rfl) (by kernel_rfl)) Try.func26 (by kernel_rfl) (by kernel_rfl) (by kernel_rfl) sourceSourceWaits.lp (l := []) (by kernel_rfl) (fun n => trivial) sourceSourceWaits.eq
noncomputable def law26Fixed (fu : Nat) : Option (Bool × Unit) :=
  (sourceNew fu (5 : Int) ((1 : Int), (2 : Int), (2 : Int), ())).bind fun r1 =>
  oc r1.1.1 (
    some (false, ())) fun o2 =>
  cond (r1.1.2.1 != (0 : Int)) (
    some (false, ())) (
    (sourceSourceAdd fu o2 ((2 : Int), [], ()) (0 : Int)).bind fun r3 =>
    cond (r3.1.1 != (0 : Int)) (
      some (false, ())) (
      (sourceSourceSend fu r3.2.1 (0 : Int)).bind fun r4 =>
      let t5 := [((3 : Int), (5 : Int), (0 : Int), (1 : Int), (0 : Int), [(2 : Int), (0 : Int)], ())]
      (ref20SameAll fu r4.1.1 t5).bind fun r6 =>
      cond r6.1 (
        (sourceSourceHear fu r4.2.1 ((4 : Int), (5 : Int), (0 : Int), (1 : Int), (0 : Int), [], ()) (0 : Int)).bind fun r7 =>
        cond r7.1.1 (
          (sourceSourceWaits fu r7.2.1).bind fun r8 =>
          some (r8.1.1 == (0 : Int), ())) (
          some (false, ()))) (
        some (false, ()))))

noncomputable def law26Fixed.body : Code := Try.f24.body.getD .skip
noncomputable def law26Fixed.con : Con := { ps := [], rs := [.bool], f := fun n x => law26Fixed n }
noncomputable def law26Fixed.env : Env := { tys := [(4, ⟨.bool, 1⟩), (24, ⟨kS0, 12⟩), (57, ⟨.np, 8⟩), (63, ⟨kS4, 32⟩), (5, ⟨(.int .u8), 1⟩), (37, ⟨kS5, 56⟩)], elems := [(35, 5), (41, 37)], ptrs := [(57, 105)], cons := [(35, ref20SameAll.con)], objs := [(23, [sourceNew.con]), (25, [sourceSourceAdd.con]), (26, [sourceSourceWaits.con]), (30, [sourceSourceSend.con]), (31, [sourceSourceHear.con])], loops := [], cuts := [], globs := globs, base := 0 }
noncomputable def law26Fixed.lp (n : Nat) : LP (Kd.struct law26Fixed.con.rs).T := fun lo κ body nm K s =>
  loops n (Kd.struct law26Fixed.con.rs).T lo κ body nm K s
theorem law26Fixed.eq (n : Nat) (x : (Kd.struct law26Fixed.con.ps).T) : evFunc law26Fixed.env Try.f24 law26Fixed.body law26Fixed.con.ps law26Fixed.con.rs (law26Fixed.lp n) n x = law26Fixed.con.f n x := by kernel_rfl
theorem law26Fixed.sound : Sound Try.prog globs 24 law26Fixed.con :=
  sound_by (E := law26Fixed.env) (c := law26Fixed.body) (envOk (G := globs) (lc := [(35, ref20SameAll.con)]) (lo := [(23, [sourceNew.con]), (25, [sourceSourceAdd.con]), (26, [sourceSourceWaits.con]), (30, [sourceSourceSend.con]), (31, [sourceSourceHear.con])]) (envB_spec (by kernel_rfl)) rfl rfl ⟨.inl ⟨ref20SameAll.sound, by kernel_rfl⟩, trivial⟩ rfl ⟨⟨⟨sourceNew.sound, trivial⟩, by kernel_rfl⟩, ⟨⟨⟨sourceSourceAdd.sound, trivial⟩, by kernel_rfl⟩, ⟨⟨⟨sourceSourceWaits.sound, trivial⟩, by kernel_rfl⟩, ⟨⟨⟨sourceSourceSend.sound, trivial⟩, by kernel_rfl⟩, ⟨⟨⟨sourceSourceHear.sound, trivial⟩, by kernel_rfl⟩, trivial⟩⟩⟩⟩⟩ (by kernel_rfl) (by kernel_rfl)) Try.func24 (by kernel_rfl) law26Fixed.lp (l := []) (by kernel_rfl) (fun n => trivial) law26Fixed.eq
noncomputable def ref23May (fu : Nat) (b : S0) : Option (Bool × Unit) :=
  cond (decide (b.1 > (0 : Int))) (
    let t1 := decide (b.1 ≤ (65536 : Int))
    cond t1 (
      cond (decide (b.1 ≤ b.2.1)) (
        let t2 := decide (b.2.1 ≤ (1048576 : Int))
        cond t2 (
          let t3 := decide (b.2.2.1 > (0 : Int))
          cond t3 (
            let t4 := decide (b.2.2.1 ≤ (64 : Int))
            some (t4, ())) (
            some (false, ()))) (
          some (false, ()))) (
        some (false, ()))) (
      some (false, ()))) (
    some (false, ()))

noncomputable def ref23May.body : Code := Try.f11.body.getD .skip
noncomputable def ref23May.con : Con := { ps := [kS0], rs := [.bool], f := fun n x => ref23May n x.1 }
noncomputable def ref23May.env : Env := { tys := [(24, ⟨kS0, 12⟩), (4, ⟨.bool, 1⟩), (22, ⟨(.int .u32), 4⟩)], elems := [], ptrs := [], cons := [], objs := [], loops := [], cuts := [], globs := globs, base := 0 }
noncomputable def ref23May.lp (n : Nat) : LP (Kd.struct ref23May.con.rs).T := fun lo κ body nm K s =>
  loops n (Kd.struct ref23May.con.rs).T lo κ body nm K s
theorem ref23May.eq (n : Nat) (x : (Kd.struct ref23May.con.ps).T) : evFunc ref23May.env Try.f11 ref23May.body ref23May.con.ps ref23May.con.rs (ref23May.lp n) n x = ref23May.con.f n x := by kernel_rfl
theorem ref23May.sound : Sound Try.prog globs 11 ref23May.con :=
  sound_by (E := ref23May.env) (c := ref23May.body) (envOk (G := globs) (lc := []) (lo := []) (envB_spec (by kernel_rfl)) rfl rfl trivial rfl trivial (by kernel_rfl) (by kernel_rfl)) Try.func11 (by kernel_rfl) ref23May.lp (l := []) (by kernel_rfl) (fun n => trivial) ref23May.eq
noncomputable def law26SourceFull.j11 (fu : Nat) (k0 : Int → Int → Int → Int → Int → (List (List Int)) → S0 → Bool → Int → Int → Option (Bool × Unit)) (k1 : Bool → Option (Bool × Unit)) (kv : Int) (i : Int) (want : Int) (v : Int) (vx2 : Int) (c1 : Int) (c1x2 : Int) (c1x3 : List (List Int)) (b2 : S0) (c2 : Bool) (c2x2 : Int) (c2x3 : Int) : Option (Bool × Unit) :=
  (sourceSourceAdd fu (c1, (b2, c2, c2x2, c2x3, ()), c1x2, c1x3, ()) (IntKind.u8.wrap i, [], ()) (3 : Int)).bind fun r1 =>
  cond (r1.1.1 != want) (
    k1 false) (
    k0 kv v vx2 r1.2.1.1 r1.2.1.2.2.1 r1.2.1.2.2.2.1 r1.2.1.2.1.1 r1.2.1.2.1.2.1 r1.2.1.2.1.2.2.1 r1.2.1.2.1.2.2.2.1)
noncomputable def law26SourceFull.b6 (fu : Nat) (next : Int → Int → Int → Int → Int → (List (List Int)) → S0 → Bool → Int → Int → Option (Bool × Unit)) (k1 : Bool → Option (Bool × Unit)) (k2 : Int → Int → Int → (List (List Int)) → S0 → Bool → Int → Int → Option (Bool × Unit)) (kv : Int) (v : Int) (vx2 : Int) (c1 : Int) (c1x2 : Int) (c1x3 : List (List Int)) (b2 : S0) (c2 : Bool) (c2x2 : Int) (c2x3 : Int) : Option (Bool × Unit) :=
  cond (decide (vx2 < v)) (
    let t1 := decide (vx2 ≥ (512 : Int))
    cond t1 (
      law26SourceFull.j11 fu (fun kvq13 vq13 vq13x2 c1q13 c1q13x2 c1q13x3 b2q13 c2q13 c2q13x2 c2q13x3 => 
          let t2 := IntKind.i64.wrap (vq13x2 + (1 : Int))
          next kvq13 vq13 t2 c1q13 c1q13x2 c1q13x3 b2q13 c2q13 c2q13x2 c2q13x3) (fun vq14 => 
          k1 vq14) kv vx2 (7 : Int) v vx2 c1 c1x2 c1x3 b2 c2 c2x2 c2x3) (
      law26SourceFull.j11 fu (fun kvq15 vq15 vq15x2 c1q15 c1q15x2 c1q15x3 b2q15 c2q15 c2q15x2 c2q15x3 => 
          let t3 := IntKind.i64.wrap (vq15x2 + (1 : Int))
          next kvq15 vq15 t3 c1q15 c1q15x2 c1q15x3 b2q15 c2q15 c2q15x2 c2q15x3) (fun vq16 => 
          k1 vq16) kv vx2 (0 : Int) v vx2 c1 c1x2 c1x3 b2 c2 c2x2 c2x3)) (
    k2 kv c1 c1x2 c1x3 b2 c2 c2x2 c2x3)
noncomputable def law26SourceFull.l6 (fu : Nat) (k1 : Bool → Option (Bool × Unit)) (k2 : Int → Int → Int → (List (List Int)) → S0 → Bool → Int → Int → Option (Bool × Unit)) : Nat → Int → Int → Int → Int → Int → (List (List Int)) → S0 → Bool → Int → Int → Option (Bool × Unit)
  | 0, _, _, _, _, _, _, _, _, _, _ => none
  | m + 1, kv, v, vx2, c1, c1x2, c1x3, b2, c2, c2x2, c2x3 => law26SourceFull.b6 fu (law26SourceFull.l6 fu k1 k2 m) k1 k2 kv v vx2 c1 c1x2 c1x3 b2 c2 c2x2 c2x3
noncomputable def law26SourceFull (fu : Nat) (pub : Int) (b : S0) (n : Int) : Option (Bool × Unit) :=
  (sourceNew fu pub b).bind fun r1 =>
  oc r1.1.1 (
    (law26Fixed fu).bind fun r3 =>
    cond r3.1 (
      (ref23May fu b).bind fun r4 =>
      some (!r4.1, ())) (
      some (false, ()))) fun o2 =>
  cond (r1.1.2.1 != (0 : Int)) (
    (law26Fixed fu).bind fun r5 =>
    cond r5.1 (
      (ref23May fu b).bind fun r6 =>
      some (!r6.1, ())) (
      some (false, ()))) (
    let t7 := Int.tmod (IntKind.i64.wrap n) (600 : Int)
    law26SourceFull.l6 fu (fun vq7 => 
        some (vq7, ())) (fun kvq8 c1q8 c1q8x2 c1q8x3 b2q8 c2q8 c2q8x2 c2q8x3 => 
        (law26Fixed fu).bind fun r8 =>
        cond r8.1 (
          (sourceSourceWaits fu (c1q8, (b2q8, c2q8, c2q8x2, c2q8x3, ()), c1q8x2, c1q8x3, ())).bind fun r9 =>
          let t10 := r9.1.1 == min2 kvq8 (512 : Int)
          cond t10 (
            (sourceSourceAdd fu r9.2.1 ((0 : Int), [], ()) (1099511627777 : Int)).bind fun r11 =>
            some (r11.1.1 == (1 : Int), ())) (
            some (false, ()))) (
          some (false, ()))) fu t7 t7 (0 : Int) o2.1 o2.2.2.1 o2.2.2.2.1 o2.2.1.1 o2.2.1.2.1 o2.2.1.2.2.1 o2.2.1.2.2.2.1)

noncomputable def law26SourceFull.body : Code := Try.f5.body.getD .skip
abbrev law26SourceFull.shj11 : Shp := ⟨[.u, .u, .u, .u, .u, .u, .u, .p 1 0, .u, .d (.int .i64), .d (.int .i64), .d (.int .i64), .u, .u, .u, .u, .u, .u, .u, .u, .u, .u, .u, .u, .u, .u, .u, .u, .u, .u, .u, .u, .u, .d (.int .i64), .d (.int .i64), .u, .u, .u, .u, .u, .u, .u, .u, .u, .u, .u, .u, .u, .u, .u, .u, .u, .u, .u, .u, .u, .u, .u, .u, .u, .u], [.c [.u, .u, .u], .c [.d (.int .u32), .p 2 0, .d (.int .u64), .o 1053 (.slice (.int .u8))], .c [.g kS0, .d .bool, .d (.int .u32), .d (.int .u64)]]⟩
abbrev law26SourceFull.outj11e0 : Shp := ⟨[.u, .u, .u, .u, .u, .u, .u, .p 1 0, .u, .d (.int .i64), .u, .u, .u, .u, .u, .u, .u, .u, .u, .u, .u, .u, .u, .u, .u, .u, .u, .u, .u, .u, .u, .u, .u, .d (.int .i64), .d (.int .i64), .u, .u, .u, .u, .u, .u, .u, .u, .u, .u, .u, .u, .u, .u, .u, .u, .u, .u, .u, .u, .u, .u, .u, .u, .u, .u], [.c [.u, .u, .u], .c [.d (.int .u32), .p 2 0, .d (.int .u64), .o 1053 (.slice (.int .u8))], .c [.g kS0, .d .bool, .d (.int .u32), .d (.int .u64)]]⟩
abbrev law26SourceFull.outj11e1 : Shp := ⟨[.u, .u, .u, .u, .u, .u, .d .bool, .u, .u, .u, .u, .u, .u, .u, .u, .u, .u, .u, .u, .u, .u, .u, .u, .u, .u, .u, .u, .u, .u, .u, .u, .u, .u, .u, .u, .u, .u, .u, .u, .u, .u, .u, .u, .u, .u, .u, .u, .u, .u, .u, .u, .u, .u, .u, .u, .u, .u, .u, .u, .u, .u], []⟩
noncomputable def law26SourceFull.nmj11 : Norm := ⟨{ keep := [7, 9, 10, 11, 33, 34], shut := [(9, (.int .i64)), (10, (.int .i64)), (11, (.int .i64)), (33, (.int .i64)), (34, (.int .i64))], retag := [], heap := 3, dead := [0], cshut := [(1, 0, (.int .u32)), (1, 2, (.int .u64)), (2, 0, (.int .u32)), (2, 1, (.int .u32)), (2, 2, (.int .u32)), (2, 3, .bool), (2, 4, (.int .u32)), (2, 5, (.int .u64))], cretag := [(1, 3, 1053, (.slice (.int .u8)))] }, [(0, { keep := [7, 9, 33, 34], shut := [(9, (.int .i64)), (33, (.int .i64)), (34, (.int .i64))], retag := [], heap := 3, dead := [0], cshut := [(1, 0, (.int .u32)), (1, 2, (.int .u64)), (2, 0, (.int .u32)), (2, 1, (.int .u32)), (2, 2, (.int .u32)), (2, 3, .bool), (2, 4, (.int .u32)), (2, 5, (.int .u64))], cretag := [(1, 3, 1053, (.slice (.int .u8)))] }), (1, { keep := [6], shut := [(6, .bool)], retag := [], heap := 0, dead := [], cshut := [], cretag := [] })]⟩
abbrev law26SourceFull.shl6 : Shp := ⟨[.u, .u, .u, .u, .u, .u, .u, .p 1 0, .u, .d (.int .i64), .u, .u, .u, .u, .u, .u, .u, .u, .u, .u, .u, .u, .u, .u, .u, .u, .u, .u, .u, .u, .u, .u, .u, .d (.int .i64), .d (.int .i64), .u, .u, .u, .u, .u, .u, .u, .u, .u, .u, .u, .u, .u, .u, .u, .u, .u, .u, .u, .u, .u, .u, .u, .u, .u, .u], [.c [.u, .u, .u], .c [.d (.int .u32), .p 2 0, .d (.int .u64), .o 1053 (.slice (.int .u8))], .c [.g kS0, .d .bool, .d (.int .u32), .d (.int .u64)]]⟩
abbrev law26SourceFull.outl6e1 : Shp := ⟨[.u, .u, .u, .u, .u, .u, .d .bool, .u, .u, .u, .u, .u, .u, .u, .u, .u, .u, .u, .u, .u, .u, .u, .u, .u, .u, .u, .u, .u, .u, .u, .u, .u, .u, .u, .u, .u, .u, .u, .u, .u, .u, .u, .u, .u, .u, .u, .u, .u, .u, .u, .u, .u, .u, .u, .u, .u, .u, .u, .u, .u, .u], []⟩
abbrev law26SourceFull.outl6e2 : Shp := ⟨[.u, .u, .u, .u, .u, .u, .u, .p 1 0, .u, .d (.int .i64), .u, .u, .u, .u, .u, .u, .u, .u, .u, .u, .u, .u, .u, .u, .u, .u, .u, .u, .u, .u, .u, .u, .u, .u, .u, .u, .u, .u, .u, .u, .u, .u, .u, .u, .u, .u, .u, .u, .u, .u, .u, .u, .u, .u, .u, .u, .u, .u, .u, .u, .u], [.c [.u, .u, .u], .c [.d (.int .u32), .p 2 0, .d (.int .u64), .o 1053 (.slice (.int .u8))], .c [.g kS0, .d .bool, .d (.int .u32), .d (.int .u64)]]⟩
noncomputable def law26SourceFull.nml6 : Norm := ⟨{ keep := [7, 9, 33, 34], shut := [(9, (.int .i64)), (33, (.int .i64)), (34, (.int .i64))], retag := [], heap := 3, dead := [0], cshut := [(1, 0, (.int .u32)), (1, 2, (.int .u64)), (2, 0, (.int .u32)), (2, 1, (.int .u32)), (2, 2, (.int .u32)), (2, 3, .bool), (2, 4, (.int .u32)), (2, 5, (.int .u64))], cretag := [(1, 3, 1053, (.slice (.int .u8)))] }, [(1, { keep := [6], shut := [(6, .bool)], retag := [], heap := 0, dead := [], cshut := [], cretag := [] }), (2, { keep := [7, 9], shut := [(9, (.int .i64))], retag := [], heap := 3, dead := [0], cshut := [(1, 0, (.int .u32)), (1, 2, (.int .u64)), (2, 0, (.int .u32)), (2, 1, (.int .u32)), (2, 2, (.int .u32)), (2, 3, .bool), (2, 4, (.int .u32)), (2, 5, (.int .u64))], cretag := [(1, 3, 1053, (.slice (.int .u8)))] })]⟩
noncomputable def law26SourceFull.con : Con := { ps := [(.int .u32), kS0, (.int .u16)], rs := [.bool], f := fun n x => law26SourceFull n x.1 x.2.1 x.2.2.1 }
noncomputable def law26SourceFull.env : Env := { tys := [(24, ⟨kS0, 12⟩), (4, ⟨.bool, 1⟩), (57, ⟨.np, 8⟩), (3, ⟨(.int .i64), 8⟩), (56, ⟨(.int .u16), 2⟩), (27, ⟨(.int .i64), 8⟩), (5, ⟨(.int .u8), 1⟩), (63, ⟨kS4, 32⟩)], elems := [], ptrs := [(57, 105)], cons := [(24, law26Fixed.con), (11, ref23May.con)], objs := [(23, [sourceNew.con]), (25, [sourceSourceAdd.con]), (26, [sourceSourceWaits.con])], loops := [(6, law26SourceFull.nml6)], cuts := [(11, law26SourceFull.nmj11)], globs := globs, base := 0 }
noncomputable def law26SourceFull.lp (n : Nat) : LP (Kd.struct law26SourceFull.con.rs).T := fun lo κ body nm K s =>
  cond (!lo && Nat.beq κ 11)
    (match law26SourceFull.shj11.dec s with
    | some v => law26SourceFull.j11 n (fun w0 w1 w2 w3 w4 w5 w6 w7 w8 w9 => K .normal (law26SourceFull.outj11e0.enc (w0, w1, w2, w3, w4, w5, w6, w7, w8, w9, ()))) (fun w0 => K .ret (law26SourceFull.outj11e1.enc (w0, ()))) v.1 v.2.1 v.2.2.1 v.2.2.2.1 v.2.2.2.2.1 v.2.2.2.2.2.1 v.2.2.2.2.2.2.1 v.2.2.2.2.2.2.2.1 v.2.2.2.2.2.2.2.2.1 v.2.2.2.2.2.2.2.2.2.1 v.2.2.2.2.2.2.2.2.2.2.1 v.2.2.2.2.2.2.2.2.2.2.2.1
    | none => loops n (Kd.struct law26SourceFull.con.rs).T lo κ body nm K s)
    (cond (lo && Nat.beq κ 6)
    (match law26SourceFull.shl6.dec s with
    | some v => law26SourceFull.l6 n (fun w0 => K .ret (law26SourceFull.outl6e1.enc (w0, ()))) (fun w0 w1 w2 w3 w4 w5 w6 w7 => K (.exit 0) (law26SourceFull.outl6e2.enc (w0, w1, w2, w3, w4, w5, w6, w7, ()))) n v.1 v.2.1 v.2.2.1 v.2.2.2.1 v.2.2.2.2.1 v.2.2.2.2.2.1 v.2.2.2.2.2.2.1 v.2.2.2.2.2.2.2.1 v.2.2.2.2.2.2.2.2.1 v.2.2.2.2.2.2.2.2.2.1
    | none => loops n (Kd.struct law26SourceFull.con.rs).T lo κ body nm K s)
    (loops n (Kd.struct law26SourceFull.con.rs).T lo κ body nm K s))
theorem law26SourceFull.atj11 (n : Nat) (s : St) (K : Ex → St → Option (Kd.struct law26SourceFull.con.rs).T) : (law26SourceFull.lp n) false 11 (evK law26SourceFull.env (law26SourceFull.lp n) n (sub [1, 1, 1, 1, 0, 1, 0, 0, 1, 1, 0, 0, 1, 1, 1] law26SourceFull.body)) law26SourceFull.nmj11 K s = loops n (Kd.struct law26SourceFull.con.rs).T false 11 (evK law26SourceFull.env (law26SourceFull.lp n) n (sub [1, 1, 1, 1, 0, 1, 0, 0, 1, 1, 0, 0, 1, 1, 1] law26SourceFull.body)) law26SourceFull.nmj11 K s := by
  show (match law26SourceFull.shj11.dec s with | some v => law26SourceFull.j11 n (fun w0 w1 w2 w3 w4 w5 w6 w7 w8 w9 => K .normal (law26SourceFull.outj11e0.enc (w0, w1, w2, w3, w4, w5, w6, w7, w8, w9, ()))) (fun w0 => K .ret (law26SourceFull.outj11e1.enc (w0, ()))) v.1 v.2.1 v.2.2.1 v.2.2.2.1 v.2.2.2.2.1 v.2.2.2.2.2.1 v.2.2.2.2.2.2.1 v.2.2.2.2.2.2.2.1 v.2.2.2.2.2.2.2.2.1 v.2.2.2.2.2.2.2.2.2.1 v.2.2.2.2.2.2.2.2.2.2.1 v.2.2.2.2.2.2.2.2.2.2.2.1 | none => loops n (Kd.struct law26SourceFull.con.rs).T false 11 (evK law26SourceFull.env (law26SourceFull.lp n) n (sub [1, 1, 1, 1, 0, 1, 0, 0, 1, 1, 0, 0, 1, 1, 1] law26SourceFull.body)) law26SourceFull.nmj11 K s) = _
  cases h : law26SourceFull.shj11.dec s with
  | none => rfl
  | some v =>
    rw [Shp.dec_enc h]
    kernel_rfl
theorem law26SourceFull.atl6 (n : Nat) (s : St) (K : Ex → St → Option (Kd.struct law26SourceFull.con.rs).T) : (law26SourceFull.lp n) true 6 (evK law26SourceFull.env (law26SourceFull.lp n) n (sub [1, 1, 1, 1, 0, 1, 0, 0] law26SourceFull.body)) law26SourceFull.nml6 K s = loops n (Kd.struct law26SourceFull.con.rs).T true 6 (evK law26SourceFull.env (law26SourceFull.lp n) n (sub [1, 1, 1, 1, 0, 1, 0, 0] law26SourceFull.body)) law26SourceFull.nml6 K s := by
  show (match law26SourceFull.shl6.dec s with | some v => law26SourceFull.l6 n (fun w0 => K .ret (law26SourceFull.outl6e1.enc (w0, ()))) (fun w0 w1 w2 w3 w4 w5 w6 w7 => K (.exit 0) (law26SourceFull.outl6e2.enc (w0, w1, w2, w3, w4, w5, w6, w7, ()))) n v.1 v.2.1 v.2.2.1 v.2.2.2.1 v.2.2.2.2.1 v.2.2.2.2.2.1 v.2.2.2.2.2.2.1 v.2.2.2.2.2.2.2.1 v.2.2.2.2.2.2.2.2.1 v.2.2.2.2.2.2.2.2.2.1 | none => loops n (Kd.struct law26SourceFull.con.rs).T true 6 (evK law26SourceFull.env (law26SourceFull.lp n) n (sub [1, 1, 1, 1, 0, 1, 0, 0] law26SourceFull.body)) law26SourceFull.nml6 K s) = _
  cases h : law26SourceFull.shl6.dec s with
  | none => rfl
  | some v =>
    rw [Shp.dec_enc h]
    exact (evLoop_eq (sh := law26SourceFull.shl6) (body := evK law26SourceFull.env (law26SourceFull.lp n) n (sub [1, 1, 1, 1, 0, 1, 0, 0] law26SourceFull.body)) (nm := law26SourceFull.nml6) (K := K) (b := fun nx v => law26SourceFull.b6 n (fun x0 x1 x2 x3 x4 x5 x6 x7 x8 x9 => nx (x0, x1, x2, x3, x4, x5, x6, x7, x8, x9, ())) (fun w0 => K .ret (law26SourceFull.outl6e1.enc (w0, ()))) (fun w0 w1 w2 w3 w4 w5 w6 w7 => K (.exit 0) (law26SourceFull.outl6e2.enc (w0, w1, w2, w3, w4, w5, w6, w7, ()))) v.1 v.2.1 v.2.2.1 v.2.2.2.1 v.2.2.2.2.1 v.2.2.2.2.2.1 v.2.2.2.2.2.2.1 v.2.2.2.2.2.2.2.1 v.2.2.2.2.2.2.2.2.1 v.2.2.2.2.2.2.2.2.2.1) (l := fun m v => law26SourceFull.l6 n (fun w0 => K .ret (law26SourceFull.outl6e1.enc (w0, ()))) (fun w0 w1 w2 w3 w4 w5 w6 w7 => K (.exit 0) (law26SourceFull.outl6e2.enc (w0, w1, w2, w3, w4, w5, w6, w7, ()))) m v.1 v.2.1 v.2.2.1 v.2.2.2.1 v.2.2.2.2.1 v.2.2.2.2.2.1 v.2.2.2.2.2.2.1 v.2.2.2.2.2.2.2.1 v.2.2.2.2.2.2.2.2.1 v.2.2.2.2.2.2.2.2.2.1) (fun _ => rfl) (fun _ _ => rfl) (fun m v => by kernel_rfl) n v).symm
theorem law26SourceFull.eq (n : Nat) (x : (Kd.struct law26SourceFull.con.ps).T) : evFunc law26SourceFull.env Try.f5 law26SourceFull.body law26SourceFull.con.ps law26SourceFull.con.rs (law26SourceFull.lp n) n x = law26SourceFull.con.f n x := by kernel_rfl
theorem law26SourceFull.sound : Sound Try.prog globs 5 law26SourceFull.con :=
  sound_by (E := law26SourceFull.env) (c := law26SourceFull.body) (envOk (G := globs) (lc := [(24, law26Fixed.con), (11, ref23May.con)]) (lo := [(23, [sourceNew.con]), (25, [sourceSourceAdd.con]), (26, [sourceSourceWaits.con])]) (envB_spec (by kernel_rfl)) rfl rfl ⟨.inl ⟨law26Fixed.sound, by kernel_rfl⟩, ⟨.inl ⟨ref23May.sound, by kernel_rfl⟩, trivial⟩⟩ rfl ⟨⟨⟨sourceNew.sound, trivial⟩, by kernel_rfl⟩, ⟨⟨⟨sourceSourceAdd.sound, trivial⟩, by kernel_rfl⟩, ⟨⟨⟨sourceSourceWaits.sound, trivial⟩, by kernel_rfl⟩, trivial⟩⟩⟩ (by kernel_rfl) (by kernel_rfl)) Try.func5 (by kernel_rfl) law26SourceFull.lp (l := [(false, sub [1, 1, 1, 1, 0, 1, 0, 0, 1, 1, 0, 0, 1, 1, 1] law26SourceFull.body, law26SourceFull.nmj11), (true, sub [1, 1, 1, 1, 0, 1, 0, 0] law26SourceFull.body, law26SourceFull.nml6)]) (by kernel_rfl) (fun n => ⟨law26SourceFull.atj11 n, ⟨law26SourceFull.atl6 n, trivial⟩⟩) law26SourceFull.eq
noncomputable def law04RawValue (fu : Nat) (rv : S6) : Option (S3 × Unit) :=
  (extFrom.f fu (rv.2.2.1, ())).bind fun r1 =>
  some ((rv.1, rv.2.1, r1.1, rv.2.2.2.1, ()), ())

noncomputable def law04RawValue.body : Code := Try.f52.body.getD .skip
noncomputable def law04RawValue.con : Con := { ps := [kS6], rs := [kS3], f := fun n x => law04RawValue n x.1 }
noncomputable def law04RawValue.env : Env := { tys := [(114, ⟨kS6, 40⟩), (112, ⟨kS3, 40⟩), (5, ⟨(.int .u8), 1⟩), (2, ⟨(.int .i64), 8⟩), (34, ⟨(.int .u64), 8⟩), (9, ⟨.str, 16⟩)], elems := [], ptrs := [], cons := [(66, extFrom)], objs := [], loops := [], cuts := [], globs := globs, base := 0 }
noncomputable def law04RawValue.lp (n : Nat) : LP (Kd.struct law04RawValue.con.rs).T := fun lo κ body nm K s =>
  loops n (Kd.struct law04RawValue.con.rs).T lo κ body nm K s
theorem law04RawValue.eq (n : Nat) (x : (Kd.struct law04RawValue.con.ps).T) : evFunc law04RawValue.env Try.f52 law04RawValue.body law04RawValue.con.ps law04RawValue.con.rs (law04RawValue.lp n) n x = law04RawValue.con.f n x := by kernel_rfl
theorem law04RawValue.sound : Sound Try.prog globs 52 law04RawValue.con :=
  sound_by (E := law04RawValue.env) (c := law04RawValue.body) (envOk (G := globs) (lc := [(66, extFrom)]) (lo := []) (envB_spec (by kernel_rfl)) rfl rfl ⟨.inr (extFrom_ok Try.func66 (by kernel_rfl) (by kernel_rfl) (by kernel_rfl) (by kernel_rfl)), trivial⟩ rfl trivial (by kernel_rfl) (by kernel_rfl)) Try.func52 (by kernel_rfl) law04RawValue.lp (l := []) (by kernel_rfl) (fun n => trivial) law04RawValue.eq
noncomputable def law05RawEvent.b3 (fu : Nat) (next : (List S6) → Int → Int → Int → (List S3) → Int → (List S3) → Option (S4 × Unit)) (k2 : Int → (List S3) → Int → (List S3) → Option (S4 × Unit)) (v : List S6) (vx2 : Int) (vx3 : Int) (c1 : Int) (c1x2 : List S3) (c2 : Int) (c2x2 : List S3) : Option (S4 × Unit) :=
  cond (decide (vx3 < vx2)) (
    chk (ixOk v vx3) <|
    let e1 := ixL ((0 : Int), (0 : Int), (0 : Int), [], ()) v vx3
    let t2 := decide (vx3 < (30 : Int))
    cond t2 (
      (law04RawValue fu e1).bind fun r3 =>
      chk (apOk c2x2 ([r3.1]) 40) <|
      let t4 := IntKind.i64.wrap (vx3 + (1 : Int))
      next v vx2 t4 c1 c1x2 c2 (c2x2 ++ ([r3.1]))) (
      let t5 := IntKind.i64.wrap (vx3 + (1 : Int))
      next v vx2 t5 c1 c1x2 c2 c2x2)) (
    k2 c1 c1x2 c2 c2x2)
noncomputable def law05RawEvent.l3 (fu : Nat) (k2 : Int → (List S3) → Int → (List S3) → Option (S4 × Unit)) : Nat → (List S6) → Int → Int → Int → (List S3) → Int → (List S3) → Option (S4 × Unit)
  | 0, _, _, _, _, _, _, _ => none
  | m + 1, v, vx2, vx3, c1, c1x2, c2, c2x2 => law05RawEvent.b3 fu (law05RawEvent.l3 fu k2 m) k2 v vx2 vx3 c1 c1x2 c2 c2x2
noncomputable def law05RawEvent (fu : Nat) (rv : S7) : Option (S4 × Unit) :=
  law05RawEvent.l3 fu (fun c1q2 c1q2x2 c2q2 c2q2x2 => 
      some ((c2q2, c2q2x2, ()), ())) fu rv.2.1 (rv.2.1.length : Int) (0 : Int) (0 : Int) [] rv.1 []

noncomputable def law05RawEvent.body : Code := Try.f29.body.getD .skip
abbrev law05RawEvent.shl3 : Shp := ⟨[.u, .u, .p 1 0, .p 2 0, .u, .u, .u, .u, .u, .u, .d (.slice kS6), .d (.int .i64), .d (.int .i64), .u, .u, .u, .u, .u, .u, .u, .u, .u, .u, .u, .u, .u, .u, .u], [.c [.u, .u], .c [.d (.int .u8), .o 1051 kS3], .c [.d (.int .u8), .o 1101 kS3]]⟩
abbrev law05RawEvent.outl3e2 : Shp := ⟨[.u, .u, .p 1 0, .p 2 0, .u, .u, .u, .u, .u, .u, .u, .u, .u, .u, .u, .u, .u, .u, .u, .u, .u, .u, .u, .u, .u, .u, .u, .u], [.c [.u, .u], .c [.d (.int .u8), .o 1051 kS3], .c [.d (.int .u8), .o 1101 kS3]]⟩
noncomputable def law05RawEvent.nml3 : Norm := ⟨{ keep := [2, 3, 10, 11, 12], shut := [(10, (.slice kS6)), (11, (.int .i64)), (12, (.int .i64))], retag := [], heap := 3, dead := [0], cshut := [(1, 0, (.int .u8)), (2, 0, (.int .u8))], cretag := [(1, 1, 1051, kS3), (2, 1, 1101, kS3)] }, [(2, { keep := [2, 3], shut := [], retag := [], heap := 3, dead := [0], cshut := [(1, 0, (.int .u8)), (2, 0, (.int .u8))], cretag := [(1, 1, 1051, kS3), (2, 1, 1101, kS3)] })]⟩
noncomputable def law05RawEvent.con : Con := { ps := [kS7], rs := [kS4], f := fun n x => law05RawEvent n x.1 }
noncomputable def law05RawEvent.env : Env := { tys := [(71, ⟨kS7, 32⟩), (63, ⟨kS4, 32⟩), (5, ⟨(.int .u8), 1⟩), (69, ⟨(.slice kS6), 24⟩), (114, ⟨kS6, 40⟩), (3, ⟨(.int .i64), 8⟩), (61, ⟨(.slice kS3), 24⟩), (112, ⟨kS3, 40⟩)], elems := [(69, 114), (61, 112)], ptrs := [], cons := [(52, law04RawValue.con)], objs := [], loops := [(3, law05RawEvent.nml3)], cuts := [], globs := globs, base := 0 }
noncomputable def law05RawEvent.lp (n : Nat) : LP (Kd.struct law05RawEvent.con.rs).T := fun lo κ body nm K s =>
  cond (lo && Nat.beq κ 3)
    (match law05RawEvent.shl3.dec s with
    | some v => law05RawEvent.l3 n (fun w0 w1 w2 w3 => K (.exit 0) (law05RawEvent.outl3e2.enc (w0, w1, w2, w3, ()))) n v.1 v.2.1 v.2.2.1 v.2.2.2.1 v.2.2.2.2.1 v.2.2.2.2.2.1 v.2.2.2.2.2.2.1
    | none => loops n (Kd.struct law05RawEvent.con.rs).T lo κ body nm K s)
    (loops n (Kd.struct law05RawEvent.con.rs).T lo κ body nm K s)
theorem law05RawEvent.atl3 (n : Nat) (s : St) (K : Ex → St → Option (Kd.struct law05RawEvent.con.rs).T) : (law05RawEvent.lp n) true 3 (evK law05RawEvent.env (law05RawEvent.lp n) n (sub [1, 1, 0, 1, 0, 0] law05RawEvent.body)) law05RawEvent.nml3 K s = loops n (Kd.struct law05RawEvent.con.rs).T true 3 (evK law05RawEvent.env (law05RawEvent.lp n) n (sub [1, 1, 0, 1, 0, 0] law05RawEvent.body)) law05RawEvent.nml3 K s := by
  show (match law05RawEvent.shl3.dec s with | some v => law05RawEvent.l3 n (fun w0 w1 w2 w3 => K (.exit 0) (law05RawEvent.outl3e2.enc (w0, w1, w2, w3, ()))) n v.1 v.2.1 v.2.2.1 v.2.2.2.1 v.2.2.2.2.1 v.2.2.2.2.2.1 v.2.2.2.2.2.2.1 | none => loops n (Kd.struct law05RawEvent.con.rs).T true 3 (evK law05RawEvent.env (law05RawEvent.lp n) n (sub [1, 1, 0, 1, 0, 0] law05RawEvent.body)) law05RawEvent.nml3 K s) = _
  cases h : law05RawEvent.shl3.dec s with
  | none => rfl
  | some v =>
    rw [Shp.dec_enc h]
    exact (evLoop_eq (sh := law05RawEvent.shl3) (body := evK law05RawEvent.env (law05RawEvent.lp n) n (sub [1, 1, 0, 1, 0, 0] law05RawEvent.body)) (nm := law05RawEvent.nml3) (K := K) (b := fun nx v => law05RawEvent.b3 n (fun x0 x1 x2 x3 x4 x5 x6 => nx (x0, x1, x2, x3, x4, x5, x6, ())) (fun w0 w1 w2 w3 => K (.exit 0) (law05RawEvent.outl3e2.enc (w0, w1, w2, w3, ()))) v.1 v.2.1 v.2.2.1 v.2.2.2.1 v.2.2.2.2.1 v.2.2.2.2.2.1 v.2.2.2.2.2.2.1) (l := fun m v => law05RawEvent.l3 n (fun w0 w1 w2 w3 => K (.exit 0) (law05RawEvent.outl3e2.enc (w0, w1, w2, w3, ()))) m v.1 v.2.1 v.2.2.1 v.2.2.2.1 v.2.2.2.2.1 v.2.2.2.2.2.1 v.2.2.2.2.2.2.1) (fun _ => rfl) (fun _ _ => rfl) (fun m v => by kernel_rfl) n v).symm
theorem law05RawEvent.eq (n : Nat) (x : (Kd.struct law05RawEvent.con.ps).T) : evFunc law05RawEvent.env Try.f29 law05RawEvent.body law05RawEvent.con.ps law05RawEvent.con.rs (law05RawEvent.lp n) n x = law05RawEvent.con.f n x := by kernel_rfl
theorem law05RawEvent.sound : Sound Try.prog globs 29 law05RawEvent.con :=
  sound_by (E := law05RawEvent.env) (c := law05RawEvent.body) (envOk (G := globs) (lc := [(52, law04RawValue.con)]) (lo := []) (envB_spec (by kernel_rfl)) rfl rfl ⟨.inl ⟨law04RawValue.sound, by kernel_rfl⟩, trivial⟩ rfl trivial (by kernel_rfl) (by kernel_rfl)) Try.func29 (by kernel_rfl) law05RawEvent.lp (l := [(true, sub [1, 1, 0, 1, 0, 0] law05RawEvent.body, law05RawEvent.nml3)]) (by kernel_rfl) (fun n => ⟨law05RawEvent.atl3 n, trivial⟩) law05RawEvent.eq
noncomputable def ref05Great.b5 (fu : Nat) (next : Int → Int → Int → S4 → Option (Bool × Unit)) (k2 : Int → Option (Bool × Unit)) (n : Int) (v : Int) (vx2 : Int) (b0 : S4) : Option (Bool × Unit) :=
  cond (decide (vx2 < v)) (
    chk (ixOk b0.2.1 vx2) <|
    let e1 := ixL ((0 : Int), (0 : Int), (0 : Nat), [], ()) b0.2.1 vx2
    let t2 := (e1.2.2.2.1.length : Int)
    let t3 := IntKind.i64.wrap (n + min2 t2 (3000 : Int))
    let t4 := IntKind.i64.wrap (vx2 + (1 : Int))
    next t3 v t4 b0) (
    k2 n)
noncomputable def ref05Great.l5 (fu : Nat) (k2 : Int → Option (Bool × Unit)) : Nat → Int → Int → Int → S4 → Option (Bool × Unit)
  | 0, _, _, _, _ => none
  | m + 1, n, v, vx2, b0 => ref05Great.b5 fu (ref05Great.l5 fu k2 m) k2 n v vx2 b0
noncomputable def ref05Great (fu : Nat) (ev : S4) : Option (Bool × Unit) :=
  let t1 := decide ((ev.2.1.length : Int) > (40 : Int))
  cond t1 (
    some (true, ())) (
    ref05Great.l5 fu (fun nq2 => 
        let t2 := decide (nq2 > (3000 : Int))
        some (t2, ())) fu (ev.2.1.length : Int) (ev.2.1.length : Int) (0 : Int) ev)

noncomputable def ref05Great.body : Code := Try.f49.body.getD .skip
abbrev ref05Great.shl5 : Shp := ⟨[.u, .p 0 0, .u, .d (.int .i64), .u, .u, .u, .u, .u, .u, .u, .u, .d (.int .i64), .d (.int .i64), .u, .u, .u, .u, .u, .u, .u, .u, .u, .u, .u, .u, .u, .u, .u], [.c [.g kS4]]⟩
abbrev ref05Great.outl5e2 : Shp := ⟨[.u, .u, .u, .d (.int .i64), .u, .u, .u, .u, .u, .u, .u, .u, .u, .u, .u, .u, .u, .u, .u, .u, .u, .u, .u, .u, .u, .u, .u, .u, .u], []⟩
noncomputable def ref05Great.nml5 : Norm := ⟨{ keep := [1, 3, 12, 13], shut := [(3, (.int .i64)), (12, (.int .i64)), (13, (.int .i64))], retag := [], heap := 1, dead := [], cshut := [(0, 0, (.int .u8)), (0, 1, (.slice kS3))], cretag := [] }, [(2, { keep := [3], shut := [(3, (.int .i64))], retag := [], heap := 0, dead := [], cshut := [], cretag := [] })]⟩
noncomputable def ref05Great.con : Con := { ps := [kS4], rs := [.bool], f := fun n x => ref05Great n x.1 }
noncomputable def ref05Great.env : Env := { tys := [(63, ⟨kS4, 32⟩), (4, ⟨.bool, 1⟩), (61, ⟨(.slice kS3), 24⟩), (112, ⟨kS3, 40⟩), (3, ⟨(.int .i64), 8⟩), (9, ⟨.str, 16⟩)], elems := [(61, 112)], ptrs := [], cons := [], objs := [], loops := [(5, ref05Great.nml5)], cuts := [], globs := globs, base := 0 }
noncomputable def ref05Great.lp (n : Nat) : LP (Kd.struct ref05Great.con.rs).T := fun lo κ body nm K s =>
  cond (lo && Nat.beq κ 5)
    (match ref05Great.shl5.dec s with
    | some v => ref05Great.l5 n (fun w0 => K (.exit 0) (ref05Great.outl5e2.enc (w0, ()))) n v.1 v.2.1 v.2.2.1 v.2.2.2.1
    | none => loops n (Kd.struct ref05Great.con.rs).T lo κ body nm K s)
    (loops n (Kd.struct ref05Great.con.rs).T lo κ body nm K s)
theorem ref05Great.atl5 (n : Nat) (s : St) (K : Ex → St → Option (Kd.struct ref05Great.con.rs).T) : (ref05Great.lp n) true 5 (evK ref05Great.env (ref05Great.lp n) n (sub [1, 1, 1, 0, 1, 0, 0] ref05Great.body)) ref05Great.nml5 K s = loops n (Kd.struct ref05Great.con.rs).T true 5 (evK ref05Great.env (ref05Great.lp n) n (sub [1, 1, 1, 0, 1, 0, 0] ref05Great.body)) ref05Great.nml5 K s := by
  show (match ref05Great.shl5.dec s with | some v => ref05Great.l5 n (fun w0 => K (.exit 0) (ref05Great.outl5e2.enc (w0, ()))) n v.1 v.2.1 v.2.2.1 v.2.2.2.1 | none => loops n (Kd.struct ref05Great.con.rs).T true 5 (evK ref05Great.env (ref05Great.lp n) n (sub [1, 1, 1, 0, 1, 0, 0] ref05Great.body)) ref05Great.nml5 K s) = _
  cases h : ref05Great.shl5.dec s with
  | none => rfl
  | some v =>
    rw [Shp.dec_enc h]
    exact (evLoop_eq (sh := ref05Great.shl5) (body := evK ref05Great.env (ref05Great.lp n) n (sub [1, 1, 1, 0, 1, 0, 0] ref05Great.body)) (nm := ref05Great.nml5) (K := K) (b := fun nx v => ref05Great.b5 n (fun x0 x1 x2 x3 => nx (x0, x1, x2, x3, ())) (fun w0 => K (.exit 0) (ref05Great.outl5e2.enc (w0, ()))) v.1 v.2.1 v.2.2.1 v.2.2.2.1) (l := fun m v => ref05Great.l5 n (fun w0 => K (.exit 0) (ref05Great.outl5e2.enc (w0, ()))) m v.1 v.2.1 v.2.2.1 v.2.2.2.1) (fun _ => rfl) (fun _ _ => rfl) (fun m v => by kernel_rfl) n v).symm
theorem ref05Great.eq (n : Nat) (x : (Kd.struct ref05Great.con.ps).T) : evFunc ref05Great.env Try.f49 ref05Great.body ref05Great.con.ps ref05Great.con.rs (ref05Great.lp n) n x = ref05Great.con.f n x := by kernel_rfl
theorem ref05Great.sound : Sound Try.prog globs 49 ref05Great.con :=
  sound_by (E := ref05Great.env) (c := ref05Great.body) (envOk (G := globs) (lc := []) (lo := []) (envB_spec (by kernel_rfl)) rfl rfl trivial rfl trivial (by kernel_rfl) (by kernel_rfl)) Try.func49 (by kernel_rfl) ref05Great.lp (l := [(true, sub [1, 1, 1, 0, 1, 0, 0] ref05Great.body, ref05Great.nml5)]) (by kernel_rfl) (fun n => ⟨ref05Great.atl5 n, trivial⟩) ref05Great.eq
noncomputable def law26Cut.b2 (fu : Nat) (next : (List S8) → (List S8) → Int → Int → Option ((List S8) × Unit)) (k1 : (List S8) → Option ((List S8) × Unit)) (k2 : (List S8) → Option ((List S8) × Unit)) (l : List S8) (v : List S8) (vx2 : Int) (vx3 : Int) : Option ((List S8) × Unit) :=
  cond (decide (vx3 < vx2)) (
    chk (ixOk v vx3) <|
    let e1 := ixL ((0 : Int), (0 : Int), ((0 : Int), [], ()), (0 : Int), (0 : Int), (0 : Int), ()) v vx3
    let t2 := decide (vx3 > (150 : Int))
    cond t2 (
      chk (cutOk l (0 : Int) vx3) <|
      k1 (cutL l (0 : Int) vx3)) (
      (law05RawEvent fu e1.2.2.1).bind fun r3 =>
      (ref05Great fu r3.1).bind fun r4 =>
      cond r4.1 (
        chk (cutOk l (0 : Int) vx3) <|
        k1 (cutL l (0 : Int) vx3)) (
        let t5 := IntKind.i64.wrap (vx3 + (1 : Int))
        next l v vx2 t5))) (
    k2 l)
noncomputable def law26Cut.l2 (fu : Nat) (k1 : (List S8) → Option ((List S8) × Unit)) (k2 : (List S8) → Option ((List S8) × Unit)) : Nat → (List S8) → (List S8) → Int → Int → Option ((List S8) × Unit)
  | 0, _, _, _, _ => none
  | m + 1, l, v, vx2, vx3 => law26Cut.b2 fu (law26Cut.l2 fu k1 k2 m) k1 k2 l v vx2 vx3
noncomputable def law26Cut (fu : Nat) (l : List S8) : Option ((List S8) × Unit) :=
  law26Cut.l2 fu (fun vq3 => 
      some (vq3, ())) (fun lq4 => 
      some (lq4, ())) fu l l (l.length : Int) (0 : Int)

noncomputable def law26Cut.body : Code := Try.f27.body.getD .skip
abbrev law26Cut.shl2 : Shp := ⟨[.d (.slice kS8), .u, .u, .u, .u, .d (.slice kS8), .d (.int .i64), .d (.int .i64), .u, .u, .u, .u, .u, .u, .u, .u, .u, .u, .u, .u, .u, .u, .u, .u, .u], []⟩
abbrev law26Cut.outl2e1 : Shp := ⟨[.u, .u, .d (.slice kS8), .u, .u, .u, .u, .u, .u, .u, .u, .u, .u, .u, .u, .u, .u, .u, .u, .u, .u, .u, .u, .u, .u], []⟩
abbrev law26Cut.outl2e2 : Shp := ⟨[.d (.slice kS8), .u, .u, .u, .u, .u, .u, .u, .u, .u, .u, .u, .u, .u, .u, .u, .u, .u, .u, .u, .u, .u, .u, .u, .u], []⟩
noncomputable def law26Cut.nml2 : Norm := ⟨{ keep := [0, 5, 6, 7], shut := [(0, (.slice kS8)), (5, (.slice kS8)), (6, (.int .i64)), (7, (.int .i64))], retag := [], heap := 0, dead := [], cshut := [], cretag := [] }, [(1, { keep := [2], shut := [(2, (.slice kS8))], retag := [], heap := 0, dead := [], cshut := [], cretag := [] }), (2, { keep := [0], shut := [(0, (.slice kS8))], retag := [], heap := 0, dead := [], cshut := [], cretag := [] })]⟩
noncomputable def law26Cut.con : Con := { ps := [(.slice kS8)], rs := [(.slice kS8)], f := fun n x => law26Cut n x.1 }
noncomputable def law26Cut.env : Env := { tys := [(66, ⟨(.slice kS8), 24⟩), (73, ⟨kS8, 64⟩), (3, ⟨(.int .i64), 8⟩), (4, ⟨.bool, 1⟩), (71, ⟨kS7, 32⟩)], elems := [(66, 73)], ptrs := [], cons := [(29, law05RawEvent.con), (49, ref05Great.con)], objs := [], loops := [(2, law26Cut.nml2)], cuts := [], globs := globs, base := 0 }
noncomputable def law26Cut.lp (n : Nat) : LP (Kd.struct law26Cut.con.rs).T := fun lo κ body nm K s =>
  cond (lo && Nat.beq κ 2)
    (match law26Cut.shl2.dec s with
    | some v => law26Cut.l2 n (fun w0 => K .ret (law26Cut.outl2e1.enc (w0, ()))) (fun w0 => K (.exit 0) (law26Cut.outl2e2.enc (w0, ()))) n v.1 v.2.1 v.2.2.1 v.2.2.2.1
    | none => loops n (Kd.struct law26Cut.con.rs).T lo κ body nm K s)
    (loops n (Kd.struct law26Cut.con.rs).T lo κ body nm K s)
theorem law26Cut.atl2 (n : Nat) (s : St) (K : Ex → St → Option (Kd.struct law26Cut.con.rs).T) : (law26Cut.lp n) true 2 (evK law26Cut.env (law26Cut.lp n) n (sub [1, 0, 1, 0, 0] law26Cut.body)) law26Cut.nml2 K s = loops n (Kd.struct law26Cut.con.rs).T true 2 (evK law26Cut.env (law26Cut.lp n) n (sub [1, 0, 1, 0, 0] law26Cut.body)) law26Cut.nml2 K s := by
  show (match law26Cut.shl2.dec s with | some v => law26Cut.l2 n (fun w0 => K .ret (law26Cut.outl2e1.enc (w0, ()))) (fun w0 => K (.exit 0) (law26Cut.outl2e2.enc (w0, ()))) n v.1 v.2.1 v.2.2.1 v.2.2.2.1 | none => loops n (Kd.struct law26Cut.con.rs).T true 2 (evK law26Cut.env (law26Cut.lp n) n (sub [1, 0, 1, 0, 0] law26Cut.body)) law26Cut.nml2 K s) = _
  cases h : law26Cut.shl2.dec s with
  | none => rfl
  | some v =>
    rw [Shp.dec_enc h]
    exact (evLoop_eq (sh := law26Cut.shl2) (body := evK law26Cut.env (law26Cut.lp n) n (sub [1, 0, 1, 0, 0] law26Cut.body)) (nm := law26Cut.nml2) (K := K) (b := fun nx v => law26Cut.b2 n (fun x0 x1 x2 x3 => nx (x0, x1, x2, x3, ())) (fun w0 => K .ret (law26Cut.outl2e1.enc (w0, ()))) (fun w0 => K (.exit 0) (law26Cut.outl2e2.enc (w0, ()))) v.1 v.2.1 v.2.2.1 v.2.2.2.1) (l := fun m v => law26Cut.l2 n (fun w0 => K .ret (law26Cut.outl2e1.enc (w0, ()))) (fun w0 => K (.exit 0) (law26Cut.outl2e2.enc (w0, ()))) m v.1 v.2.1 v.2.2.1 v.2.2.2.1) (fun _ => rfl) (fun _ _ => rfl) (fun m v => by kernel_rfl) n v).symm
theorem law26Cut.eq (n : Nat) (x : (Kd.struct law26Cut.con.ps).T) : evFunc law26Cut.env Try.f27 law26Cut.body law26Cut.con.ps law26Cut.con.rs (law26Cut.lp n) n x = law26Cut.con.f n x := by kernel_rfl
theorem law26Cut.sound : Sound Try.prog globs 27 law26Cut.con :=
  sound_by (E := law26Cut.env) (c := law26Cut.body) (envOk (G := globs) (lc := [(29, law05RawEvent.con), (49, ref05Great.con)]) (lo := []) (envB_spec (by kernel_rfl)) rfl rfl ⟨.inl ⟨law05RawEvent.sound, by kernel_rfl⟩, ⟨.inl ⟨ref05Great.sound, by kernel_rfl⟩, trivial⟩⟩ rfl trivial (by kernel_rfl) (by kernel_rfl)) Try.func27 (by kernel_rfl) law26Cut.lp (l := [(true, sub [1, 0, 1, 0, 0] law26Cut.body, law26Cut.nml2)]) (by kernel_rfl) (fun n => ⟨law26Cut.atl2 n, trivial⟩) law26Cut.eq
noncomputable def sourceSourceAddNil (fu : Nat) (ev : S4) (now : Int) : Option ((Int × Unit) × (Unit)) :=
  some (((1 : Int), ()), (()))

noncomputable def sourceSourceAddNil.body : Code := Try.f25.body.getD .skip
noncomputable def sourceSourceAddNil.con : OCon := { ps := [.nil, .dat kS4, .dat (.int .u64)], rs := [.dat (.int .i64)], f := fun n x => sourceSourceAddNil n x.2.1 x.2.2.1 }
noncomputable def sourceSourceAddNil.env : Env := { tys := [(63, ⟨kS4, 32⟩), (27, ⟨(.int .i64), 8⟩), (57, ⟨.np, 8⟩), (4, ⟨.bool, 1⟩)], elems := [], ptrs := [(57, 105)], cons := [], objs := [], loops := [], cuts := [], globs := globs, base := 0 }
noncomputable def sourceSourceAddNil.lp (n : Nat) : LP (RT sourceSourceAddNil.con.rs × BT sourceSourceAddNil.con.ps) := fun lo κ body nm K s =>
  loops n (RT sourceSourceAddNil.con.rs × BT sourceSourceAddNil.con.ps) lo κ body nm K s
theorem sourceSourceAddNil.eq (n : Nat) (x : PT sourceSourceAddNil.con.ps) : evFuncO sourceSourceAddNil.env Try.f25 sourceSourceAddNil.body sourceSourceAddNil.con.ps sourceSourceAddNil.con.rs (sourceSourceAddNil.lp n) n x = sourceSourceAddNil.con.f n x := by kernel_rfl
theorem sourceSourceAddNil.sound : SoundO Try.prog globs 25 sourceSourceAddNil.con :=
  sound_byO (E := sourceSourceAddNil.env) (c := sourceSourceAddNil.body) (envOk (G := globs) (lc := []) (lo := []) (envB_spec (by kernel_rfl)) rfl rfl trivial rfl trivial (by kernel_rfl) (by kernel_rfl)) Try.func25 (by kernel_rfl) (by kernel_rfl) (by kernel_rfl) sourceSourceAddNil.lp (l := []) (by kernel_rfl) (fun n => trivial) sourceSourceAddNil.eq
noncomputable def sourceSourceSendNil (fu : Nat) (now : Int) : Option (((List S5) × Unit) × (Unit)) :=
  some (([], ()), (()))

noncomputable def sourceSourceSendNil.body : Code := Try.f30.body.getD .skip
noncomputable def sourceSourceSendNil.con : OCon := { ps := [.nil, .dat (.int .u64)], rs := [.dat (.slice kS5)], f := fun n x => sourceSourceSendNil n x.2.1 }
noncomputable def sourceSourceSendNil.env : Env := { tys := [(41, ⟨(.slice kS5), 24⟩), (57, ⟨.np, 8⟩), (4, ⟨.bool, 1⟩)], elems := [], ptrs := [(57, 105)], cons := [], objs := [], loops := [], cuts := [], globs := globs, base := 0 }
noncomputable def sourceSourceSendNil.lp (n : Nat) : LP (RT sourceSourceSendNil.con.rs × BT sourceSourceSendNil.con.ps) := fun lo κ body nm K s =>
  loops n (RT sourceSourceSendNil.con.rs × BT sourceSourceSendNil.con.ps) lo κ body nm K s
theorem sourceSourceSendNil.eq (n : Nat) (x : PT sourceSourceSendNil.con.ps) : evFuncO sourceSourceSendNil.env Try.f30 sourceSourceSendNil.body sourceSourceSendNil.con.ps sourceSourceSendNil.con.rs (sourceSourceSendNil.lp n) n x = sourceSourceSendNil.con.f n x := by kernel_rfl
theorem sourceSourceSendNil.sound : SoundO Try.prog globs 30 sourceSourceSendNil.con :=
  sound_byO (E := sourceSourceSendNil.env) (c := sourceSourceSendNil.body) (envOk (G := globs) (lc := []) (lo := []) (envB_spec (by kernel_rfl)) rfl rfl trivial rfl trivial (by kernel_rfl) (by kernel_rfl)) Try.func30 (by kernel_rfl) (by kernel_rfl) (by kernel_rfl) sourceSourceSendNil.lp (l := []) (by kernel_rfl) (fun n => trivial) sourceSourceSendNil.eq
noncomputable def sourceSourceHearNil (fu : Nat) (f : S5) (now : Int) : Option ((Bool × Unit) × (Unit)) :=
  some ((false, ()), (()))

noncomputable def sourceSourceHearNil.body : Code := Try.f31.body.getD .skip
noncomputable def sourceSourceHearNil.con : OCon := { ps := [.nil, .dat kS5, .dat (.int .u64)], rs := [.dat .bool], f := fun n x => sourceSourceHearNil n x.2.1 x.2.2.1 }
noncomputable def sourceSourceHearNil.env : Env := { tys := [(37, ⟨kS5, 56⟩), (4, ⟨.bool, 1⟩), (57, ⟨.np, 8⟩)], elems := [], ptrs := [(57, 105)], cons := [], objs := [], loops := [], cuts := [], globs := globs, base := 0, tails := [49] }
noncomputable def sourceSourceHearNil.lp (n : Nat) : LP (RT sourceSourceHearNil.con.rs × BT sourceSourceHearNil.con.ps) := fun lo κ body nm K s =>
  loops n (RT sourceSourceHearNil.con.rs × BT sourceSourceHearNil.con.ps) lo κ body nm K s
theorem sourceSourceHearNil.eq (n : Nat) (x : PT sourceSourceHearNil.con.ps) : evFuncO sourceSourceHearNil.env Try.f31 sourceSourceHearNil.body sourceSourceHearNil.con.ps sourceSourceHearNil.con.rs (sourceSourceHearNil.lp n) n x = sourceSourceHearNil.con.f n x := by kernel_rfl
theorem sourceSourceHearNil.sound : SoundO Try.prog globs 31 sourceSourceHearNil.con :=
  sound_byO (E := sourceSourceHearNil.env) (c := sourceSourceHearNil.body) (envOk (G := globs) (lc := []) (lo := []) (envB_spec (by kernel_rfl)) rfl rfl trivial rfl trivial (by kernel_rfl) (by kernel_rfl)) Try.func31 (by kernel_rfl) (by kernel_rfl) (by kernel_rfl) sourceSourceHearNil.lp (l := []) (by kernel_rfl) (fun n => trivial) sourceSourceHearNil.eq
noncomputable def sourceSourceWaitsNil (fu : Nat) : Option ((Int × Unit) × (Unit)) :=
  some (((0 : Int), ()), (()))

noncomputable def sourceSourceWaitsNil.body : Code := Try.f26.body.getD .skip
noncomputable def sourceSourceWaitsNil.con : OCon := { ps := [.nil], rs := [.dat (.int .i64)], f := fun n x => sourceSourceWaitsNil n }
noncomputable def sourceSourceWaitsNil.env : Env := { tys := [(3, ⟨(.int .i64), 8⟩), (57, ⟨.np, 8⟩)], elems := [], ptrs := [(57, 105)], cons := [], objs := [], loops := [], cuts := [], globs := globs, base := 0 }
noncomputable def sourceSourceWaitsNil.lp (n : Nat) : LP (RT sourceSourceWaitsNil.con.rs × BT sourceSourceWaitsNil.con.ps) := fun lo κ body nm K s =>
  loops n (RT sourceSourceWaitsNil.con.rs × BT sourceSourceWaitsNil.con.ps) lo κ body nm K s
theorem sourceSourceWaitsNil.eq (n : Nat) (x : PT sourceSourceWaitsNil.con.ps) : evFuncO sourceSourceWaitsNil.env Try.f26 sourceSourceWaitsNil.body sourceSourceWaitsNil.con.ps sourceSourceWaitsNil.con.rs (sourceSourceWaitsNil.lp n) n x = sourceSourceWaitsNil.con.f n x := by kernel_rfl
theorem sourceSourceWaitsNil.sound : SoundO Try.prog globs 26 sourceSourceWaitsNil.con :=
  sound_byO (E := sourceSourceWaitsNil.env) (c := sourceSourceWaitsNil.body) (envOk (G := globs) (lc := []) (lo := []) (envB_spec (by kernel_rfl)) rfl rfl trivial rfl trivial (by kernel_rfl) (by kernel_rfl)) Try.func26 (by kernel_rfl) (by kernel_rfl) (by kernel_rfl) sourceSourceWaitsNil.lp (l := []) (by kernel_rfl) (fun n => trivial) sourceSourceWaitsNil.eq
noncomputable def sourceSourceSeqNil (fu : Nat) : Option ((Int × Unit) × (Unit)) :=
  some (((0 : Int), ()), (()))

noncomputable def sourceSourceSeqNil.body : Code := Try.f37.body.getD .skip
noncomputable def sourceSourceSeqNil.con : OCon := { ps := [.nil], rs := [.dat (.int .u64)], f := fun n x => sourceSourceSeqNil n }
noncomputable def sourceSourceSeqNil.env : Env := { tys := [(34, ⟨(.int .u64), 8⟩), (57, ⟨.np, 8⟩)], elems := [], ptrs := [(57, 105)], cons := [], objs := [], loops := [], cuts := [], globs := globs, base := 0 }
noncomputable def sourceSourceSeqNil.lp (n : Nat) : LP (RT sourceSourceSeqNil.con.rs × BT sourceSourceSeqNil.con.ps) := fun lo κ body nm K s =>
  loops n (RT sourceSourceSeqNil.con.rs × BT sourceSourceSeqNil.con.ps) lo κ body nm K s
theorem sourceSourceSeqNil.eq (n : Nat) (x : PT sourceSourceSeqNil.con.ps) : evFuncO sourceSourceSeqNil.env Try.f37 sourceSourceSeqNil.body sourceSourceSeqNil.con.ps sourceSourceSeqNil.con.rs (sourceSourceSeqNil.lp n) n x = sourceSourceSeqNil.con.f n x := by kernel_rfl
theorem sourceSourceSeqNil.sound : SoundO Try.prog globs 37 sourceSourceSeqNil.con :=
  sound_byO (E := sourceSourceSeqNil.env) (c := sourceSourceSeqNil.body) (envOk (G := globs) (lc := []) (lo := []) (envB_spec (by kernel_rfl)) rfl rfl trivial rfl trivial (by kernel_rfl) (by kernel_rfl)) Try.func37 (by kernel_rfl) (by kernel_rfl) (by kernel_rfl) sourceSourceSeqNil.lp (l := []) (by kernel_rfl) (fun n => trivial) sourceSourceSeqNil.eq
noncomputable def law26SourceNil (fu : Nat) (o : S8) : Option (Bool × Unit) :=
  (law26Cut fu ([o])).bind fun r1 =>
  let t2 := (r1.1.length : Int) == (0 : Int)
  cond t2 (
    (law26Fixed fu).bind fun r3 =>
    some (r3.1, ())) (
    (law26Fixed fu).bind fun r4 =>
    cond r4.1 (
      (law05RawEvent fu o.2.2.1).bind fun r5 =>
      (sourceSourceAddNil fu r5.1 o.2.1).bind fun r6 =>
      cond (r6.1.1 == (1 : Int)) (
        (sourceSourceSendNil fu o.2.1).bind fun r7 =>
        let t8 := (r7.1.1.length : Int) == (0 : Int)
        cond t8 (
          (sourceSourceHearNil fu (o.2.2.2.1, o.2.2.2.2.1, (0 : Int), o.2.2.2.2.2.1, (0 : Int), [], ()) o.2.1).bind fun r9 =>
          cond (!r9.1.1) (
            (sourceSourceWaitsNil fu).bind fun r10 =>
            cond (r10.1.1 == (0 : Int)) (
              (sourceSourceSeqNil fu).bind fun r11 =>
              some (r11.1.1 == (0 : Int), ())) (
              some (false, ()))) (
            some (false, ()))) (
          some (false, ()))) (
        some (false, ()))) (
      some (false, ())))

noncomputable def law26SourceNil.body : Code := Try.f8.body.getD .skip
noncomputable def law26SourceNil.con : Con := { ps := [kS8], rs := [.bool], f := fun n x => law26SourceNil n x.1 }
noncomputable def law26SourceNil.env : Env := { tys := [(73, ⟨kS8, 64⟩), (4, ⟨.bool, 1⟩), (57, ⟨.np, 8⟩), (71, ⟨kS7, 32⟩), (34, ⟨(.int .u64), 8⟩), (37, ⟨kS5, 56⟩), (5, ⟨(.int .u8), 1⟩), (22, ⟨(.int .u32), 4⟩)], elems := [(66, 73), (41, 37)], ptrs := [], cons := [(27, law26Cut.con), (24, law26Fixed.con), (29, law05RawEvent.con)], objs := [(25, [sourceSourceAddNil.con]), (26, [sourceSourceWaitsNil.con]), (30, [sourceSourceSendNil.con]), (31, [sourceSourceHearNil.con]), (37, [sourceSourceSeqNil.con])], loops := [], cuts := [], globs := globs, base := 0 }
noncomputable def law26SourceNil.lp (n : Nat) : LP (Kd.struct law26SourceNil.con.rs).T := fun lo κ body nm K s =>
  loops n (Kd.struct law26SourceNil.con.rs).T lo κ body nm K s
theorem law26SourceNil.eq (n : Nat) (x : (Kd.struct law26SourceNil.con.ps).T) : evFunc law26SourceNil.env Try.f8 law26SourceNil.body law26SourceNil.con.ps law26SourceNil.con.rs (law26SourceNil.lp n) n x = law26SourceNil.con.f n x := by kernel_rfl
theorem law26SourceNil.sound : Sound Try.prog globs 8 law26SourceNil.con :=
  sound_by (E := law26SourceNil.env) (c := law26SourceNil.body) (envOk (G := globs) (lc := [(27, law26Cut.con), (24, law26Fixed.con), (29, law05RawEvent.con)]) (lo := [(25, [sourceSourceAddNil.con]), (26, [sourceSourceWaitsNil.con]), (30, [sourceSourceSendNil.con]), (31, [sourceSourceHearNil.con]), (37, [sourceSourceSeqNil.con])]) (envB_spec (by kernel_rfl)) rfl rfl ⟨.inl ⟨law26Cut.sound, by kernel_rfl⟩, ⟨.inl ⟨law26Fixed.sound, by kernel_rfl⟩, ⟨.inl ⟨law05RawEvent.sound, by kernel_rfl⟩, trivial⟩⟩⟩ rfl ⟨⟨⟨sourceSourceAddNil.sound, trivial⟩, by kernel_rfl⟩, ⟨⟨⟨sourceSourceWaitsNil.sound, trivial⟩, by kernel_rfl⟩, ⟨⟨⟨sourceSourceSendNil.sound, trivial⟩, by kernel_rfl⟩, ⟨⟨⟨sourceSourceHearNil.sound, trivial⟩, by kernel_rfl⟩, ⟨⟨⟨sourceSourceSeqNil.sound, trivial⟩, by kernel_rfl⟩, trivial⟩⟩⟩⟩⟩ (by kernel_rfl) (by kernel_rfl)) Try.func8 (by kernel_rfl) law26SourceNil.lp (l := []) (by kernel_rfl) (fun n => trivial) law26SourceNil.eq
noncomputable def ref04May.j4 (fu : Nat) (k1 : Bool → Option (Bool × Unit)) (whole : Bool) (point : Bool) (text : Bool) (b0 : S3) : Option (Bool × Unit) :=
  let t1 := decide (b0.1 < (4 : Int))
  cond t1 (
    cond whole (
      cond point (
        cond text (
          let t2 := (b0.2.2.2.1.length : Int)
          let t3 := decide (t2 ≤ (255 : Int))
          k1 t3) (
          k1 false)) (
        k1 false)) (
      k1 false)) (
    k1 false)
noncomputable def ref04May.j3 (fu : Nat) (k1 : Bool → Option (Bool × Unit)) (whole : Bool) (point : Bool) (b0 : S3) : Option (Bool × Unit) :=
  let t1 := b0.2.2.2.1 == ([] : List Int)
  cond t1 (
    ref04May.j4 fu (fun vq3 => 
        k1 vq3) whole point true b0) (
    ref04May.j4 fu (fun vq4 => 
        k1 vq4) whole point (b0.1 == (3 : Int)) b0)
noncomputable def ref04May.j2 (fu : Nat) (k1 : Bool → Option (Bool × Unit)) (whole : Bool) (b0 : S3) : Option (Bool × Unit) :=
  (extBits.f fu (b0.2.2.1, ())).bind fun r1 =>
  cond (r1.1 == (0 : Int)) (
    ref04May.j3 fu (fun vq5 => 
        k1 vq5) whole true b0) (
    ref04May.j3 fu (fun vq6 => 
        k1 vq6) whole (b0.1 == (2 : Int)) b0)
noncomputable def ref04May (fu : Nat) (v : S3) : Option (Bool × Unit) :=
  cond (v.2.1 == (0 : Int)) (
    ref04May.j2 fu (fun vq1 => 
        some (vq1, ())) true v) (
    ref04May.j2 fu (fun vq2 => 
        some (vq2, ())) (v.1 == (1 : Int)) v)

noncomputable def ref04May.body : Code := Try.f62.body.getD .skip
abbrev ref04May.shj4 : Shp := ⟨[.u, .p 0 0, .u, .d .bool, .d .bool, .d .bool, .u, .u, .u, .u, .u, .u, .u, .u, .u, .u, .u, .u, .u, .u, .u, .u, .u, .u, .u, .u, .u, .u, .u, .u, .u, .u, .u, .u, .u, .u, .u, .u, .u, .u, .u, .u, .u, .u, .u, .u, .u, .u, .u], [.c [.g kS3]]⟩
abbrev ref04May.outj4e1 : Shp := ⟨[.u, .u, .d .bool, .u, .u, .u, .u, .u, .u, .u, .u, .u, .u, .u, .u, .u, .u, .u, .u, .u, .u, .u, .u, .u, .u, .u, .u, .u, .u, .u, .u, .u, .u, .u, .u, .u, .u, .u, .u, .u, .u, .u, .u, .u, .u, .u, .u, .u, .u], []⟩
noncomputable def ref04May.nmj4 : Norm := ⟨{ keep := [1, 3, 4, 5], shut := [(3, .bool), (4, .bool), (5, .bool)], retag := [], heap := 1, dead := [], cshut := [(0, 0, (.int .u8)), (0, 1, (.int .i64)), (0, 2, .flt), (0, 3, .str)], cretag := [] }, [(1, { keep := [2], shut := [(2, .bool)], retag := [], heap := 0, dead := [], cshut := [], cretag := [] })]⟩
abbrev ref04May.shj3 : Shp := ⟨[.u, .p 0 0, .u, .d .bool, .d .bool, .u, .u, .u, .u, .u, .u, .u, .u, .u, .u, .u, .u, .u, .u, .u, .u, .u, .u, .u, .u, .u, .u, .u, .u, .u, .u, .u, .u, .u, .u, .u, .u, .u, .u, .u, .u, .u, .u, .u, .u, .u, .u, .u, .u], [.c [.g kS3]]⟩
abbrev ref04May.outj3e1 : Shp := ⟨[.u, .u, .d .bool, .u, .u, .u, .u, .u, .u, .u, .u, .u, .u, .u, .u, .u, .u, .u, .u, .u, .u, .u, .u, .u, .u, .u, .u, .u, .u, .u, .u, .u, .u, .u, .u, .u, .u, .u, .u, .u, .u, .u, .u, .u, .u, .u, .u, .u, .u], []⟩
noncomputable def ref04May.nmj3 : Norm := ⟨{ keep := [1, 3, 4], shut := [(3, .bool), (4, .bool)], retag := [], heap := 1, dead := [], cshut := [(0, 0, (.int .u8)), (0, 1, (.int .i64)), (0, 2, .flt), (0, 3, .str)], cretag := [] }, [(1, { keep := [2], shut := [(2, .bool)], retag := [], heap := 0, dead := [], cshut := [], cretag := [] })]⟩
abbrev ref04May.shj2 : Shp := ⟨[.u, .p 0 0, .u, .d .bool, .u, .u, .u, .u, .u, .u, .u, .u, .u, .u, .u, .u, .u, .u, .u, .u, .u, .u, .u, .u, .u, .u, .u, .u, .u, .u, .u, .u, .u, .u, .u, .u, .u, .u, .u, .u, .u, .u, .u, .u, .u, .u, .u, .u, .u], [.c [.g kS3]]⟩
abbrev ref04May.outj2e1 : Shp := ⟨[.u, .u, .d .bool, .u, .u, .u, .u, .u, .u, .u, .u, .u, .u, .u, .u, .u, .u, .u, .u, .u, .u, .u, .u, .u, .u, .u, .u, .u, .u, .u, .u, .u, .u, .u, .u, .u, .u, .u, .u, .u, .u, .u, .u, .u, .u, .u, .u, .u, .u], []⟩
noncomputable def ref04May.nmj2 : Norm := ⟨{ keep := [1, 3], shut := [(3, .bool)], retag := [], heap := 1, dead := [], cshut := [(0, 0, (.int .u8)), (0, 1, (.int .i64)), (0, 2, .flt), (0, 3, .str)], cretag := [] }, [(1, { keep := [2], shut := [(2, .bool)], retag := [], heap := 0, dead := [], cshut := [], cretag := [] })]⟩
noncomputable def ref04May.con : Con := { ps := [kS3], rs := [.bool], f := fun n x => ref04May n x.1 }
noncomputable def ref04May.env : Env := { tys := [(112, ⟨kS3, 40⟩), (4, ⟨.bool, 1⟩), (2, ⟨(.int .i64), 8⟩), (5, ⟨(.int .u8), 1⟩), (110, ⟨.flt, 8⟩), (9, ⟨.str, 16⟩)], elems := [], ptrs := [], cons := [(76, extBits)], objs := [], loops := [], cuts := [(4, ref04May.nmj4), (3, ref04May.nmj3), (2, ref04May.nmj2)], globs := globs, base := 0 }
noncomputable def ref04May.lp (n : Nat) : LP (Kd.struct ref04May.con.rs).T := fun lo κ body nm K s =>
  cond (!lo && Nat.beq κ 4)
    (match ref04May.shj4.dec s with
    | some v => ref04May.j4 n (fun w0 => K .ret (ref04May.outj4e1.enc (w0, ()))) v.1 v.2.1 v.2.2.1 v.2.2.2.1
    | none => loops n (Kd.struct ref04May.con.rs).T lo κ body nm K s)
    (cond (!lo && Nat.beq κ 3)
    (match ref04May.shj3.dec s with
    | some v => ref04May.j3 n (fun w0 => K .ret (ref04May.outj3e1.enc (w0, ()))) v.1 v.2.1 v.2.2.1
    | none => loops n (Kd.struct ref04May.con.rs).T lo κ body nm K s)
    (cond (!lo && Nat.beq κ 2)
    (match ref04May.shj2.dec s with
    | some v => ref04May.j2 n (fun w0 => K .ret (ref04May.outj2e1.enc (w0, ()))) v.1 v.2.1
    | none => loops n (Kd.struct ref04May.con.rs).T lo κ body nm K s)
    (loops n (Kd.struct ref04May.con.rs).T lo κ body nm K s)))
theorem ref04May.atj4 (n : Nat) (s : St) (K : Ex → St → Option (Kd.struct ref04May.con.rs).T) : (ref04May.lp n) false 4 (evK ref04May.env (ref04May.lp n) n (sub [1, 1, 1, 1] ref04May.body)) ref04May.nmj4 K s = loops n (Kd.struct ref04May.con.rs).T false 4 (evK ref04May.env (ref04May.lp n) n (sub [1, 1, 1, 1] ref04May.body)) ref04May.nmj4 K s := by
  show (match ref04May.shj4.dec s with | some v => ref04May.j4 n (fun w0 => K .ret (ref04May.outj4e1.enc (w0, ()))) v.1 v.2.1 v.2.2.1 v.2.2.2.1 | none => loops n (Kd.struct ref04May.con.rs).T false 4 (evK ref04May.env (ref04May.lp n) n (sub [1, 1, 1, 1] ref04May.body)) ref04May.nmj4 K s) = _
  cases h : ref04May.shj4.dec s with
  | none => rfl
  | some v =>
    rw [Shp.dec_enc h]
    kernel_rfl
theorem ref04May.atj3 (n : Nat) (s : St) (K : Ex → St → Option (Kd.struct ref04May.con.rs).T) : (ref04May.lp n) false 3 (evK ref04May.env (ref04May.lp n) n (sub [1, 1, 1] ref04May.body)) ref04May.nmj3 K s = loops n (Kd.struct ref04May.con.rs).T false 3 (evK ref04May.env (ref04May.lp n) n (sub [1, 1, 1] ref04May.body)) ref04May.nmj3 K s := by
  show (match ref04May.shj3.dec s with | some v => ref04May.j3 n (fun w0 => K .ret (ref04May.outj3e1.enc (w0, ()))) v.1 v.2.1 v.2.2.1 | none => loops n (Kd.struct ref04May.con.rs).T false 3 (evK ref04May.env (ref04May.lp n) n (sub [1, 1, 1] ref04May.body)) ref04May.nmj3 K s) = _
  cases h : ref04May.shj3.dec s with
  | none => rfl
  | some v =>
    rw [Shp.dec_enc h]
    kernel_rfl
theorem ref04May.atj2 (n : Nat) (s : St) (K : Ex → St → Option (Kd.struct ref04May.con.rs).T) : (ref04May.lp n) false 2 (evK ref04May.env (ref04May.lp n) n (sub [1, 1] ref04May.body)) ref04May.nmj2 K s = loops n (Kd.struct ref04May.con.rs).T false 2 (evK ref04May.env (ref04May.lp n) n (sub [1, 1] ref04May.body)) ref04May.nmj2 K s := by
  show (match ref04May.shj2.dec s with | some v => ref04May.j2 n (fun w0 => K .ret (ref04May.outj2e1.enc (w0, ()))) v.1 v.2.1 | none => loops n (Kd.struct ref04May.con.rs).T false 2 (evK ref04May.env (ref04May.lp n) n (sub [1, 1] ref04May.body)) ref04May.nmj2 K s) = _
  cases h : ref04May.shj2.dec s with
  | none => rfl
  | some v =>
    rw [Shp.dec_enc h]
    kernel_rfl
theorem ref04May.eq (n : Nat) (x : (Kd.struct ref04May.con.ps).T) : evFunc ref04May.env Try.f62 ref04May.body ref04May.con.ps ref04May.con.rs (ref04May.lp n) n x = ref04May.con.f n x := by kernel_rfl
theorem ref04May.sound : Sound Try.prog globs 62 ref04May.con :=
  sound_by (E := ref04May.env) (c := ref04May.body) (envOk (G := globs) (lc := [(76, extBits)]) (lo := []) (envB_spec (by kernel_rfl)) rfl rfl ⟨.inr (extBits_ok Try.func76 (by kernel_rfl) (by kernel_rfl) (by kernel_rfl) (by kernel_rfl)), trivial⟩ rfl trivial (by kernel_rfl) (by kernel_rfl)) Try.func62 (by kernel_rfl) ref04May.lp (l := [(false, sub [1, 1, 1, 1] ref04May.body, ref04May.nmj4), (false, sub [1, 1, 1] ref04May.body, ref04May.nmj3), (false, sub [1, 1] ref04May.body, ref04May.nmj2)]) (by kernel_rfl) (fun n => ⟨ref04May.atj4 n, ⟨ref04May.atj3 n, ⟨ref04May.atj2 n, trivial⟩⟩⟩) ref04May.eq
noncomputable def ref05May.b2 (fu : Nat) (next : Int → Int → S4 → Option (Bool × Unit)) (k1 : Bool → Option (Bool × Unit)) (k2 : S4 → Option (Bool × Unit)) (v : Int) (vx2 : Int) (b0 : S4) : Option (Bool × Unit) :=
  cond (decide (vx2 < v)) (
    chk (ixOk b0.2.1 vx2) <|
    let e1 := ixL ((0 : Int), (0 : Int), (0 : Nat), [], ()) b0.2.1 vx2
    (ref04May fu e1).bind fun r2 =>
    cond (!r2.1) (
      k1 false) (
      let t3 := IntKind.i64.wrap (vx2 + (1 : Int))
      next v t3 b0)) (
    k2 b0)
noncomputable def ref05May.l2 (fu : Nat) (k1 : Bool → Option (Bool × Unit)) (k2 : S4 → Option (Bool × Unit)) : Nat → Int → Int → S4 → Option (Bool × Unit)
  | 0, _, _, _ => none
  | m + 1, v, vx2, b0 => ref05May.b2 fu (ref05May.l2 fu k1 k2 m) k1 k2 v vx2 b0
noncomputable def ref05May (fu : Nat) (ev : S4) : Option (Bool × Unit) :=
  ref05May.l2 fu (fun vq3 => 
      some (vq3, ())) (fun b0q4 => 
      let t1 := decide ((b0q4.2.1.length : Int) ≤ (8 : Int))
      some (t1, ())) fu (ev.2.1.length : Int) (0 : Int) ev

noncomputable def ref05May.body : Code := Try.f50.body.getD .skip
abbrev ref05May.shl2 : Shp := ⟨[.u, .p 0 0, .u, .u, .u, .u, .d (.int .i64), .d (.int .i64), .u, .u, .u, .u, .u, .u, .u, .u, .u, .u, .u, .u, .u, .u], [.c [.g kS4]]⟩
abbrev ref05May.outl2e1 : Shp := ⟨[.u, .u, .d .bool, .u, .u, .u, .u, .u, .u, .u, .u, .u, .u, .u, .u, .u, .u, .u, .u, .u, .u, .u], []⟩
abbrev ref05May.outl2e2 : Shp := ⟨[.u, .p 0 0, .u, .u, .u, .u, .u, .u, .u, .u, .u, .u, .u, .u, .u, .u, .u, .u, .u, .u, .u, .u], [.c [.g kS4]]⟩
noncomputable def ref05May.nml2 : Norm := ⟨{ keep := [1, 6, 7], shut := [(6, (.int .i64)), (7, (.int .i64))], retag := [], heap := 1, dead := [], cshut := [(0, 0, (.int .u8)), (0, 1, (.slice kS3))], cretag := [] }, [(1, { keep := [2], shut := [(2, .bool)], retag := [], heap := 0, dead := [], cshut := [], cretag := [] }), (2, { keep := [1], shut := [], retag := [], heap := 1, dead := [], cshut := [(0, 0, (.int .u8)), (0, 1, (.slice kS3))], cretag := [] })]⟩
noncomputable def ref05May.con : Con := { ps := [kS4], rs := [.bool], f := fun n x => ref05May n x.1 }
noncomputable def ref05May.env : Env := { tys := [(63, ⟨kS4, 32⟩), (4, ⟨.bool, 1⟩), (61, ⟨(.slice kS3), 24⟩), (112, ⟨kS3, 40⟩), (3, ⟨(.int .i64), 8⟩)], elems := [(61, 112)], ptrs := [], cons := [(62, ref04May.con)], objs := [], loops := [(2, ref05May.nml2)], cuts := [], globs := globs, base := 0 }
noncomputable def ref05May.lp (n : Nat) : LP (Kd.struct ref05May.con.rs).T := fun lo κ body nm K s =>
  cond (lo && Nat.beq κ 2)
    (match ref05May.shl2.dec s with
    | some v => ref05May.l2 n (fun w0 => K .ret (ref05May.outl2e1.enc (w0, ()))) (fun w0 => K (.exit 0) (ref05May.outl2e2.enc (w0, ()))) n v.1 v.2.1 v.2.2.1
    | none => loops n (Kd.struct ref05May.con.rs).T lo κ body nm K s)
    (loops n (Kd.struct ref05May.con.rs).T lo κ body nm K s)
theorem ref05May.atl2 (n : Nat) (s : St) (K : Ex → St → Option (Kd.struct ref05May.con.rs).T) : (ref05May.lp n) true 2 (evK ref05May.env (ref05May.lp n) n (sub [1, 0, 1, 0, 0] ref05May.body)) ref05May.nml2 K s = loops n (Kd.struct ref05May.con.rs).T true 2 (evK ref05May.env (ref05May.lp n) n (sub [1, 0, 1, 0, 0] ref05May.body)) ref05May.nml2 K s := by
  show (match ref05May.shl2.dec s with | some v => ref05May.l2 n (fun w0 => K .ret (ref05May.outl2e1.enc (w0, ()))) (fun w0 => K (.exit 0) (ref05May.outl2e2.enc (w0, ()))) n v.1 v.2.1 v.2.2.1 | none => loops n (Kd.struct ref05May.con.rs).T true 2 (evK ref05May.env (ref05May.lp n) n (sub [1, 0, 1, 0, 0] ref05May.body)) ref05May.nml2 K s) = _
  cases h : ref05May.shl2.dec s with
  | none => rfl
  | some v =>
    rw [Shp.dec_enc h]
    exact (evLoop_eq (sh := ref05May.shl2) (body := evK ref05May.env (ref05May.lp n) n (sub [1, 0, 1, 0, 0] ref05May.body)) (nm := ref05May.nml2) (K := K) (b := fun nx v => ref05May.b2 n (fun x0 x1 x2 => nx (x0, x1, x2, ())) (fun w0 => K .ret (ref05May.outl2e1.enc (w0, ()))) (fun w0 => K (.exit 0) (ref05May.outl2e2.enc (w0, ()))) v.1 v.2.1 v.2.2.1) (l := fun m v => ref05May.l2 n (fun w0 => K .ret (ref05May.outl2e1.enc (w0, ()))) (fun w0 => K (.exit 0) (ref05May.outl2e2.enc (w0, ()))) m v.1 v.2.1 v.2.2.1) (fun _ => rfl) (fun _ _ => rfl) (fun m v => by kernel_rfl) n v).symm
theorem ref05May.eq (n : Nat) (x : (Kd.struct ref05May.con.ps).T) : evFunc ref05May.env Try.f50 ref05May.body ref05May.con.ps ref05May.con.rs (ref05May.lp n) n x = ref05May.con.f n x := by kernel_rfl
theorem ref05May.sound : Sound Try.prog globs 50 ref05May.con :=
  sound_by (E := ref05May.env) (c := ref05May.body) (envOk (G := globs) (lc := [(62, ref04May.con)]) (lo := []) (envB_spec (by kernel_rfl)) rfl rfl ⟨.inl ⟨ref04May.sound, by kernel_rfl⟩, trivial⟩ rfl trivial (by kernel_rfl) (by kernel_rfl)) Try.func50 (by kernel_rfl) ref05May.lp (l := [(true, sub [1, 0, 1, 0, 0] ref05May.body, ref05May.nml2)]) (by kernel_rfl) (fun n => ⟨ref05May.atl2 n, trivial⟩) ref05May.eq
noncomputable def ref03PutDat.b3 (fu : Nat) (next : Int → (List Int) → Option ((List Int) × Unit)) (k2 : Int → (List Int) → Option ((List Int) × Unit)) (n : Int) (out : List Int) : Option ((List Int) × Unit) :=
  cond (decide (n ≥ (128 : Int))) (
    let t1 := IntKind.u64.wrap (Int.tmod n (128 : Int) + (128 : Int))
    chk (apOk out ([IntKind.u8.wrap t1]) 1) <|
    let t2 := out ++ ([IntKind.u8.wrap t1])
    let t3 := IntKind.u64.wrap (Int.tdiv n (128 : Int))
    next t3 t2) (
    k2 n out)
noncomputable def ref03PutDat.l3 (fu : Nat) (k2 : Int → (List Int) → Option ((List Int) × Unit)) : Nat → Int → (List Int) → Option ((List Int) × Unit)
  | 0, _, _ => none
  | m + 1, n, out => ref03PutDat.b3 fu (ref03PutDat.l3 fu k2 m) k2 n out
noncomputable def ref03PutDat (fu : Nat) (b : List Int) (n : Int) : Option ((List Int) × Unit) :=
  chk (apOk [] b 1) <|
  ref03PutDat.l3 fu (fun nq2 outq2 => 
      chk (apOk outq2 ([IntKind.u8.wrap nq2]) 1) <|
      let t1 := outq2 ++ ([IntKind.u8.wrap nq2])
      some (t1, ())) fu n ([] ++ b)

noncomputable def ref03PutDat.body : Code := Try.f77.body.getD .skip
abbrev ref03PutDat.shl3 : Shp := ⟨[.u, .d (.int .u64), .u, .u, .u, .o 5 (.int .u8), .u, .u, .u, .u, .u, .u, .u, .u, .u, .u, .u, .u, .u, .u, .u, .u, .u, .u, .u, .u], []⟩
abbrev ref03PutDat.outl3e2 : Shp := ⟨[.u, .d (.int .u64), .u, .u, .u, .o 5 (.int .u8), .u, .u, .u, .u, .u, .u, .u, .u, .u, .u, .u, .u, .u, .u, .u, .u, .u, .u, .u, .u], []⟩
noncomputable def ref03PutDat.nml3 : Norm := ⟨{ keep := [1, 5], shut := [(1, (.int .u64))], retag := [(5, 5, (.int .u8))], heap := 0, dead := [], cshut := [], cretag := [] }, [(2, { keep := [1, 5], shut := [(1, (.int .u64))], retag := [(5, 5, (.int .u8))], heap := 0, dead := [], cshut := [], cretag := [] })]⟩
noncomputable def ref03PutDat.con : Con := { ps := [(.slice (.int .u8)), (.int .u64)], rs := [(.slice (.int .u8))], f := fun n x => ref03PutDat n x.1 x.2.1 }
noncomputable def ref03PutDat.env : Env := { tys := [(35, ⟨(.slice (.int .u8)), 24⟩), (5, ⟨(.int .u8), 1⟩), (34, ⟨(.int .u64), 8⟩)], elems := [(35, 5)], ptrs := [], cons := [], objs := [], loops := [(3, ref03PutDat.nml3)], cuts := [], globs := globs, base := 0 }
noncomputable def ref03PutDat.lp (n : Nat) : LP (Kd.struct ref03PutDat.con.rs).T := fun lo κ body nm K s =>
  cond (lo && Nat.beq κ 3)
    (match ref03PutDat.shl3.dec s with
    | some v => ref03PutDat.l3 n (fun w0 w1 => K (.exit 0) (ref03PutDat.outl3e2.enc (w0, w1, ()))) n v.1 v.2.1
    | none => loops n (Kd.struct ref03PutDat.con.rs).T lo κ body nm K s)
    (loops n (Kd.struct ref03PutDat.con.rs).T lo κ body nm K s)
theorem ref03PutDat.atl3 (n : Nat) (s : St) (K : Ex → St → Option (Kd.struct ref03PutDat.con.rs).T) : (ref03PutDat.lp n) true 3 (evK ref03PutDat.env (ref03PutDat.lp n) n (sub [1, 1, 1, 0, 0, 0] ref03PutDat.body)) ref03PutDat.nml3 K s = loops n (Kd.struct ref03PutDat.con.rs).T true 3 (evK ref03PutDat.env (ref03PutDat.lp n) n (sub [1, 1, 1, 0, 0, 0] ref03PutDat.body)) ref03PutDat.nml3 K s := by
  show (match ref03PutDat.shl3.dec s with | some v => ref03PutDat.l3 n (fun w0 w1 => K (.exit 0) (ref03PutDat.outl3e2.enc (w0, w1, ()))) n v.1 v.2.1 | none => loops n (Kd.struct ref03PutDat.con.rs).T true 3 (evK ref03PutDat.env (ref03PutDat.lp n) n (sub [1, 1, 1, 0, 0, 0] ref03PutDat.body)) ref03PutDat.nml3 K s) = _
  cases h : ref03PutDat.shl3.dec s with
  | none => rfl
  | some v =>
    rw [Shp.dec_enc h]
    exact (evLoop_eq (sh := ref03PutDat.shl3) (body := evK ref03PutDat.env (ref03PutDat.lp n) n (sub [1, 1, 1, 0, 0, 0] ref03PutDat.body)) (nm := ref03PutDat.nml3) (K := K) (b := fun nx v => ref03PutDat.b3 n (fun x0 x1 => nx (x0, x1, ())) (fun w0 w1 => K (.exit 0) (ref03PutDat.outl3e2.enc (w0, w1, ()))) v.1 v.2.1) (l := fun m v => ref03PutDat.l3 n (fun w0 w1 => K (.exit 0) (ref03PutDat.outl3e2.enc (w0, w1, ()))) m v.1 v.2.1) (fun _ => rfl) (fun _ _ => rfl) (fun m v => by kernel_rfl) n v).symm
theorem ref03PutDat.eq (n : Nat) (x : (Kd.struct ref03PutDat.con.ps).T) : evFunc ref03PutDat.env Try.f77 ref03PutDat.body ref03PutDat.con.ps ref03PutDat.con.rs (ref03PutDat.lp n) n x = ref03PutDat.con.f n x := by kernel_rfl
theorem ref03PutDat.sound : Sound Try.prog globs 77 ref03PutDat.con :=
  sound_by (E := ref03PutDat.env) (c := ref03PutDat.body) (envOk (G := globs) (lc := []) (lo := []) (envB_spec (by kernel_rfl)) rfl rfl trivial rfl trivial (by kernel_rfl) (by kernel_rfl)) Try.func77 (by kernel_rfl) ref03PutDat.lp (l := [(true, sub [1, 1, 1, 0, 0, 0] ref03PutDat.body, ref03PutDat.nml3)]) (by kernel_rfl) (fun n => ⟨ref03PutDat.atl3 n, trivial⟩) ref03PutDat.eq
noncomputable def ref03PutInt (fu : Nat) (b : List Int) (n : Int) : Option ((List Int) × Unit) :=
  cond (decide (n ≥ (0 : Int))) (
    let t1 := IntKind.u64.wrap ((2 : Int) * IntKind.u64.wrap n)
    (ref03PutDat fu b t1).bind fun r2 =>
    some (r2.1, ())) (
    let t3 := IntKind.i64.wrap (n + (1 : Int))
    let t4 := IntKind.i64.wrap (0 - t3)
    let t5 := IntKind.u64.wrap ((2 : Int) * IntKind.u64.wrap t4)
    let t6 := IntKind.u64.wrap (t5 + (1 : Int))
    (ref03PutDat fu b t6).bind fun r7 =>
    some (r7.1, ()))

noncomputable def ref03PutInt.body : Code := Try.f63.body.getD .skip
noncomputable def ref03PutInt.con : Con := { ps := [(.slice (.int .u8)), (.int .i64)], rs := [(.slice (.int .u8))], f := fun n x => ref03PutInt n x.1 x.2.1 }
noncomputable def ref03PutInt.env : Env := { tys := [(35, ⟨(.slice (.int .u8)), 24⟩), (34, ⟨(.int .u64), 8⟩), (2, ⟨(.int .i64), 8⟩)], elems := [], ptrs := [], cons := [(77, ref03PutDat.con)], objs := [], loops := [], cuts := [], globs := globs, base := 0 }
noncomputable def ref03PutInt.lp (n : Nat) : LP (Kd.struct ref03PutInt.con.rs).T := fun lo κ body nm K s =>
  loops n (Kd.struct ref03PutInt.con.rs).T lo κ body nm K s
theorem ref03PutInt.eq (n : Nat) (x : (Kd.struct ref03PutInt.con.ps).T) : evFunc ref03PutInt.env Try.f63 ref03PutInt.body ref03PutInt.con.ps ref03PutInt.con.rs (ref03PutInt.lp n) n x = ref03PutInt.con.f n x := by kernel_rfl
theorem ref03PutInt.sound : Sound Try.prog globs 63 ref03PutInt.con :=
  sound_by (E := ref03PutInt.env) (c := ref03PutInt.body) (envOk (G := globs) (lc := [(77, ref03PutDat.con)]) (lo := []) (envB_spec (by kernel_rfl)) rfl rfl ⟨.inl ⟨ref03PutDat.sound, by kernel_rfl⟩, trivial⟩ rfl trivial (by kernel_rfl) (by kernel_rfl)) Try.func63 (by kernel_rfl) ref03PutInt.lp (l := []) (by kernel_rfl) (fun n => trivial) ref03PutInt.eq
noncomputable def ref02OfBits (fu : Nat) (b : Int) : Option (S9 × Unit) :=
  let t1 := decide (b ≥ (9223372036854775808 : Int))
  let t2 := IntKind.u64.wrap (Int.tdiv b (4503599627370496 : Int))
  let t3 := IntKind.i64.wrap (Int.tmod t2 (2048 : Int))
  let t4 := Int.tmod b (4503599627370496 : Int)
  some ((t1, t3, t4, ()), ())

noncomputable def ref02OfBits.body : Code := Try.f85.body.getD .skip
noncomputable def ref02OfBits.con : Con := { ps := [(.int .u64)], rs := [kS9], f := fun n x => ref02OfBits n x.1 }
noncomputable def ref02OfBits.env : Env := { tys := [(137, ⟨kS9, 24⟩), (3, ⟨(.int .i64), 8⟩), (34, ⟨(.int .u64), 8⟩)], elems := [], ptrs := [], cons := [], objs := [], loops := [], cuts := [], globs := globs, base := 0 }
noncomputable def ref02OfBits.lp (n : Nat) : LP (Kd.struct ref02OfBits.con.rs).T := fun lo κ body nm K s =>
  loops n (Kd.struct ref02OfBits.con.rs).T lo κ body nm K s
theorem ref02OfBits.eq (n : Nat) (x : (Kd.struct ref02OfBits.con.ps).T) : evFunc ref02OfBits.env Try.f85 ref02OfBits.body ref02OfBits.con.ps ref02OfBits.con.rs (ref02OfBits.lp n) n x = ref02OfBits.con.f n x := by kernel_rfl
theorem ref02OfBits.sound : Sound Try.prog globs 85 ref02OfBits.con :=
  sound_by (E := ref02OfBits.env) (c := ref02OfBits.body) (envOk (G := globs) (lc := []) (lo := []) (envB_spec (by kernel_rfl)) rfl rfl trivial rfl trivial (by kernel_rfl) (by kernel_rfl)) Try.func85 (by kernel_rfl) ref02OfBits.lp (l := []) (by kernel_rfl) (fun n => trivial) ref02OfBits.eq
noncomputable def ref02Of (fu : Nat) (xv : Nat) : Option (S9 × Unit) :=
  (extBits.f fu (xv, ())).bind fun r1 =>
  (ref02OfBits fu r1.1).bind fun r2 =>
  some (r2.1, ())

noncomputable def ref02Of.body : Code := Try.f78.body.getD .skip
noncomputable def ref02Of.con : Con := { ps := [.flt], rs := [kS9], f := fun n x => ref02Of n x.1 }
noncomputable def ref02Of.env : Env := { tys := [(137, ⟨kS9, 24⟩)], elems := [], ptrs := [], cons := [(76, extBits), (85, ref02OfBits.con)], objs := [], loops := [], cuts := [], globs := globs, base := 0 }
noncomputable def ref02Of.lp (n : Nat) : LP (Kd.struct ref02Of.con.rs).T := fun lo κ body nm K s =>
  loops n (Kd.struct ref02Of.con.rs).T lo κ body nm K s
theorem ref02Of.eq (n : Nat) (x : (Kd.struct ref02Of.con.ps).T) : evFunc ref02Of.env Try.f78 ref02Of.body ref02Of.con.ps ref02Of.con.rs (ref02Of.lp n) n x = ref02Of.con.f n x := by kernel_rfl
theorem ref02Of.sound : Sound Try.prog globs 78 ref02Of.con :=
  sound_by (E := ref02Of.env) (c := ref02Of.body) (envOk (G := globs) (lc := [(76, extBits), (85, ref02OfBits.con)]) (lo := []) (envB_spec (by kernel_rfl)) rfl rfl ⟨.inr (extBits_ok Try.func76 (by kernel_rfl) (by kernel_rfl) (by kernel_rfl) (by kernel_rfl)), ⟨.inl ⟨ref02OfBits.sound, by kernel_rfl⟩, trivial⟩⟩ rfl trivial (by kernel_rfl) (by kernel_rfl)) Try.func78 (by kernel_rfl) ref02Of.lp (l := []) (by kernel_rfl) (fun n => trivial) ref02Of.eq
noncomputable def ref02PartsNaN (fu : Nat) (p : S9) : Option (Bool × Unit) :=
  cond (p.2.1 == (2047 : Int)) (
    some (p.2.2.1 != (0 : Int), ())) (
    some (false, ()))

noncomputable def ref02PartsNaN.body : Code := Try.f86.body.getD .skip
noncomputable def ref02PartsNaN.con : Con := { ps := [kS9], rs := [.bool], f := fun n x => ref02PartsNaN n x.1 }
noncomputable def ref02PartsNaN.env : Env := { tys := [(137, ⟨kS9, 24⟩), (4, ⟨.bool, 1⟩), (3, ⟨(.int .i64), 8⟩), (34, ⟨(.int .u64), 8⟩)], elems := [], ptrs := [], cons := [], objs := [], loops := [], cuts := [], globs := globs, base := 0 }
noncomputable def ref02PartsNaN.lp (n : Nat) : LP (Kd.struct ref02PartsNaN.con.rs).T := fun lo κ body nm K s =>
  loops n (Kd.struct ref02PartsNaN.con.rs).T lo κ body nm K s
theorem ref02PartsNaN.eq (n : Nat) (x : (Kd.struct ref02PartsNaN.con.ps).T) : evFunc ref02PartsNaN.env Try.f86 ref02PartsNaN.body ref02PartsNaN.con.ps ref02PartsNaN.con.rs (ref02PartsNaN.lp n) n x = ref02PartsNaN.con.f n x := by kernel_rfl
theorem ref02PartsNaN.sound : Sound Try.prog globs 86 ref02PartsNaN.con :=
  sound_by (E := ref02PartsNaN.env) (c := ref02PartsNaN.body) (envOk (G := globs) (lc := []) (lo := []) (envB_spec (by kernel_rfl)) rfl rfl trivial rfl trivial (by kernel_rfl) (by kernel_rfl)) Try.func86 (by kernel_rfl) ref02PartsNaN.lp (l := []) (by kernel_rfl) (fun n => trivial) ref02PartsNaN.eq
noncomputable def ref02PartsBits (fu : Nat) (p : S9) : Option (Int × Unit) :=
  (ref02PartsNaN fu p).bind fun r1 =>
  cond r1.1 (
    some ((9221120237041090560 : Int), ())) (
    let t2 := IntKind.u64.wrap (IntKind.u64.wrap p.2.1 * (4503599627370496 : Int))
    let t3 := IntKind.u64.wrap (t2 + p.2.2.1)
    cond p.1 (
      let t4 := IntKind.u64.wrap (t3 + (9223372036854775808 : Int))
      some (t4, ())) (
      some (t3, ())))

noncomputable def ref02PartsBits.body : Code := Try.f79.body.getD .skip
noncomputable def ref02PartsBits.con : Con := { ps := [kS9], rs := [(.int .u64)], f := fun n x => ref02PartsBits n x.1 }
noncomputable def ref02PartsBits.env : Env := { tys := [(137, ⟨kS9, 24⟩), (34, ⟨(.int .u64), 8⟩), (3, ⟨(.int .i64), 8⟩), (4, ⟨.bool, 1⟩)], elems := [], ptrs := [], cons := [(86, ref02PartsNaN.con)], objs := [], loops := [], cuts := [], globs := globs, base := 0 }
noncomputable def ref02PartsBits.lp (n : Nat) : LP (Kd.struct ref02PartsBits.con.rs).T := fun lo κ body nm K s =>
  loops n (Kd.struct ref02PartsBits.con.rs).T lo κ body nm K s
theorem ref02PartsBits.eq (n : Nat) (x : (Kd.struct ref02PartsBits.con.ps).T) : evFunc ref02PartsBits.env Try.f79 ref02PartsBits.body ref02PartsBits.con.ps ref02PartsBits.con.rs (ref02PartsBits.lp n) n x = ref02PartsBits.con.f n x := by kernel_rfl
theorem ref02PartsBits.sound : Sound Try.prog globs 79 ref02PartsBits.con :=
  sound_by (E := ref02PartsBits.env) (c := ref02PartsBits.body) (envOk (G := globs) (lc := [(86, ref02PartsNaN.con)]) (lo := []) (envB_spec (by kernel_rfl)) rfl rfl ⟨.inl ⟨ref02PartsNaN.sound, by kernel_rfl⟩, trivial⟩ rfl trivial (by kernel_rfl) (by kernel_rfl)) Try.func79 (by kernel_rfl) ref02PartsBits.lp (l := []) (by kernel_rfl) (fun n => trivial) ref02PartsBits.eq
noncomputable def ref03PutReal.b6 (fu : Nat) (next : (List Int) → Int → Int → (List Int) → Option ((List Int) × Unit)) (k2 : (List Int) → (List Int) → Option ((List Int) × Unit)) (out : List Int) (n : Int) (i : Int) (c0 : List Int) : Option ((List Int) × Unit) :=
  cond (decide (i ≥ (0 : Int))) (
    let t1 := IntKind.u8.wrap (Int.tmod n (256 : Int))
    chk (ixArr 8 i) <|
    chk (nOk c0 8) <|
    let w2 := stL c0 i t1
    let t3 := IntKind.u64.wrap (Int.tdiv n (256 : Int))
    let t4 := IntKind.i64.wrap (i - (1 : Int))
    next out t3 t4 w2) (
    k2 out c0)
noncomputable def ref03PutReal.l6 (fu : Nat) (k2 : (List Int) → (List Int) → Option ((List Int) × Unit)) : Nat → (List Int) → Int → Int → (List Int) → Option ((List Int) × Unit)
  | 0, _, _, _, _ => none
  | m + 1, out, n, i, c0 => ref03PutReal.b6 fu (ref03PutReal.l6 fu k2 m) k2 out n i c0
noncomputable def ref03PutReal (fu : Nat) (b : List Int) (xv : Nat) : Option ((List Int) × Unit) :=
  chk (apOk [] b 1) <|
  (ref02Of fu xv).bind fun r1 =>
  (ref02PartsBits fu r1.1).bind fun r2 =>
  chk (mkMut (8 : Int) (8 : Int) 1) <|
  ref03PutReal.l6 fu (fun outq2 c0q2 => 
      chk (nOk c0q2 8 && apOk outq2 c0q2 1) <|
      some (outq2 ++ c0q2, ())) fu ([] ++ b) r2.1 (7 : Int) (List.replicate (8 : Int).toNat (0 : Int))

noncomputable def ref03PutReal.body : Code := Try.f64.body.getD .skip
abbrev ref03PutReal.shl6 : Shp := ⟨[.u, .u, .u, .u, .u, .o 5 (.int .u8), .d (.int .u64), .s 0 (.int .u8) 8, .d (.int .i64), .u, .u, .u, .u, .u, .u, .u, .u, .u, .u, .u, .u, .u, .u, .u, .u, .u, .u, .u, .u, .u, .u, .u], [.a (.int .u8)]⟩
abbrev ref03PutReal.outl6e2 : Shp := ⟨[.u, .u, .u, .u, .u, .o 5 (.int .u8), .u, .s 0 (.int .u8) 8, .u, .u, .u, .u, .u, .u, .u, .u, .u, .u, .u, .u, .u, .u, .u, .u, .u, .u, .u, .u, .u, .u, .u, .u], [.a (.int .u8)]⟩
noncomputable def ref03PutReal.nml6 : Norm := ⟨{ keep := [5, 6, 7, 8], shut := [(6, (.int .u64)), (8, (.int .i64))], retag := [(5, 5, (.int .u8))], heap := 1, dead := [], cshut := [], cretag := [] }, [(2, { keep := [5, 7], shut := [], retag := [(5, 5, (.int .u8))], heap := 1, dead := [], cshut := [], cretag := [] })]⟩
noncomputable def ref03PutReal.con : Con := { ps := [(.slice (.int .u8)), .flt], rs := [(.slice (.int .u8))], f := fun n x => ref03PutReal n x.1 x.2.1 }
noncomputable def ref03PutReal.env : Env := { tys := [(35, ⟨(.slice (.int .u8)), 24⟩), (5, ⟨(.int .u8), 1⟩), (3, ⟨(.int .i64), 8⟩), (34, ⟨(.int .u64), 8⟩)], elems := [(35, 5)], ptrs := [], cons := [(78, ref02Of.con), (79, ref02PartsBits.con)], objs := [], loops := [(6, ref03PutReal.nml6)], cuts := [], globs := globs, base := 0, muts := [16] }
noncomputable def ref03PutReal.lp (n : Nat) : LP (Kd.struct ref03PutReal.con.rs).T := fun lo κ body nm K s =>
  cond (lo && Nat.beq κ 6)
    (match ref03PutReal.shl6.dec s with
    | some v => ref03PutReal.l6 n (fun w0 w1 => K (.exit 0) (ref03PutReal.outl6e2.enc (w0, w1, ()))) n v.1 v.2.1 v.2.2.1 v.2.2.2.1
    | none => loops n (Kd.struct ref03PutReal.con.rs).T lo κ body nm K s)
    (loops n (Kd.struct ref03PutReal.con.rs).T lo κ body nm K s)
theorem ref03PutReal.atl6 (n : Nat) (s : St) (K : Ex → St → Option (Kd.struct ref03PutReal.con.rs).T) : (ref03PutReal.lp n) true 6 (evK ref03PutReal.env (ref03PutReal.lp n) n (sub [1, 1, 1, 1, 1, 0, 1, 0, 0] ref03PutReal.body)) ref03PutReal.nml6 K s = loops n (Kd.struct ref03PutReal.con.rs).T true 6 (evK ref03PutReal.env (ref03PutReal.lp n) n (sub [1, 1, 1, 1, 1, 0, 1, 0, 0] ref03PutReal.body)) ref03PutReal.nml6 K s := by
  show (match ref03PutReal.shl6.dec s with | some v => ref03PutReal.l6 n (fun w0 w1 => K (.exit 0) (ref03PutReal.outl6e2.enc (w0, w1, ()))) n v.1 v.2.1 v.2.2.1 v.2.2.2.1 | none => loops n (Kd.struct ref03PutReal.con.rs).T true 6 (evK ref03PutReal.env (ref03PutReal.lp n) n (sub [1, 1, 1, 1, 1, 0, 1, 0, 0] ref03PutReal.body)) ref03PutReal.nml6 K s) = _
  cases h : ref03PutReal.shl6.dec s with
  | none => rfl
  | some v =>
    rw [Shp.dec_enc h]
    exact (evLoop_eq (sh := ref03PutReal.shl6) (body := evK ref03PutReal.env (ref03PutReal.lp n) n (sub [1, 1, 1, 1, 1, 0, 1, 0, 0] ref03PutReal.body)) (nm := ref03PutReal.nml6) (K := K) (b := fun nx v => ref03PutReal.b6 n (fun x0 x1 x2 x3 => nx (x0, x1, x2, x3, ())) (fun w0 w1 => K (.exit 0) (ref03PutReal.outl6e2.enc (w0, w1, ()))) v.1 v.2.1 v.2.2.1 v.2.2.2.1) (l := fun m v => ref03PutReal.l6 n (fun w0 w1 => K (.exit 0) (ref03PutReal.outl6e2.enc (w0, w1, ()))) m v.1 v.2.1 v.2.2.1 v.2.2.2.1) (fun _ => rfl) (fun _ _ => rfl) (fun m v => by kernel_rfl) n v).symm
theorem ref03PutReal.eq (n : Nat) (x : (Kd.struct ref03PutReal.con.ps).T) : evFunc ref03PutReal.env Try.f64 ref03PutReal.body ref03PutReal.con.ps ref03PutReal.con.rs (ref03PutReal.lp n) n x = ref03PutReal.con.f n x := by kernel_rfl
theorem ref03PutReal.sound : Sound Try.prog globs 64 ref03PutReal.con :=
  sound_by (E := ref03PutReal.env) (c := ref03PutReal.body) (envOk (G := globs) (lc := [(78, ref02Of.con), (79, ref02PartsBits.con)]) (lo := []) (envB_spec (by kernel_rfl)) rfl rfl ⟨.inl ⟨ref02Of.sound, by kernel_rfl⟩, ⟨.inl ⟨ref02PartsBits.sound, by kernel_rfl⟩, trivial⟩⟩ rfl trivial (by kernel_rfl) (by kernel_rfl)) Try.func64 (by kernel_rfl) ref03PutReal.lp (l := [(true, sub [1, 1, 1, 1, 1, 0, 1, 0, 0] ref03PutReal.body, ref03PutReal.nml6)]) (by kernel_rfl) (fun n => ⟨ref03PutReal.atl6 n, trivial⟩) ref03PutReal.eq
noncomputable def ref03Put.b3 (fu : Nat) (next : Int → (List Int) → Option (((List Int) × Unit) × (Unit))) (k2 : Int → (List Int) → Option (((List Int) × Unit) × (Unit))) (n : Int) (out : List Int) : Option (((List Int) × Unit) × (Unit)) :=
  cond (decide (n ≥ (128 : Int))) (
    let t1 := IntKind.u64.wrap (Int.tmod n (128 : Int) + (128 : Int))
    chk (apOk out ([IntKind.u8.wrap t1]) 1) <|
    let t2 := out ++ ([IntKind.u8.wrap t1])
    let t3 := IntKind.u64.wrap (Int.tdiv n (128 : Int))
    next t3 t2) (
    k2 n out)
noncomputable def ref03Put.l3 (fu : Nat) (k2 : Int → (List Int) → Option (((List Int) × Unit) × (Unit))) : Nat → Int → (List Int) → Option (((List Int) × Unit) × (Unit))
  | 0, _, _ => none
  | m + 1, n, out => ref03Put.b3 fu (ref03Put.l3 fu k2 m) k2 n out
noncomputable def ref03Put (fu : Nat) (b : List Int) (n : Int) : Option (((List Int) × Unit) × (Unit)) :=
  chk (apOk [] b 1) <|
  ref03Put.l3 fu (fun nq2 outq2 => 
      chk (apOk outq2 ([IntKind.u8.wrap nq2]) 1) <|
      let t1 := outq2 ++ ([IntKind.u8.wrap nq2])
      some ((t1, ()), (()))) fu n ([] ++ b)

noncomputable def ref03Put.body : Code := Try.f77.body.getD .skip
abbrev ref03Put.shl3 : Shp := ⟨[.u, .d (.int .u64), .u, .u, .u, .o 5 (.int .u8), .u, .u, .u, .u, .u, .u, .u, .u, .u, .u, .u, .u, .u, .u, .u, .u, .u, .u, .u, .u], []⟩
abbrev ref03Put.outl3e2 : Shp := ⟨[.u, .d (.int .u64), .u, .u, .u, .o 5 (.int .u8), .u, .u, .u, .u, .u, .u, .u, .u, .u, .u, .u, .u, .u, .u, .u, .u, .u, .u, .u, .u], []⟩
noncomputable def ref03Put.nml3 : Norm := ⟨{ keep := [1, 5], shut := [(1, (.int .u64))], retag := [(5, 5, (.int .u8))], heap := 0, dead := [], cshut := [], cretag := [] }, [(2, { keep := [1, 5], shut := [(1, (.int .u64))], retag := [(5, 5, (.int .u8))], heap := 0, dead := [], cshut := [], cretag := [] })]⟩
noncomputable def ref03Put.con : OCon := { ps := [.dat (.slice (.int .u8)), .dat (.int .u64)], rs := [.own (.int .u8)], f := fun n x => ref03Put n x.1 x.2.1 }
noncomputable def ref03Put.env : Env := { tys := [(35, ⟨(.slice (.int .u8)), 24⟩), (5, ⟨(.int .u8), 1⟩), (34, ⟨(.int .u64), 8⟩)], elems := [(35, 5)], ptrs := [], cons := [], objs := [], loops := [(3, ref03Put.nml3)], cuts := [], globs := globs, base := 0 }
noncomputable def ref03Put.lp (n : Nat) : LP (RT ref03Put.con.rs × BT ref03Put.con.ps) := fun lo κ body nm K s =>
  cond (lo && Nat.beq κ 3)
    (match ref03Put.shl3.dec s with
    | some v => ref03Put.l3 n (fun w0 w1 => K (.exit 0) (ref03Put.outl3e2.enc (w0, w1, ()))) n v.1 v.2.1
    | none => loops n (RT ref03Put.con.rs × BT ref03Put.con.ps) lo κ body nm K s)
    (loops n (RT ref03Put.con.rs × BT ref03Put.con.ps) lo κ body nm K s)
theorem ref03Put.atl3 (n : Nat) (s : St) (K : Ex → St → Option (RT ref03Put.con.rs × BT ref03Put.con.ps)) : (ref03Put.lp n) true 3 (evK ref03Put.env (ref03Put.lp n) n (sub [1, 1, 1, 0, 0, 0] ref03Put.body)) ref03Put.nml3 K s = loops n (RT ref03Put.con.rs × BT ref03Put.con.ps) true 3 (evK ref03Put.env (ref03Put.lp n) n (sub [1, 1, 1, 0, 0, 0] ref03Put.body)) ref03Put.nml3 K s := by
  show (match ref03Put.shl3.dec s with | some v => ref03Put.l3 n (fun w0 w1 => K (.exit 0) (ref03Put.outl3e2.enc (w0, w1, ()))) n v.1 v.2.1 | none => loops n (RT ref03Put.con.rs × BT ref03Put.con.ps) true 3 (evK ref03Put.env (ref03Put.lp n) n (sub [1, 1, 1, 0, 0, 0] ref03Put.body)) ref03Put.nml3 K s) = _
  cases h : ref03Put.shl3.dec s with
  | none => rfl
  | some v =>
    rw [Shp.dec_enc h]
    exact (evLoop_eq (sh := ref03Put.shl3) (body := evK ref03Put.env (ref03Put.lp n) n (sub [1, 1, 1, 0, 0, 0] ref03Put.body)) (nm := ref03Put.nml3) (K := K) (b := fun nx v => ref03Put.b3 n (fun x0 x1 => nx (x0, x1, ())) (fun w0 w1 => K (.exit 0) (ref03Put.outl3e2.enc (w0, w1, ()))) v.1 v.2.1) (l := fun m v => ref03Put.l3 n (fun w0 w1 => K (.exit 0) (ref03Put.outl3e2.enc (w0, w1, ()))) m v.1 v.2.1) (fun _ => rfl) (fun _ _ => rfl) (fun m v => by kernel_rfl) n v).symm
theorem ref03Put.eq (n : Nat) (x : PT ref03Put.con.ps) : evFuncO ref03Put.env Try.f77 ref03Put.body ref03Put.con.ps ref03Put.con.rs (ref03Put.lp n) n x = ref03Put.con.f n x := by kernel_rfl
theorem ref03Put.sound : SoundO Try.prog globs 77 ref03Put.con :=
  sound_byO (E := ref03Put.env) (c := ref03Put.body) (envOk (G := globs) (lc := []) (lo := []) (envB_spec (by kernel_rfl)) rfl rfl trivial rfl trivial (by kernel_rfl) (by kernel_rfl)) Try.func77 (by kernel_rfl) (by kernel_rfl) (by kernel_rfl) ref03Put.lp (l := [(true, sub [1, 1, 1, 0, 0, 0] ref03Put.body, ref03Put.nml3)]) (by kernel_rfl) (fun n => ⟨ref03Put.atl3 n, trivial⟩) ref03Put.eq
noncomputable def ref03PutText (fu : Nat) (b : List Int) (sv : List Int) : Option ((List Int) × Unit) :=
  let t1 := IntKind.u64.wrap (sv.length : Int)
  (ref03Put fu b t1).bind fun r2 =>
  chk (apOk r2.1.1 sv 1) <|
  some (r2.1.1 ++ sv, ())

noncomputable def ref03PutText.body : Code := Try.f65.body.getD .skip
noncomputable def ref03PutText.con : Con := { ps := [(.slice (.int .u8)), .str], rs := [(.slice (.int .u8))], f := fun n x => ref03PutText n x.1 x.2.1 }
noncomputable def ref03PutText.env : Env := { tys := [(35, ⟨(.slice (.int .u8)), 24⟩), (9, ⟨.str, 16⟩), (34, ⟨(.int .u64), 8⟩), (3, ⟨(.int .i64), 8⟩), (5, ⟨(.int .u8), 1⟩)], elems := [(35, 5)], ptrs := [], cons := [], objs := [(77, [ref03Put.con])], loops := [], cuts := [], globs := globs, base := 0 }
noncomputable def ref03PutText.lp (n : Nat) : LP (Kd.struct ref03PutText.con.rs).T := fun lo κ body nm K s =>
  loops n (Kd.struct ref03PutText.con.rs).T lo κ body nm K s
theorem ref03PutText.eq (n : Nat) (x : (Kd.struct ref03PutText.con.ps).T) : evFunc ref03PutText.env Try.f65 ref03PutText.body ref03PutText.con.ps ref03PutText.con.rs (ref03PutText.lp n) n x = ref03PutText.con.f n x := by kernel_rfl
theorem ref03PutText.sound : Sound Try.prog globs 65 ref03PutText.con :=
  sound_by (E := ref03PutText.env) (c := ref03PutText.body) (envOk (G := globs) (lc := []) (lo := [(77, [ref03Put.con])]) (envB_spec (by kernel_rfl)) rfl rfl trivial rfl ⟨⟨⟨ref03Put.sound, trivial⟩, by kernel_rfl⟩, trivial⟩ (by kernel_rfl) (by kernel_rfl)) Try.func65 (by kernel_rfl) ref03PutText.lp (l := []) (by kernel_rfl) (fun n => trivial) ref03PutText.eq
noncomputable def ref04Put (fu : Nat) (b : List Int) (v : S3) : Option ((List Int) × Int × Unit) :=
  (ref04May fu v).bind fun r1 =>
  cond (!r1.1) (
    some ([], (1 : Int), ())) (
    chk (apOk [] b 1) <|
    chk (apOk ([] ++ b) ([v.1]) 1) <|
    cond (v.1 == (1 : Int)) (
      (ref03PutInt fu (([] ++ b) ++ ([v.1])) v.2.1).bind fun r2 =>
      some (r2.1, (0 : Int), ())) (
      cond (v.1 == (2 : Int)) (
        (ref03PutReal fu (([] ++ b) ++ ([v.1])) v.2.2.1).bind fun r3 =>
        some (r3.1, (0 : Int), ())) (
        cond (v.1 == (3 : Int)) (
          (ref03PutText fu (([] ++ b) ++ ([v.1])) v.2.2.2.1).bind fun r4 =>
          some (r4.1, (0 : Int), ())) (
          some (([] ++ b) ++ ([v.1]), (0 : Int), ())))))

noncomputable def ref04Put.body : Code := Try.f51.body.getD .skip
noncomputable def ref04Put.con : Con := { ps := [(.slice (.int .u8)), kS3], rs := [(.slice (.int .u8)), (.int .i64)], f := fun n x => ref04Put n x.1 x.2.1 }
noncomputable def ref04Put.env : Env := { tys := [(112, ⟨kS3, 40⟩), (35, ⟨(.slice (.int .u8)), 24⟩), (3, ⟨(.int .i64), 8⟩), (5, ⟨(.int .u8), 1⟩), (2, ⟨(.int .i64), 8⟩), (110, ⟨.flt, 8⟩), (9, ⟨.str, 16⟩)], elems := [(35, 5)], ptrs := [], cons := [(62, ref04May.con), (63, ref03PutInt.con), (64, ref03PutReal.con), (65, ref03PutText.con)], objs := [], loops := [], cuts := [], globs := globs, base := 0 }
noncomputable def ref04Put.lp (n : Nat) : LP (Kd.struct ref04Put.con.rs).T := fun lo κ body nm K s =>
  loops n (Kd.struct ref04Put.con.rs).T lo κ body nm K s
theorem ref04Put.eq (n : Nat) (x : (Kd.struct ref04Put.con.ps).T) : evFunc ref04Put.env Try.f51 ref04Put.body ref04Put.con.ps ref04Put.con.rs (ref04Put.lp n) n x = ref04Put.con.f n x := by kernel_rfl
theorem ref04Put.sound : Sound Try.prog globs 51 ref04Put.con :=
  sound_by (E := ref04Put.env) (c := ref04Put.body) (envOk (G := globs) (lc := [(62, ref04May.con), (63, ref03PutInt.con), (64, ref03PutReal.con), (65, ref03PutText.con)]) (lo := []) (envB_spec (by kernel_rfl)) rfl rfl ⟨.inl ⟨ref04May.sound, by kernel_rfl⟩, ⟨.inl ⟨ref03PutInt.sound, by kernel_rfl⟩, ⟨.inl ⟨ref03PutReal.sound, by kernel_rfl⟩, ⟨.inl ⟨ref03PutText.sound, by kernel_rfl⟩, trivial⟩⟩⟩⟩ rfl trivial (by kernel_rfl) (by kernel_rfl)) Try.func51 (by kernel_rfl) ref04Put.lp (l := []) (by kernel_rfl) (fun n => trivial) ref04Put.eq
noncomputable def ref05Put.b7 (fu : Nat) (next : (List Int) → Int → Int → S4 → Option ((List Int) × Int × Unit)) (k2 : (List Int) → Option ((List Int) × Int × Unit)) (out : List Int) (v : Int) (vx2 : Int) (b0 : S4) : Option ((List Int) × Int × Unit) :=
  cond (decide (vx2 < v)) (
    chk (ixOk b0.2.1 vx2) <|
    let e1 := ixL ((0 : Int), (0 : Int), (0 : Nat), [], ()) b0.2.1 vx2
    (ref04Put fu out e1).bind fun r2 =>
    let t3 := IntKind.i64.wrap (vx2 + (1 : Int))
    next r2.1 v t3 b0) (
    k2 out)
noncomputable def ref05Put.l7 (fu : Nat) (k2 : (List Int) → Option ((List Int) × Int × Unit)) : Nat → (List Int) → Int → Int → S4 → Option ((List Int) × Int × Unit)
  | 0, _, _, _, _ => none
  | m + 1, out, v, vx2, b0 => ref05Put.b7 fu (ref05Put.l7 fu k2 m) k2 out v vx2 b0
noncomputable def ref05Put (fu : Nat) (b : List Int) (ev : S4) : Option ((List Int) × Int × Unit) :=
  (ref05May fu ev).bind fun r1 =>
  cond (!r1.1) (
    some ([], (1 : Int), ())) (
    chk (apOk [] b 1) <|
    let t2 := IntKind.u8.wrap (ev.2.1.length : Int)
    chk (apOk ([] ++ b) ([ev.1, t2]) 1) <|
    let t3 := ([] ++ b) ++ ([ev.1, t2])
    ref05Put.l7 fu (fun outq2 => 
        some (outq2, (0 : Int), ())) fu t3 (ev.2.1.length : Int) (0 : Int) ev)

noncomputable def ref05Put.body : Code := Try.f28.body.getD .skip
abbrev ref05Put.shl7 : Shp := ⟨[.u, .u, .u, .p 0 0, .u, .u, .d (.slice (.int .u8)), .u, .u, .u, .u, .u, .u, .u, .u, .u, .u, .u, .u, .u, .u, .u, .u, .u, .u, .u, .u, .u, .u, .d (.int .i64), .d (.int .i64), .u, .u, .u, .u, .u, .u, .u, .u, .u, .u, .u, .u, .u, .u, .u], [.c [.g kS4]]⟩
abbrev ref05Put.outl7e2 : Shp := ⟨[.u, .u, .u, .u, .u, .u, .d (.slice (.int .u8)), .u, .u, .u, .u, .u, .u, .u, .u, .u, .u, .u, .u, .u, .u, .u, .u, .u, .u, .u, .u, .u, .u, .u, .u, .u, .u, .u, .u, .u, .u, .u, .u, .u, .u, .u, .u, .u, .u, .u], []⟩
noncomputable def ref05Put.nml7 : Norm := ⟨{ keep := [3, 6, 29, 30], shut := [(6, (.slice (.int .u8))), (29, (.int .i64)), (30, (.int .i64))], retag := [], heap := 1, dead := [], cshut := [(0, 0, (.int .u8)), (0, 1, (.slice kS3))], cretag := [] }, [(2, { keep := [6], shut := [(6, (.slice (.int .u8)))], retag := [], heap := 0, dead := [], cshut := [], cretag := [] })]⟩
noncomputable def ref05Put.con : Con := { ps := [(.slice (.int .u8)), kS4], rs := [(.slice (.int .u8)), (.int .i64)], f := fun n x => ref05Put n x.1 x.2.1 }
noncomputable def ref05Put.env : Env := { tys := [(63, ⟨kS4, 32⟩), (35, ⟨(.slice (.int .u8)), 24⟩), (3, ⟨(.int .i64), 8⟩), (5, ⟨(.int .u8), 1⟩), (61, ⟨(.slice kS3), 24⟩), (112, ⟨kS3, 40⟩)], elems := [(35, 5), (61, 112)], ptrs := [], cons := [(50, ref05May.con), (51, ref04Put.con)], objs := [], loops := [(7, ref05Put.nml7)], cuts := [], globs := globs, base := 0 }
noncomputable def ref05Put.lp (n : Nat) : LP (Kd.struct ref05Put.con.rs).T := fun lo κ body nm K s =>
  cond (lo && Nat.beq κ 7)
    (match ref05Put.shl7.dec s with
    | some v => ref05Put.l7 n (fun w0 => K (.exit 0) (ref05Put.outl7e2.enc (w0, ()))) n v.1 v.2.1 v.2.2.1 v.2.2.2.1
    | none => loops n (Kd.struct ref05Put.con.rs).T lo κ body nm K s)
    (loops n (Kd.struct ref05Put.con.rs).T lo κ body nm K s)
theorem ref05Put.atl7 (n : Nat) (s : St) (K : Ex → St → Option (Kd.struct ref05Put.con.rs).T) : (ref05Put.lp n) true 7 (evK ref05Put.env (ref05Put.lp n) n (sub [1, 1, 1, 1, 1, 0, 1, 0, 0] ref05Put.body)) ref05Put.nml7 K s = loops n (Kd.struct ref05Put.con.rs).T true 7 (evK ref05Put.env (ref05Put.lp n) n (sub [1, 1, 1, 1, 1, 0, 1, 0, 0] ref05Put.body)) ref05Put.nml7 K s := by
  show (match ref05Put.shl7.dec s with | some v => ref05Put.l7 n (fun w0 => K (.exit 0) (ref05Put.outl7e2.enc (w0, ()))) n v.1 v.2.1 v.2.2.1 v.2.2.2.1 | none => loops n (Kd.struct ref05Put.con.rs).T true 7 (evK ref05Put.env (ref05Put.lp n) n (sub [1, 1, 1, 1, 1, 0, 1, 0, 0] ref05Put.body)) ref05Put.nml7 K s) = _
  cases h : ref05Put.shl7.dec s with
  | none => rfl
  | some v =>
    rw [Shp.dec_enc h]
    exact (evLoop_eq (sh := ref05Put.shl7) (body := evK ref05Put.env (ref05Put.lp n) n (sub [1, 1, 1, 1, 1, 0, 1, 0, 0] ref05Put.body)) (nm := ref05Put.nml7) (K := K) (b := fun nx v => ref05Put.b7 n (fun x0 x1 x2 x3 => nx (x0, x1, x2, x3, ())) (fun w0 => K (.exit 0) (ref05Put.outl7e2.enc (w0, ()))) v.1 v.2.1 v.2.2.1 v.2.2.2.1) (l := fun m v => ref05Put.l7 n (fun w0 => K (.exit 0) (ref05Put.outl7e2.enc (w0, ()))) m v.1 v.2.1 v.2.2.1 v.2.2.2.1) (fun _ => rfl) (fun _ _ => rfl) (fun m v => by kernel_rfl) n v).symm
theorem ref05Put.eq (n : Nat) (x : (Kd.struct ref05Put.con.ps).T) : evFunc ref05Put.env Try.f28 ref05Put.body ref05Put.con.ps ref05Put.con.rs (ref05Put.lp n) n x = ref05Put.con.f n x := by kernel_rfl
theorem ref05Put.sound : Sound Try.prog globs 28 ref05Put.con :=
  sound_by (E := ref05Put.env) (c := ref05Put.body) (envOk (G := globs) (lc := [(50, ref05May.con), (51, ref04Put.con)]) (lo := []) (envB_spec (by kernel_rfl)) rfl rfl ⟨.inl ⟨ref05May.sound, by kernel_rfl⟩, ⟨.inl ⟨ref04Put.sound, by kernel_rfl⟩, trivial⟩⟩ rfl trivial (by kernel_rfl) (by kernel_rfl)) Try.func28 (by kernel_rfl) ref05Put.lp (l := [(true, sub [1, 1, 1, 1, 1, 0, 1, 0, 0] ref05Put.body, ref05Put.nml7)]) (by kernel_rfl) (fun n => ⟨ref05Put.atl7 n, trivial⟩) ref05Put.eq
noncomputable def law26SourceOrder.b22 (fu : Nat) (next : Int → (List (List Int)) → Int → (List S8) → Int → Int → (List S5) → Int → Int → Int → Int → (List (List Int)) → S0 → Bool → Int → Int → Option (Bool × Unit)) (k1 : Bool → Option (Bool × Unit)) (k5 : Int → (List (List Int)) → Int → (List S8) → Int → Int → Int → Int → (List (List Int)) → S0 → Bool → Int → Int → Option (Bool × Unit)) (pub : Int) (all : List (List Int)) (gone : Int) (v : List S8) (vx2 : Int) (vx3 : Int) (vx4 : List S5) (vx5 : Int) (vx6 : Int) (c1 : Int) (c1x2 : Int) (c1x3 : List (List Int)) (b2 : S0) (c2 : Bool) (c2x2 : Int) (c2x3 : Int) : Option (Bool × Unit) :=
  cond (decide (vx6 < vx5)) (
    chk (ixOk vx4 vx6) <|
    let e1 := ixL ((0 : Int), (0 : Int), (0 : Int), (0 : Int), (0 : Int), [], ()) vx4 vx6
    cond (e1.1 != (3 : Int)) (
      k1 false) (
      cond (e1.2.1 != pub) (
        k1 false) (
        let t2 := IntKind.u64.wrap (gone + (1 : Int))
        cond (e1.2.2.2.1 != t2) (
          k1 false) (
          let t3 := IntKind.u64.wrap (all.length : Int)
          cond (decide (gone ≥ t3)) (
            k1 false) (
            chk (ixOk all gone) <|
            let e4 := ixL [] all gone
            cond (e1.2.2.2.2.2.1 != e4) (
              k1 false) (
              let t5 := IntKind.i64.wrap (vx6 + (1 : Int))
              next pub all gone v vx2 vx3 vx4 vx5 t5 c1 c1x2 c1x3 b2 c2 c2x2 c2x3)))))) (
    k5 pub all gone v vx2 vx3 c1 c1x2 c1x3 b2 c2 c2x2 c2x3)
noncomputable def law26SourceOrder.l22 (fu : Nat) (k1 : Bool → Option (Bool × Unit)) (k5 : Int → (List (List Int)) → Int → (List S8) → Int → Int → Int → Int → (List (List Int)) → S0 → Bool → Int → Int → Option (Bool × Unit)) : Nat → Int → (List (List Int)) → Int → (List S8) → Int → Int → (List S5) → Int → Int → Int → Int → (List (List Int)) → S0 → Bool → Int → Int → Option (Bool × Unit)
  | 0, _, _, _, _, _, _, _, _, _, _, _, _, _, _, _, _ => none
  | m + 1, pub, all, gone, v, vx2, vx3, vx4, vx5, vx6, c1, c1x2, c1x3, b2, c2, c2x2, c2x3 => law26SourceOrder.b22 fu (law26SourceOrder.l22 fu k1 k5 m) k1 k5 pub all gone v vx2 vx3 vx4 vx5 vx6 c1 c1x2 c1x3 b2 c2 c2x2 c2x3
noncomputable def law26SourceOrder.b7 (fu : Nat) (next : Int → (List (List Int)) → Int → (List S8) → Int → Int → Int → Int → (List (List Int)) → S0 → Bool → Int → Int → Option (Bool × Unit)) (k1 : Bool → Option (Bool × Unit)) (k2 : (List (List Int)) → Int → Int → Int → (List (List Int)) → S0 → Bool → Int → Int → Option (Bool × Unit)) (pub : Int) (all : List (List Int)) (gone : Int) (v : List S8) (vx2 : Int) (vx3 : Int) (c1 : Int) (c1x2 : Int) (c1x3 : List (List Int)) (b2 : S0) (c2 : Bool) (c2x2 : Int) (c2x3 : Int) : Option (Bool × Unit) :=
  cond (decide (vx3 < vx2)) (
    chk (ixOk v vx3) <|
    let e1 := ixL ((0 : Int), (0 : Int), ((0 : Int), [], ()), (0 : Int), (0 : Int), (0 : Int), ()) v vx3
    cond (e1.1 == (0 : Int)) (
      (law05RawEvent fu e1.2.2.1).bind fun r2 =>
      (ref05Put fu [] r2.1).bind fun r3 =>
      (law05RawEvent fu e1.2.2.1).bind fun r4 =>
      (sourceSourceAdd fu (c1, (b2, c2, c2x2, c2x3, ()), c1x2, c1x3, ()) r4.1 e1.2.1).bind fun r5 =>
      cond (r5.1.1 == (0 : Int)) (
        cond (r3.2.1 != (0 : Int)) (
          k1 false) (
          chk (apOk all ([r3.1]) 16) <|
          let t6 := IntKind.i64.wrap (vx3 + (1 : Int))
          next pub (all ++ ([r3.1])) gone v vx2 t6 r5.2.1.1 r5.2.1.2.2.1 r5.2.1.2.2.2.1 r5.2.1.2.1.1 r5.2.1.2.1.2.1 r5.2.1.2.1.2.2.1 r5.2.1.2.1.2.2.2.1)) (
        let t7 := IntKind.i64.wrap (vx3 + (1 : Int))
        next pub all gone v vx2 t7 r5.2.1.1 r5.2.1.2.2.1 r5.2.1.2.2.2.1 r5.2.1.2.1.1 r5.2.1.2.1.2.1 r5.2.1.2.1.2.2.1 r5.2.1.2.1.2.2.2.1)) (
      cond (e1.1 == (1 : Int)) (
        (sourceSourceSend fu (c1, (b2, c2, c2x2, c2x3, ()), c1x2, c1x3, ()) e1.2.1).bind fun r8 =>
        law26SourceOrder.l22 fu (fun vq11 => 
            k1 vq11) (fun pubq12 allq12 goneq12 vq12 vq12x2 vq12x3 c1q12 c1q12x2 c1q12x3 b2q12 c2q12 c2q12x2 c2q12x3 => 
            let t9 := IntKind.i64.wrap (vq12x3 + (1 : Int))
            next pubq12 allq12 goneq12 vq12 vq12x2 t9 c1q12 c1q12x2 c1q12x3 b2q12 c2q12 c2q12x2 c2q12x3) fu pub all gone v vx2 vx3 r8.1.1 (r8.1.1.length : Int) (0 : Int) r8.2.1.1 r8.2.1.2.2.1 r8.2.1.2.2.2.1 r8.2.1.2.1.1 r8.2.1.2.1.2.1 r8.2.1.2.1.2.2.1 r8.2.1.2.1.2.2.2.1) (
        (sourceSourceHear fu (c1, (b2, c2, c2x2, c2x3, ()), c1x2, c1x3, ()) (e1.2.2.2.1, e1.2.2.2.2.1, (0 : Int), e1.2.2.2.2.2.1, (0 : Int), [], ()) e1.2.1).bind fun r10 =>
        cond r10.1.1 (
          let t11 := IntKind.u64.wrap (gone + (1 : Int))
          cond (e1.2.2.2.2.2.1 != t11) (
            k1 false) (
            cond (e1.2.2.2.2.1 != pub) (
              k1 false) (
              let t12 := IntKind.u64.wrap (all.length : Int)
              cond (decide (t11 > t12)) (
                k1 false) (
                let t13 := IntKind.i64.wrap (vx3 + (1 : Int))
                next pub all t11 v vx2 t13 r10.2.1.1 r10.2.1.2.2.1 r10.2.1.2.2.2.1 r10.2.1.2.1.1 r10.2.1.2.1.2.1 r10.2.1.2.1.2.2.1 r10.2.1.2.1.2.2.2.1)))) (
          let t14 := IntKind.i64.wrap (vx3 + (1 : Int))
          next pub all gone v vx2 t14 r10.2.1.1 r10.2.1.2.2.1 r10.2.1.2.2.2.1 r10.2.1.2.1.1 r10.2.1.2.1.2.1 r10.2.1.2.1.2.2.1 r10.2.1.2.1.2.2.2.1)))) (
    k2 all gone c1 c1x2 c1x3 b2 c2 c2x2 c2x3)
noncomputable def law26SourceOrder.l7 (fu : Nat) (k1 : Bool → Option (Bool × Unit)) (k2 : (List (List Int)) → Int → Int → Int → (List (List Int)) → S0 → Bool → Int → Int → Option (Bool × Unit)) : Nat → Int → (List (List Int)) → Int → (List S8) → Int → Int → Int → Int → (List (List Int)) → S0 → Bool → Int → Int → Option (Bool × Unit)
  | 0, _, _, _, _, _, _, _, _, _, _, _, _, _ => none
  | m + 1, pub, all, gone, v, vx2, vx3, c1, c1x2, c1x3, b2, c2, c2x2, c2x3 => law26SourceOrder.b7 fu (law26SourceOrder.l7 fu k1 k2 m) k1 k2 pub all gone v vx2 vx3 c1 c1x2 c1x3 b2 c2 c2x2 c2x3
noncomputable def law26SourceOrder (fu : Nat) (pub : Int) (b : S0) (ops : List S8) : Option (Bool × Unit) :=
  (sourceNew fu pub b).bind fun r1 =>
  oc r1.1.1 (
    (law26Fixed fu).bind fun r3 =>
    cond r3.1 (
      (ref23May fu b).bind fun r4 =>
      some (!r4.1, ())) (
      some (false, ()))) fun o2 =>
  cond (r1.1.2.1 != (0 : Int)) (
    (law26Fixed fu).bind fun r5 =>
    cond r5.1 (
      (ref23May fu b).bind fun r6 =>
      some (!r6.1, ())) (
      some (false, ()))) (
    (law26Cut fu ops).bind fun r7 =>
    law26SourceOrder.l7 fu (fun vq7 => 
        some (vq7, ())) (fun allq8 goneq8 c1q8 c1q8x2 c1q8x3 b2q8 c2q8 c2q8x2 c2q8x3 => 
        (law26Fixed fu).bind fun r8 =>
        cond r8.1 (
          (sourceSourceWaits fu (c1q8, (b2q8, c2q8, c2q8x2, c2q8x3, ()), c1q8x2, c1q8x3, ())).bind fun r9 =>
          let t10 := IntKind.i64.wrap ((allq8.length : Int) - IntKind.i64.wrap goneq8)
          some (r9.1.1 == t10, ())) (
          some (false, ()))) fu pub [] (0 : Int) r7.1 (r7.1.length : Int) (0 : Int) o2.1 o2.2.2.1 o2.2.2.2.1 o2.2.1.1 o2.2.1.2.1 o2.2.1.2.2.1 o2.2.1.2.2.2.1)

noncomputable def law26SourceOrder.body : Code := Try.f6.body.getD .skip
abbrev law26SourceOrder.shl22 : Shp := ⟨[.d (.int .u32), .u, .u, .u, .u, .u, .u, .p 1 0, .u, .o 9 .str, .d (.int .u64), .u, .u, .u, .u, .u, .u, .u, .u, .u, .u, .u, .u, .u, .u, .u, .u, .u, .u, .u, .u, .u, .u, .u, .u, .u, .d (.slice kS8), .d (.int .i64), .d (.int .i64), .u, .u, .u, .u, .u, .u, .u, .u, .u, .u, .u, .u, .u, .u, .u, .u, .u, .u, .u, .u, .u, .u, .u, .u, .u, .u, .u, .u, .u, .u, .u, .u, .u, .u, .u, .u, .u, .u, .u, .u, .u, .u, .u, .u, .u, .u, .u, .u, .u, .u, .u, .u, .u, .u, .u, .u, .u, .u, .u, .u, .u, .u, .u, .u, .d (.slice kS5), .d (.int .i64), .d (.int .i64), .u, .u, .u, .u, .u, .u, .u, .u, .u, .u, .u, .u, .u, .u, .u, .u, .u, .u, .u, .u, .u, .u, .u, .u, .u, .u, .u, .u, .u, .u, .u, .u, .u, .u, .u, .u, .u, .u, .u, .u, .u, .u, .u, .u, .u, .u, .u, .u, .u], [.c [.u, .u, .u], .c [.d (.int .u32), .p 2 0, .d (.int .u64), .o 1053 (.slice (.int .u8))], .c [.g kS0, .d .bool, .d (.int .u32), .d (.int .u64)]]⟩
abbrev law26SourceOrder.outl22e1 : Shp := ⟨[.u, .u, .u, .u, .u, .u, .d .bool, .u, .u, .u, .u, .u, .u, .u, .u, .u, .u, .u, .u, .u, .u, .u, .u, .u, .u, .u, .u, .u, .u, .u, .u, .u, .u, .u, .u, .u, .u, .u, .u, .u, .u, .u, .u, .u, .u, .u, .u, .u, .u, .u, .u, .u, .u, .u, .u, .u, .u, .u, .u, .u, .u, .u, .u, .u, .u, .u, .u, .u, .u, .u, .u, .u, .u, .u, .u, .u, .u, .u, .u, .u, .u, .u, .u, .u, .u, .u, .u, .u, .u, .u, .u, .u, .u, .u, .u, .u, .u, .u, .u, .u, .u, .u, .u, .u, .u, .u, .u, .u, .u, .u, .u, .u, .u, .u, .u, .u, .u, .u, .u, .u, .u, .u, .u, .u, .u, .u, .u, .u, .u, .u, .u, .u, .u, .u, .u, .u, .u, .u, .u, .u, .u, .u, .u, .u, .u, .u, .u, .u, .u, .u, .u, .u, .u, .u, .u], []⟩
abbrev law26SourceOrder.outl22e5 : Shp := ⟨[.d (.int .u32), .u, .u, .u, .u, .u, .u, .p 1 0, .u, .o 9 .str, .d (.int .u64), .u, .u, .u, .u, .u, .u, .u, .u, .u, .u, .u, .u, .u, .u, .u, .u, .u, .u, .u, .u, .u, .u, .u, .u, .u, .d (.slice kS8), .d (.int .i64), .d (.int .i64), .u, .u, .u, .u, .u, .u, .u, .u, .u, .u, .u, .u, .u, .u, .u, .u, .u, .u, .u, .u, .u, .u, .u, .u, .u, .u, .u, .u, .u, .u, .u, .u, .u, .u, .u, .u, .u, .u, .u, .u, .u, .u, .u, .u, .u, .u, .u, .u, .u, .u, .u, .u, .u, .u, .u, .u, .u, .u, .u, .u, .u, .u, .u, .u, .u, .u, .u, .u, .u, .u, .u, .u, .u, .u, .u, .u, .u, .u, .u, .u, .u, .u, .u, .u, .u, .u, .u, .u, .u, .u, .u, .u, .u, .u, .u, .u, .u, .u, .u, .u, .u, .u, .u, .u, .u, .u, .u, .u, .u, .u, .u, .u, .u, .u, .u, .u], [.c [.u, .u, .u], .c [.d (.int .u32), .p 2 0, .d (.int .u64), .o 1053 (.slice (.int .u8))], .c [.g kS0, .d .bool, .d (.int .u32), .d (.int .u64)]]⟩
noncomputable def law26SourceOrder.nml22 : Norm := ⟨{ keep := [0, 7, 9, 10, 36, 37, 38, 103, 104, 105], shut := [(0, (.int .u32)), (10, (.int .u64)), (36, (.slice kS8)), (37, (.int .i64)), (38, (.int .i64)), (103, (.slice kS5)), (104, (.int .i64)), (105, (.int .i64))], retag := [(9, 9, .str)], heap := 3, dead := [0], cshut := [(1, 0, (.int .u32)), (1, 2, (.int .u64)), (2, 0, (.int .u32)), (2, 1, (.int .u32)), (2, 2, (.int .u32)), (2, 3, .bool), (2, 4, (.int .u32)), (2, 5, (.int .u64))], cretag := [(1, 3, 1053, (.slice (.int .u8)))] }, [(1, { keep := [6], shut := [(6, .bool)], retag := [], heap := 0, dead := [], cshut := [], cretag := [] }), (5, { keep := [0, 7, 9, 10, 36, 37, 38], shut := [(0, (.int .u32)), (10, (.int .u64)), (36, (.slice kS8)), (37, (.int .i64)), (38, (.int .i64))], retag := [(9, 9, .str)], heap := 3, dead := [0], cshut := [(1, 0, (.int .u32)), (1, 2, (.int .u64)), (2, 0, (.int .u32)), (2, 1, (.int .u32)), (2, 2, (.int .u32)), (2, 3, .bool), (2, 4, (.int .u32)), (2, 5, (.int .u64))], cretag := [(1, 3, 1053, (.slice (.int .u8)))] })]⟩
abbrev law26SourceOrder.shl7 : Shp := ⟨[.d (.int .u32), .u, .u, .u, .u, .u, .u, .p 1 0, .u, .o 9 .str, .d (.int .u64), .u, .u, .u, .u, .u, .u, .u, .u, .u, .u, .u, .u, .u, .u, .u, .u, .u, .u, .u, .u, .u, .u, .u, .u, .u, .d (.slice kS8), .d (.int .i64), .d (.int .i64), .u, .u, .u, .u, .u, .u, .u, .u, .u, .u, .u, .u, .u, .u, .u, .u, .u, .u, .u, .u, .u, .u, .u, .u, .u, .u, .u, .u, .u, .u, .u, .u, .u, .u, .u, .u, .u, .u, .u, .u, .u, .u, .u, .u, .u, .u, .u, .u, .u, .u, .u, .u, .u, .u, .u, .u, .u, .u, .u, .u, .u, .u, .u, .u, .u, .u, .u, .u, .u, .u, .u, .u, .u, .u, .u, .u, .u, .u, .u, .u, .u, .u, .u, .u, .u, .u, .u, .u, .u, .u, .u, .u, .u, .u, .u, .u, .u, .u, .u, .u, .u, .u, .u, .u, .u, .u, .u, .u, .u, .u, .u, .u, .u, .u, .u, .u], [.c [.u, .u, .u], .c [.d (.int .u32), .p 2 0, .d (.int .u64), .o 1053 (.slice (.int .u8))], .c [.g kS0, .d .bool, .d (.int .u32), .d (.int .u64)]]⟩
abbrev law26SourceOrder.outl7e1 : Shp := ⟨[.u, .u, .u, .u, .u, .u, .d .bool, .u, .u, .u, .u, .u, .u, .u, .u, .u, .u, .u, .u, .u, .u, .u, .u, .u, .u, .u, .u, .u, .u, .u, .u, .u, .u, .u, .u, .u, .u, .u, .u, .u, .u, .u, .u, .u, .u, .u, .u, .u, .u, .u, .u, .u, .u, .u, .u, .u, .u, .u, .u, .u, .u, .u, .u, .u, .u, .u, .u, .u, .u, .u, .u, .u, .u, .u, .u, .u, .u, .u, .u, .u, .u, .u, .u, .u, .u, .u, .u, .u, .u, .u, .u, .u, .u, .u, .u, .u, .u, .u, .u, .u, .u, .u, .u, .u, .u, .u, .u, .u, .u, .u, .u, .u, .u, .u, .u, .u, .u, .u, .u, .u, .u, .u, .u, .u, .u, .u, .u, .u, .u, .u, .u, .u, .u, .u, .u, .u, .u, .u, .u, .u, .u, .u, .u, .u, .u, .u, .u, .u, .u, .u, .u, .u, .u, .u, .u], []⟩
abbrev law26SourceOrder.outl7e2 : Shp := ⟨[.u, .u, .u, .u, .u, .u, .u, .p 1 0, .u, .o 9 .str, .d (.int .u64), .u, .u, .u, .u, .u, .u, .u, .u, .u, .u, .u, .u, .u, .u, .u, .u, .u, .u, .u, .u, .u, .u, .u, .u, .u, .u, .u, .u, .u, .u, .u, .u, .u, .u, .u, .u, .u, .u, .u, .u, .u, .u, .u, .u, .u, .u, .u, .u, .u, .u, .u, .u, .u, .u, .u, .u, .u, .u, .u, .u, .u, .u, .u, .u, .u, .u, .u, .u, .u, .u, .u, .u, .u, .u, .u, .u, .u, .u, .u, .u, .u, .u, .u, .u, .u, .u, .u, .u, .u, .u, .u, .u, .u, .u, .u, .u, .u, .u, .u, .u, .u, .u, .u, .u, .u, .u, .u, .u, .u, .u, .u, .u, .u, .u, .u, .u, .u, .u, .u, .u, .u, .u, .u, .u, .u, .u, .u, .u, .u, .u, .u, .u, .u, .u, .u, .u, .u, .u, .u, .u, .u, .u, .u, .u], [.c [.u, .u, .u], .c [.d (.int .u32), .p 2 0, .d (.int .u64), .o 1053 (.slice (.int .u8))], .c [.g kS0, .d .bool, .d (.int .u32), .d (.int .u64)]]⟩
noncomputable def law26SourceOrder.nml7 : Norm := ⟨{ keep := [0, 7, 9, 10, 36, 37, 38], shut := [(0, (.int .u32)), (10, (.int .u64)), (36, (.slice kS8)), (37, (.int .i64)), (38, (.int .i64))], retag := [(9, 9, .str)], heap := 3, dead := [0], cshut := [(1, 0, (.int .u32)), (1, 2, (.int .u64)), (2, 0, (.int .u32)), (2, 1, (.int .u32)), (2, 2, (.int .u32)), (2, 3, .bool), (2, 4, (.int .u32)), (2, 5, (.int .u64))], cretag := [(1, 3, 1053, (.slice (.int .u8)))] }, [(1, { keep := [6], shut := [(6, .bool)], retag := [], heap := 0, dead := [], cshut := [], cretag := [] }), (2, { keep := [7, 9, 10], shut := [(10, (.int .u64))], retag := [(9, 9, .str)], heap := 3, dead := [0], cshut := [(1, 0, (.int .u32)), (1, 2, (.int .u64)), (2, 0, (.int .u32)), (2, 1, (.int .u32)), (2, 2, (.int .u32)), (2, 3, .bool), (2, 4, (.int .u32)), (2, 5, (.int .u64))], cretag := [(1, 3, 1053, (.slice (.int .u8)))] })]⟩
noncomputable def law26SourceOrder.con : Con := { ps := [(.int .u32), kS0, (.slice kS8)], rs := [.bool], f := fun n x => law26SourceOrder n x.1 x.2.1 x.2.2.1 }
noncomputable def law26SourceOrder.env : Env := { tys := [(24, ⟨kS0, 12⟩), (4, ⟨.bool, 1⟩), (57, ⟨.np, 8⟩), (67, ⟨(.slice .str), 24⟩), (34, ⟨(.int .u64), 8⟩), (73, ⟨kS8, 64⟩), (3, ⟨(.int .i64), 8⟩), (71, ⟨kS7, 32⟩), (9, ⟨.str, 16⟩), (35, ⟨(.slice (.int .u8)), 24⟩), (5, ⟨(.int .u8), 1⟩), (37, ⟨kS5, 56⟩), (22, ⟨(.int .u32), 4⟩)], elems := [(66, 73), (35, 5), (67, 9), (41, 37)], ptrs := [(57, 105)], cons := [(24, law26Fixed.con), (11, ref23May.con), (27, law26Cut.con), (29, law05RawEvent.con), (28, ref05Put.con)], objs := [(23, [sourceNew.con]), (25, [sourceSourceAdd.con]), (26, [sourceSourceWaits.con]), (30, [sourceSourceSend.con]), (31, [sourceSourceHear.con])], loops := [(22, law26SourceOrder.nml22), (7, law26SourceOrder.nml7)], cuts := [], globs := globs, base := 0 }
noncomputable def law26SourceOrder.lp (n : Nat) : LP (Kd.struct law26SourceOrder.con.rs).T := fun lo κ body nm K s =>
  cond (lo && Nat.beq κ 22)
    (match law26SourceOrder.shl22.dec s with
    | some v => law26SourceOrder.l22 n (fun w0 => K .ret (law26SourceOrder.outl22e1.enc (w0, ()))) (fun w0 w1 w2 w3 w4 w5 w6 w7 w8 w9 w10 w11 w12 => K (.exit 3) (law26SourceOrder.outl22e5.enc (w0, w1, w2, w3, w4, w5, w6, w7, w8, w9, w10, w11, w12, ()))) n v.1 v.2.1 v.2.2.1 v.2.2.2.1 v.2.2.2.2.1 v.2.2.2.2.2.1 v.2.2.2.2.2.2.1 v.2.2.2.2.2.2.2.1 v.2.2.2.2.2.2.2.2.1 v.2.2.2.2.2.2.2.2.2.1 v.2.2.2.2.2.2.2.2.2.2.1 v.2.2.2.2.2.2.2.2.2.2.2.1 v.2.2.2.2.2.2.2.2.2.2.2.2.1 v.2.2.2.2.2.2.2.2.2.2.2.2.2.1 v.2.2.2.2.2.2.2.2.2.2.2.2.2.2.1 v.2.2.2.2.2.2.2.2.2.2.2.2.2.2.2.1
    | none => loops n (Kd.struct law26SourceOrder.con.rs).T lo κ body nm K s)
    (cond (lo && Nat.beq κ 7)
    (match law26SourceOrder.shl7.dec s with
    | some v => law26SourceOrder.l7 n (fun w0 => K .ret (law26SourceOrder.outl7e1.enc (w0, ()))) (fun w0 w1 w2 w3 w4 w5 w6 w7 w8 => K (.exit 0) (law26SourceOrder.outl7e2.enc (w0, w1, w2, w3, w4, w5, w6, w7, w8, ()))) n v.1 v.2.1 v.2.2.1 v.2.2.2.1 v.2.2.2.2.1 v.2.2.2.2.2.1 v.2.2.2.2.2.2.1 v.2.2.2.2.2.2.2.1 v.2.2.2.2.2.2.2.2.1 v.2.2.2.2.2.2.2.2.2.1 v.2.2.2.2.2.2.2.2.2.2.1 v.2.2.2.2.2.2.2.2.2.2.2.1 v.2.2.2.2.2.2.2.2.2.2.2.2.1
    | none => loops n (Kd.struct law26SourceOrder.con.rs).T lo κ body nm K s)
    (loops n (Kd.struct law26SourceOrder.con.rs).T lo κ body nm K s))
theorem law26SourceOrder.atl22 (n : Nat) (s : St) (K : Ex → St → Option (Kd.struct law26SourceOrder.con.rs).T) : (law26SourceOrder.lp n) true 22 (evK law26SourceOrder.env (law26SourceOrder.lp n) n (sub [1, 1, 1, 1, 1, 0, 1, 0, 0, 1, 1, 0, 0, 1, 1, 0, 1, 1, 1, 0, 1, 0, 0] law26SourceOrder.body)) law26SourceOrder.nml22 K s = loops n (Kd.struct law26SourceOrder.con.rs).T true 22 (evK law26SourceOrder.env (law26SourceOrder.lp n) n (sub [1, 1, 1, 1, 1, 0, 1, 0, 0, 1, 1, 0, 0, 1, 1, 0, 1, 1, 1, 0, 1, 0, 0] law26SourceOrder.body)) law26SourceOrder.nml22 K s := by
  show (match law26SourceOrder.shl22.dec s with | some v => law26SourceOrder.l22 n (fun w0 => K .ret (law26SourceOrder.outl22e1.enc (w0, ()))) (fun w0 w1 w2 w3 w4 w5 w6 w7 w8 w9 w10 w11 w12 => K (.exit 3) (law26SourceOrder.outl22e5.enc (w0, w1, w2, w3, w4, w5, w6, w7, w8, w9, w10, w11, w12, ()))) n v.1 v.2.1 v.2.2.1 v.2.2.2.1 v.2.2.2.2.1 v.2.2.2.2.2.1 v.2.2.2.2.2.2.1 v.2.2.2.2.2.2.2.1 v.2.2.2.2.2.2.2.2.1 v.2.2.2.2.2.2.2.2.2.1 v.2.2.2.2.2.2.2.2.2.2.1 v.2.2.2.2.2.2.2.2.2.2.2.1 v.2.2.2.2.2.2.2.2.2.2.2.2.1 v.2.2.2.2.2.2.2.2.2.2.2.2.2.1 v.2.2.2.2.2.2.2.2.2.2.2.2.2.2.1 v.2.2.2.2.2.2.2.2.2.2.2.2.2.2.2.1 | none => loops n (Kd.struct law26SourceOrder.con.rs).T true 22 (evK law26SourceOrder.env (law26SourceOrder.lp n) n (sub [1, 1, 1, 1, 1, 0, 1, 0, 0, 1, 1, 0, 0, 1, 1, 0, 1, 1, 1, 0, 1, 0, 0] law26SourceOrder.body)) law26SourceOrder.nml22 K s) = _
  cases h : law26SourceOrder.shl22.dec s with
  | none => rfl
  | some v =>
    rw [Shp.dec_enc h]
    exact (evLoop_eq (sh := law26SourceOrder.shl22) (body := evK law26SourceOrder.env (law26SourceOrder.lp n) n (sub [1, 1, 1, 1, 1, 0, 1, 0, 0, 1, 1, 0, 0, 1, 1, 0, 1, 1, 1, 0, 1, 0, 0] law26SourceOrder.body)) (nm := law26SourceOrder.nml22) (K := K) (b := fun nx v => law26SourceOrder.b22 n (fun x0 x1 x2 x3 x4 x5 x6 x7 x8 x9 x10 x11 x12 x13 x14 x15 => nx (x0, x1, x2, x3, x4, x5, x6, x7, x8, x9, x10, x11, x12, x13, x14, x15, ())) (fun w0 => K .ret (law26SourceOrder.outl22e1.enc (w0, ()))) (fun w0 w1 w2 w3 w4 w5 w6 w7 w8 w9 w10 w11 w12 => K (.exit 3) (law26SourceOrder.outl22e5.enc (w0, w1, w2, w3, w4, w5, w6, w7, w8, w9, w10, w11, w12, ()))) v.1 v.2.1 v.2.2.1 v.2.2.2.1 v.2.2.2.2.1 v.2.2.2.2.2.1 v.2.2.2.2.2.2.1 v.2.2.2.2.2.2.2.1 v.2.2.2.2.2.2.2.2.1 v.2.2.2.2.2.2.2.2.2.1 v.2.2.2.2.2.2.2.2.2.2.1 v.2.2.2.2.2.2.2.2.2.2.2.1 v.2.2.2.2.2.2.2.2.2.2.2.2.1 v.2.2.2.2.2.2.2.2.2.2.2.2.2.1 v.2.2.2.2.2.2.2.2.2.2.2.2.2.2.1 v.2.2.2.2.2.2.2.2.2.2.2.2.2.2.2.1) (l := fun m v => law26SourceOrder.l22 n (fun w0 => K .ret (law26SourceOrder.outl22e1.enc (w0, ()))) (fun w0 w1 w2 w3 w4 w5 w6 w7 w8 w9 w10 w11 w12 => K (.exit 3) (law26SourceOrder.outl22e5.enc (w0, w1, w2, w3, w4, w5, w6, w7, w8, w9, w10, w11, w12, ()))) m v.1 v.2.1 v.2.2.1 v.2.2.2.1 v.2.2.2.2.1 v.2.2.2.2.2.1 v.2.2.2.2.2.2.1 v.2.2.2.2.2.2.2.1 v.2.2.2.2.2.2.2.2.1 v.2.2.2.2.2.2.2.2.2.1 v.2.2.2.2.2.2.2.2.2.2.1 v.2.2.2.2.2.2.2.2.2.2.2.1 v.2.2.2.2.2.2.2.2.2.2.2.2.1 v.2.2.2.2.2.2.2.2.2.2.2.2.2.1 v.2.2.2.2.2.2.2.2.2.2.2.2.2.2.1 v.2.2.2.2.2.2.2.2.2.2.2.2.2.2.2.1) (fun _ => rfl) (fun _ _ => rfl) (fun m v => by kernel_rfl) n v).symm
theorem law26SourceOrder.atl7 (n : Nat) (s : St) (K : Ex → St → Option (Kd.struct law26SourceOrder.con.rs).T) : (law26SourceOrder.lp n) true 7 (evK law26SourceOrder.env (law26SourceOrder.lp n) n (sub [1, 1, 1, 1, 1, 0, 1, 0, 0] law26SourceOrder.body)) law26SourceOrder.nml7 K s = loops n (Kd.struct law26SourceOrder.con.rs).T true 7 (evK law26SourceOrder.env (law26SourceOrder.lp n) n (sub [1, 1, 1, 1, 1, 0, 1, 0, 0] law26SourceOrder.body)) law26SourceOrder.nml7 K s := by
  show (match law26SourceOrder.shl7.dec s with | some v => law26SourceOrder.l7 n (fun w0 => K .ret (law26SourceOrder.outl7e1.enc (w0, ()))) (fun w0 w1 w2 w3 w4 w5 w6 w7 w8 => K (.exit 0) (law26SourceOrder.outl7e2.enc (w0, w1, w2, w3, w4, w5, w6, w7, w8, ()))) n v.1 v.2.1 v.2.2.1 v.2.2.2.1 v.2.2.2.2.1 v.2.2.2.2.2.1 v.2.2.2.2.2.2.1 v.2.2.2.2.2.2.2.1 v.2.2.2.2.2.2.2.2.1 v.2.2.2.2.2.2.2.2.2.1 v.2.2.2.2.2.2.2.2.2.2.1 v.2.2.2.2.2.2.2.2.2.2.2.1 v.2.2.2.2.2.2.2.2.2.2.2.2.1 | none => loops n (Kd.struct law26SourceOrder.con.rs).T true 7 (evK law26SourceOrder.env (law26SourceOrder.lp n) n (sub [1, 1, 1, 1, 1, 0, 1, 0, 0] law26SourceOrder.body)) law26SourceOrder.nml7 K s) = _
  cases h : law26SourceOrder.shl7.dec s with
  | none => rfl
  | some v =>
    rw [Shp.dec_enc h]
    exact (evLoop_eq (sh := law26SourceOrder.shl7) (body := evK law26SourceOrder.env (law26SourceOrder.lp n) n (sub [1, 1, 1, 1, 1, 0, 1, 0, 0] law26SourceOrder.body)) (nm := law26SourceOrder.nml7) (K := K) (b := fun nx v => law26SourceOrder.b7 n (fun x0 x1 x2 x3 x4 x5 x6 x7 x8 x9 x10 x11 x12 => nx (x0, x1, x2, x3, x4, x5, x6, x7, x8, x9, x10, x11, x12, ())) (fun w0 => K .ret (law26SourceOrder.outl7e1.enc (w0, ()))) (fun w0 w1 w2 w3 w4 w5 w6 w7 w8 => K (.exit 0) (law26SourceOrder.outl7e2.enc (w0, w1, w2, w3, w4, w5, w6, w7, w8, ()))) v.1 v.2.1 v.2.2.1 v.2.2.2.1 v.2.2.2.2.1 v.2.2.2.2.2.1 v.2.2.2.2.2.2.1 v.2.2.2.2.2.2.2.1 v.2.2.2.2.2.2.2.2.1 v.2.2.2.2.2.2.2.2.2.1 v.2.2.2.2.2.2.2.2.2.2.1 v.2.2.2.2.2.2.2.2.2.2.2.1 v.2.2.2.2.2.2.2.2.2.2.2.2.1) (l := fun m v => law26SourceOrder.l7 n (fun w0 => K .ret (law26SourceOrder.outl7e1.enc (w0, ()))) (fun w0 w1 w2 w3 w4 w5 w6 w7 w8 => K (.exit 0) (law26SourceOrder.outl7e2.enc (w0, w1, w2, w3, w4, w5, w6, w7, w8, ()))) m v.1 v.2.1 v.2.2.1 v.2.2.2.1 v.2.2.2.2.1 v.2.2.2.2.2.1 v.2.2.2.2.2.2.1 v.2.2.2.2.2.2.2.1 v.2.2.2.2.2.2.2.2.1 v.2.2.2.2.2.2.2.2.2.1 v.2.2.2.2.2.2.2.2.2.2.1 v.2.2.2.2.2.2.2.2.2.2.2.1 v.2.2.2.2.2.2.2.2.2.2.2.2.1) (fun _ => rfl) (fun _ _ => rfl) (fun m v => by kernel_rfl) n v).symm
theorem law26SourceOrder.eq (n : Nat) (x : (Kd.struct law26SourceOrder.con.ps).T) : evFunc law26SourceOrder.env Try.f6 law26SourceOrder.body law26SourceOrder.con.ps law26SourceOrder.con.rs (law26SourceOrder.lp n) n x = law26SourceOrder.con.f n x := by kernel_rfl
theorem law26SourceOrder.sound : Sound Try.prog globs 6 law26SourceOrder.con :=
  sound_by (E := law26SourceOrder.env) (c := law26SourceOrder.body) (envOk (G := globs) (lc := [(24, law26Fixed.con), (11, ref23May.con), (27, law26Cut.con), (29, law05RawEvent.con), (28, ref05Put.con)]) (lo := [(23, [sourceNew.con]), (25, [sourceSourceAdd.con]), (26, [sourceSourceWaits.con]), (30, [sourceSourceSend.con]), (31, [sourceSourceHear.con])]) (envB_spec (by kernel_rfl)) rfl rfl ⟨.inl ⟨law26Fixed.sound, by kernel_rfl⟩, ⟨.inl ⟨ref23May.sound, by kernel_rfl⟩, ⟨.inl ⟨law26Cut.sound, by kernel_rfl⟩, ⟨.inl ⟨law05RawEvent.sound, by kernel_rfl⟩, ⟨.inl ⟨ref05Put.sound, by kernel_rfl⟩, trivial⟩⟩⟩⟩⟩ rfl ⟨⟨⟨sourceNew.sound, trivial⟩, by kernel_rfl⟩, ⟨⟨⟨sourceSourceAdd.sound, trivial⟩, by kernel_rfl⟩, ⟨⟨⟨sourceSourceWaits.sound, trivial⟩, by kernel_rfl⟩, ⟨⟨⟨sourceSourceSend.sound, trivial⟩, by kernel_rfl⟩, ⟨⟨⟨sourceSourceHear.sound, trivial⟩, by kernel_rfl⟩, trivial⟩⟩⟩⟩⟩ (by kernel_rfl) (by kernel_rfl)) Try.func6 (by kernel_rfl) law26SourceOrder.lp (l := [(true, sub [1, 1, 1, 1, 1, 0, 1, 0, 0, 1, 1, 0, 0, 1, 1, 0, 1, 1, 1, 0, 1, 0, 0] law26SourceOrder.body, law26SourceOrder.nml22), (true, sub [1, 1, 1, 1, 1, 0, 1, 0, 0] law26SourceOrder.body, law26SourceOrder.nml7)]) (by kernel_rfl) (fun n => ⟨law26SourceOrder.atl22 n, ⟨law26SourceOrder.atl7 n, trivial⟩⟩) law26SourceOrder.eq
end
end Go.Shal.Pr
