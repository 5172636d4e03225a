/- Prints of functions, and proofs that they are what the code computes. By an AI agent. -/
import Derived.Test.YtocfcfaeboemcaaDoorShC
import Derived.Test.YtocfcfaeboemcaaDoorProg
set_option linter.unusedVariables false
set_option maxRecDepth 100000
namespace Go.Shal.Pr
open Go Go.Shal Go.Proofs
noncomputable section
def tabCrcHalves : List Int := [0, 498536548, 997073096, 651767980, 1994146192, 1802195444, 1303535960, 1342533948, 3988292384, 4027552580, 3604390888, 3412177804, 2607071920, 2262029012, 2685067896, 3183342108]
def tabFrameFields : List Int := [0, 17, 7, 21, 5, 31, 7, 7, 7, 7, 7, 5, 21, 4, 4, 1, 4, 15]
def globs : Globs := [(1, ⟨(.arr 16 (.int .u32)), tabCrcHalves⟩), (0, ⟨(.arr 18 (.int .u8)), tabFrameFields⟩)]
abbrev kS0 : Kd := .struct [(.int .u8), (.int .u32), (.int .u32), (.int .u64), (.int .u64), (.slice (.int .u8))]
abbrev S0 : Type := Int × Int × Int × Int × Int × (List Int) × Unit
abbrev kO1 : Ob := (.own (.int .u8) (.dat (.int .i64) .nil))
abbrev O1 : Type := (List Int) × Int × Unit
abbrev kO2 : Ob := (.dat (.slice (.int .u8)) (.dat (.int .i64) (.dat (.int .u8) (.dat (.int .i64) .nil))))
abbrev O2 : Type := (List Int) × Int × Int × Int × Unit
abbrev kS3 : Kd := .struct [(.slice (.int .u8)), (.int .i64)]
abbrev S3 : Type := (List Int) × Int × Unit
abbrev kS4 : Kd := .struct [(.slice (.int .u8)), (.int .i64), (.int .u8), (.int .i64)]
abbrev S4 : Type := (List Int) × Int × Int × Int × Unit
noncomputable def streamStreamTakeNil (fu : Nat) (piece : List Int) : Option (((List S0) × Int × Unit) × (Unit)) :=
  some (([], (1 : Int), ()), (()))

noncomputable def streamStreamTakeNil.body : Code := Tryd.f18.body.getD .skip
noncomputable def streamStreamTakeNil.con : OCon := { ps := [.nil, .dat (.slice (.int .u8))], rs := [.dat (.slice kS0), .dat (.int .i64)], f := fun n x => streamStreamTakeNil n x.2.1 }
noncomputable def streamStreamTakeNil.env : Env := { tys := [(41, ⟨(.slice kS0), 24⟩), (29, ⟨(.int .i64), 8⟩), (43, ⟨.np, 8⟩)], elems := [], ptrs := [(43, 67)], cons := [], objs := [], loops := [], cuts := [], globs := globs, base := 0 }
noncomputable def streamStreamTakeNil.lp (n : Nat) : LP (RT streamStreamTakeNil.con.rs × BT streamStreamTakeNil.con.ps) := fun lo κ body nm K s =>
  loops n (RT streamStreamTakeNil.con.rs × BT streamStreamTakeNil.con.ps) lo κ body nm K s
theorem streamStreamTakeNil.eq (n : Nat) (x : PT streamStreamTakeNil.con.ps) : evFuncO streamStreamTakeNil.env Tryd.f18 streamStreamTakeNil.body streamStreamTakeNil.con.ps streamStreamTakeNil.con.rs (streamStreamTakeNil.lp n) n x = streamStreamTakeNil.con.f n x := by kernel_rfl
theorem streamStreamTakeNil.sound : SoundO Tryd.prog globs 18 streamStreamTakeNil.con :=
  sound_byO (E := streamStreamTakeNil.env) (c := streamStreamTakeNil.body) (envOk (G := globs) (lc := []) (lo := []) (envB_spec (by kernel_rfl)) rfl rfl trivial rfl trivial (by kernel_rfl) (by kernel_rfl)) Tryd.func18 (by kernel_rfl) (by kernel_rfl) (by kernel_rfl) streamStreamTakeNil.lp (l := []) (by kernel_rfl) (fun n => trivial) streamStreamTakeNil.eq
noncomputable def streamNew (fu : Nat) : Option (((Option O1) × Unit) × (Unit)) :=
  some ((some ([], (0 : Int), ()), ()), (()))

noncomputable def streamNew.body : Code := Tryd.f17.body.getD .skip
noncomputable def streamNew.con : OCon := { ps := [], rs := [.ref kO1], f := fun n x => streamNew n }
noncomputable def streamNew.env : Env := { tys := [(43, ⟨.np, 8⟩), (67, ⟨kS3, 32⟩)], elems := [], ptrs := [], cons := [], objs := [], loops := [], cuts := [], globs := globs, base := 0 }
noncomputable def streamNew.lp (n : Nat) : LP (RT streamNew.con.rs × BT streamNew.con.ps) := fun lo κ body nm K s =>
  loops n (RT streamNew.con.rs × BT streamNew.con.ps) lo κ body nm K s
theorem streamNew.eq (n : Nat) (x : PT streamNew.con.ps) : evFuncO streamNew.env Tryd.f17 streamNew.body streamNew.con.ps streamNew.con.rs (streamNew.lp n) n x = streamNew.con.f n x := by kernel_rfl
theorem streamNew.sound : SoundO Tryd.prog globs 17 streamNew.con :=
  sound_byO (E := streamNew.env) (c := streamNew.body) (envOk (G := globs) (lc := []) (lo := []) (envB_spec (by kernel_rfl)) rfl rfl trivial rfl trivial (by kernel_rfl) (by kernel_rfl)) Tryd.func17 (by kernel_rfl) (by kernel_rfl) (by kernel_rfl) streamNew.lp (l := []) (by kernel_rfl) (fun n => trivial) streamNew.eq
noncomputable def ref20Fields.j28022 (fu : Nat) (k0 : Unit → Option ((List Bool) × Bool × Unit)) (k1 : (List Bool) → Bool → Option ((List Bool) × Bool × Unit)) (v : Int) (vx2 : Bool) : Option ((List Bool) × Bool × Unit) :=
  cond vx2 (
    let t1 := [false, false, true, false, false]
    k1 t1 true) (
    cond (v == (15 : Int)) (
      let t2 := [true, false, false, false, false]
      k1 t2 true) (
      cond (v == (17 : Int)) (
        let t3 := [true, true, true, true, false]
        k1 t3 true) (
        k0 ())))
noncomputable def ref20Fields.j21016 (fu : Nat) (k0 : Unit → Option ((List Bool) × Bool × Unit)) (k1 : (List Bool) → Bool → Option ((List Bool) × Bool × Unit)) (v : Int) (vx2 : Bool) : Option ((List Bool) × Bool × Unit) :=
  cond vx2 (
    let t1 := [true, false, true, false, false]
    k1 t1 true) (
    cond (v == (5 : Int)) (
      let t2 := [true, true, true, true, true]
      k1 t2 true) (
      cond (v == (13 : Int)) (
        ref20Fields.j28022 fu (fun (_ : Unit) => 
            k0 ()) (fun vq20 vq20x2 => 
            k1 vq20 vq20x2) v (v == (13 : Int))) (
        cond (v == (14 : Int)) (
          ref20Fields.j28022 fu (fun (_ : Unit) => 
              k0 ()) (fun vq22 vq22x2 => 
              k1 vq22 vq22x2) v (v == (14 : Int))) (
          ref20Fields.j28022 fu (fun (_ : Unit) => 
              k0 ()) (fun vq24 vq24x2 => 
              k1 vq24 vq24x2) v (v == (16 : Int))))))
noncomputable def ref20Fields.j17013 (fu : Nat) (k0 : Unit → Option ((List Bool) × Bool × Unit)) (k1 : (List Bool) → Bool → Option ((List Bool) × Bool × Unit)) (v : Int) (vx2 : Bool) : Option ((List Bool) × Bool × Unit) :=
  cond vx2 (
    let t1 := [true, false, true, false, true]
    k1 t1 true) (
    cond (v == (4 : Int)) (
      ref20Fields.j21016 fu (fun (_ : Unit) => 
          k0 ()) (fun vq26 vq26x2 => 
          k1 vq26 vq26x2) v (v == (4 : Int))) (
      ref20Fields.j21016 fu (fun (_ : Unit) => 
          k0 ()) (fun vq28 vq28x2 => 
          k1 vq28 vq28x2) v (v == (11 : Int))))
noncomputable def ref20Fields.j9010 (fu : Nat) (k0 : Unit → Option ((List Bool) × Bool × Unit)) (k1 : (List Bool) → Bool → Option ((List Bool) × Bool × Unit)) (v : Int) (vx2 : Bool) : Option ((List Bool) × Bool × Unit) :=
  cond vx2 (
    let t1 := [true, true, true, false, false]
    k1 t1 true) (
    cond (v == (3 : Int)) (
      ref20Fields.j17013 fu (fun (_ : Unit) => 
          k0 ()) (fun vq30 vq30x2 => 
          k1 vq30 vq30x2) v (v == (3 : Int))) (
      ref20Fields.j17013 fu (fun (_ : Unit) => 
          k0 ()) (fun vq32 vq32x2 => 
          k1 vq32 vq32x2) v (v == (12 : Int))))
noncomputable def ref20Fields.j27 (fu : Nat) (k1 : (List Bool) → Bool → Option ((List Bool) × Bool × Unit)) : Option ((List Bool) × Bool × Unit) :=
  k1 [] false
noncomputable def ref20Fields (fu : Nat) (kind : Int) : Option ((List Bool) × Bool × Unit) :=
  cond (kind == (1 : Int)) (
    let t1 := [true, false, false, false, true]
    some (t1, true, ())) (
    cond (kind == (2 : Int)) (
      ref20Fields.j9010 fu (fun (_ : Unit) => 
          ref20Fields.j27 fu (fun vq2 vq2x2 => 
              some (vq2, vq2x2, ()))) (fun vq3 vq3x2 => 
          some (vq3, vq3x2, ())) kind (kind == (2 : Int))) (
      cond (kind == (6 : Int)) (
        ref20Fields.j9010 fu (fun (_ : Unit) => 
            ref20Fields.j27 fu (fun vq5 vq5x2 => 
                some (vq5, vq5x2, ()))) (fun vq6 vq6x2 => 
            some (vq6, vq6x2, ())) kind (kind == (6 : Int))) (
        cond (kind == (7 : Int)) (
          ref20Fields.j9010 fu (fun (_ : Unit) => 
              ref20Fields.j27 fu (fun vq8 vq8x2 => 
                  some (vq8, vq8x2, ()))) (fun vq9 vq9x2 => 
              some (vq9, vq9x2, ())) kind (kind == (7 : Int))) (
          cond (kind == (8 : Int)) (
            ref20Fields.j9010 fu (fun (_ : Unit) => 
                ref20Fields.j27 fu (fun vq11 vq11x2 => 
                    some (vq11, vq11x2, ()))) (fun vq12 vq12x2 => 
                some (vq12, vq12x2, ())) kind (kind == (8 : Int))) (
            cond (kind == (9 : Int)) (
              ref20Fields.j9010 fu (fun (_ : Unit) => 
                  ref20Fields.j27 fu (fun vq14 vq14x2 => 
                      some (vq14, vq14x2, ()))) (fun vq15 vq15x2 => 
                  some (vq15, vq15x2, ())) kind (kind == (9 : Int))) (
              ref20Fields.j9010 fu (fun (_ : Unit) => 
                  ref20Fields.j27 fu (fun vq17 vq17x2 => 
                      some (vq17, vq17x2, ()))) (fun vq18 vq18x2 => 
                  some (vq18, vq18x2, ())) kind (kind == (10 : Int))))))))

noncomputable def ref20Fields.body : Code := Tryd.f26.body.getD .skip
abbrev ref20Fields.shj28022 : Shp := ⟨[.u, .u, .u, .u, .d (.int .u8), .u, .u, .u, .u, .u, .u, .u, .u, .u, .u, .u, .u, .u, .u, .u, .u, .u, .u, .u, .u, .u, .u, .d .bool, .u, .u, .u, .u, .u, .u, .u, .u, .u, .u, .u], []⟩
abbrev ref20Fields.outj28022e0 : Shp := ⟨[.u, .u, .u, .u, .u, .u, .u, .u, .u, .u, .u, .u, .u, .u, .u, .u, .u, .u, .u, .u, .u, .u, .u, .u, .u, .u, .u, .u, .u, .u, .u, .u, .u, .u, .u, .u, .u, .u, .u], []⟩
abbrev ref20Fields.outj28022e1 : Shp := ⟨[.u, .u, .o 2 .bool, .d .bool, .u, .u, .u, .u, .u, .u, .u, .u, .u, .u, .u, .u, .u, .u, .u, .u, .u, .u, .u, .u, .u, .u, .u, .u, .u, .u, .u, .u, .u, .u, .u, .u, .u, .u, .u], []⟩
noncomputable def ref20Fields.nmj28022 : Norm := ⟨{ keep := [4, 27], shut := [(4, (.int .u8)), (27, .bool)], retag := [], heap := 0, dead := [], cshut := [], cretag := [] }, [(0, { keep := [], shut := [], retag := [], heap := 0, dead := [], cshut := [], cretag := [] }), (1, { keep := [2, 3], shut := [(3, .bool)], retag := [(2, 2, .bool)], heap := 0, dead := [], cshut := [], cretag := [] })]⟩
abbrev ref20Fields.shj21016 : Shp := ⟨[.u, .u, .u, .u, .d (.int .u8), .u, .u, .u, .u, .u, .u, .u, .u, .u, .u, .u, .u, .u, .u, .u, .d .bool, .u, .u, .u, .u, .u, .u, .u, .u, .u, .u, .u, .u, .u, .u, .u, .u, .u, .u], []⟩
abbrev ref20Fields.outj21016e0 : Shp := ⟨[.u, .u, .u, .u, .u, .u, .u, .u, .u, .u, .u, .u, .u, .u, .u, .u, .u, .u, .u, .u, .u, .u, .u, .u, .u, .u, .u, .u, .u, .u, .u, .u, .u, .u, .u, .u, .u, .u, .u], []⟩
abbrev ref20Fields.outj21016e1 : Shp := ⟨[.u, .u, .o 2 .bool, .d .bool, .u, .u, .u, .u, .u, .u, .u, .u, .u, .u, .u, .u, .u, .u, .u, .u, .u, .u, .u, .u, .u, .u, .u, .u, .u, .u, .u, .u, .u, .u, .u, .u, .u, .u, .u], []⟩
noncomputable def ref20Fields.nmj21016 : Norm := ⟨{ keep := [4, 20], shut := [(4, (.int .u8)), (20, .bool)], retag := [], heap := 0, dead := [], cshut := [], cretag := [] }, [(0, { keep := [], shut := [], retag := [], heap := 0, dead := [], cshut := [], cretag := [] }), (1, { keep := [2, 3], shut := [(3, .bool)], retag := [(2, 2, .bool)], heap := 0, dead := [], cshut := [], cretag := [] })]⟩
abbrev ref20Fields.shj17013 : Shp := ⟨[.u, .u, .u, .u, .d (.int .u8), .u, .u, .u, .u, .u, .u, .u, .u, .u, .u, .u, .d .bool, .u, .u, .u, .u, .u, .u, .u, .u, .u, .u, .u, .u, .u, .u, .u, .u, .u, .u, .u, .u, .u, .u], []⟩
abbrev ref20Fields.outj17013e0 : Shp := ⟨[.u, .u, .u, .u, .u, .u, .u, .u, .u, .u, .u, .u, .u, .u, .u, .u, .u, .u, .u, .u, .u, .u, .u, .u, .u, .u, .u, .u, .u, .u, .u, .u, .u, .u, .u, .u, .u, .u, .u], []⟩
abbrev ref20Fields.outj17013e1 : Shp := ⟨[.u, .u, .o 2 .bool, .d .bool, .u, .u, .u, .u, .u, .u, .u, .u, .u, .u, .u, .u, .u, .u, .u, .u, .u, .u, .u, .u, .u, .u, .u, .u, .u, .u, .u, .u, .u, .u, .u, .u, .u, .u, .u], []⟩
noncomputable def ref20Fields.nmj17013 : Norm := ⟨{ keep := [4, 16], shut := [(4, (.int .u8)), (16, .bool)], retag := [], heap := 0, dead := [], cshut := [], cretag := [] }, [(0, { keep := [], shut := [], retag := [], heap := 0, dead := [], cshut := [], cretag := [] }), (1, { keep := [2, 3], shut := [(3, .bool)], retag := [(2, 2, .bool)], heap := 0, dead := [], cshut := [], cretag := [] })]⟩
abbrev ref20Fields.shj9010 : Shp := ⟨[.u, .u, .u, .u, .d (.int .u8), .u, .u, .u, .d .bool, .u, .u, .u, .u, .u, .u, .u, .u, .u, .u, .u, .u, .u, .u, .u, .u, .u, .u, .u, .u, .u, .u, .u, .u, .u, .u, .u, .u, .u, .u], []⟩
abbrev ref20Fields.outj9010e0 : Shp := ⟨[.u, .u, .u, .u, .u, .u, .u, .u, .u, .u, .u, .u, .u, .u, .u, .u, .u, .u, .u, .u, .u, .u, .u, .u, .u, .u, .u, .u, .u, .u, .u, .u, .u, .u, .u, .u, .u, .u, .u], []⟩
abbrev ref20Fields.outj9010e1 : Shp := ⟨[.u, .u, .o 2 .bool, .d .bool, .u, .u, .u, .u, .u, .u, .u, .u, .u, .u, .u, .u, .u, .u, .u, .u, .u, .u, .u, .u, .u, .u, .u, .u, .u, .u, .u, .u, .u, .u, .u, .u, .u, .u, .u], []⟩
noncomputable def ref20Fields.nmj9010 : Norm := ⟨{ keep := [4, 8], shut := [(4, (.int .u8)), (8, .bool)], retag := [], heap := 0, dead := [], cshut := [], cretag := [] }, [(0, { keep := [], shut := [], retag := [], heap := 0, dead := [], cshut := [], cretag := [] }), (1, { keep := [2, 3], shut := [(3, .bool)], retag := [(2, 2, .bool)], heap := 0, dead := [], cshut := [], cretag := [] })]⟩
abbrev ref20Fields.shj27 : Shp := ⟨[.u, .u, .u, .u, .u, .u, .u, .u, .u, .u, .u, .u, .u, .u, .u, .u, .u, .u, .u, .u, .u, .u, .u, .u, .u, .u, .u, .u, .u, .u, .u, .u, .u, .u, .u, .u, .u, .u, .u], []⟩
abbrev ref20Fields.outj27e1 : Shp := ⟨[.u, .u, .o 2 .bool, .d .bool, .u, .u, .u, .u, .u, .u, .u, .u, .u, .u, .u, .u, .u, .u, .u, .u, .u, .u, .u, .u, .u, .u, .u, .u, .u, .u, .u, .u, .u, .u, .u, .u, .u, .u, .u], []⟩
noncomputable def ref20Fields.nmj27 : Norm := ⟨{ keep := [], shut := [], retag := [], heap := 0, dead := [], cshut := [], cretag := [] }, [(1, { keep := [2, 3], shut := [(3, .bool)], retag := [(2, 2, .bool)], heap := 0, dead := [], cshut := [], cretag := [] })]⟩
noncomputable def ref20Fields.con : Con := { ps := [(.int .u8)], rs := [(.slice .bool), .bool], f := fun n x => ref20Fields n x.1 }
noncomputable def ref20Fields.env : Env := { tys := [(55, ⟨(.slice .bool), 24⟩), (4, ⟨.bool, 1⟩)], elems := [(55, 4)], ptrs := [], cons := [], objs := [], loops := [], cuts := [(28022, ref20Fields.nmj28022), (21016, ref20Fields.nmj21016), (17013, ref20Fields.nmj17013), (9010, ref20Fields.nmj9010), (27, ref20Fields.nmj27)], globs := globs, base := 0 }
noncomputable def ref20Fields.lp (n : Nat) : LP (Kd.struct ref20Fields.con.rs).T := fun lo κ body nm K s =>
  cond (!lo && Nat.beq κ 28022)
    (match ref20Fields.shj28022.dec s with
    | some v => ref20Fields.j28022 n (fun _ => K .normal (ref20Fields.outj28022e0.enc (()))) (fun w0 w1 => K .ret (ref20Fields.outj28022e1.enc (w0, w1, ()))) v.1 v.2.1
    | none => loops n (Kd.struct ref20Fields.con.rs).T lo κ body nm K s)
    (cond (!lo && Nat.beq κ 21016)
    (match ref20Fields.shj21016.dec s with
    | some v => ref20Fields.j21016 n (fun _ => K .normal (ref20Fields.outj21016e0.enc (()))) (fun w0 w1 => K .ret (ref20Fields.outj21016e1.enc (w0, w1, ()))) v.1 v.2.1
    | none => loops n (Kd.struct ref20Fields.con.rs).T lo κ body nm K s)
    (cond (!lo && Nat.beq κ 17013)
    (match ref20Fields.shj17013.dec s with
    | some v => ref20Fields.j17013 n (fun _ => K .normal (ref20Fields.outj17013e0.enc (()))) (fun w0 w1 => K .ret (ref20Fields.outj17013e1.enc (w0, w1, ()))) v.1 v.2.1
    | none => loops n (Kd.struct ref20Fields.con.rs).T lo κ body nm K s)
    (cond (!lo && Nat.beq κ 9010)
    (match ref20Fields.shj9010.dec s with
    | some v => ref20Fields.j9010 n (fun _ => K .normal (ref20Fields.outj9010e0.enc (()))) (fun w0 w1 => K .ret (ref20Fields.outj9010e1.enc (w0, w1, ()))) v.1 v.2.1
    | none => loops n (Kd.struct ref20Fields.con.rs).T lo κ body nm K s)
    (cond (!lo && Nat.beq κ 27)
    (match ref20Fields.shj27.dec s with
    | some v => ref20Fields.j27 n (fun w0 w1 => K .ret (ref20Fields.outj27e1.enc (w0, w1, ())))
    | none => loops n (Kd.struct ref20Fields.con.rs).T lo κ body nm K s)
    (loops n (Kd.struct ref20Fields.con.rs).T lo κ body nm K s)))))
theorem ref20Fields.atj28022 (n : Nat) (s : St) (K : Ex → St → Option (Kd.struct ref20Fields.con.rs).T) : (ref20Fields.lp n) false 28022 (evK ref20Fields.env (ref20Fields.lp n) n (sub [1, 0, 1, 0, 1, 1, 1, 1, 1, 1, 1, 1, 1, 1, 1] ref20Fields.body)) ref20Fields.nmj28022 K s = loops n (Kd.struct ref20Fields.con.rs).T false 28022 (evK ref20Fields.env (ref20Fields.lp n) n (sub [1, 0, 1, 0, 1, 1, 1, 1, 1, 1, 1, 1, 1, 1, 1] ref20Fields.body)) ref20Fields.nmj28022 K s := by
  show (match ref20Fields.shj28022.dec s with | some v => ref20Fields.j28022 n (fun _ => K .normal (ref20Fields.outj28022e0.enc (()))) (fun w0 w1 => K .ret (ref20Fields.outj28022e1.enc (w0, w1, ()))) v.1 v.2.1 | none => loops n (Kd.struct ref20Fields.con.rs).T false 28022 (evK ref20Fields.env (ref20Fields.lp n) n (sub [1, 0, 1, 0, 1, 1, 1, 1, 1, 1, 1, 1, 1, 1, 1] ref20Fields.body)) ref20Fields.nmj28022 K s) = _
  cases h : ref20Fields.shj28022.dec s with
  | none => rfl
  | some v =>
    rw [Shp.dec_enc h]
    kernel_rfl
theorem ref20Fields.atj21016 (n : Nat) (s : St) (K : Ex → St → Option (Kd.struct ref20Fields.con.rs).T) : (ref20Fields.lp n) false 21016 (evK ref20Fields.env (ref20Fields.lp n) n (sub [1, 0, 1, 0, 1, 1, 1, 1, 1, 1, 1] ref20Fields.body)) ref20Fields.nmj21016 K s = loops n (Kd.struct ref20Fields.con.rs).T false 21016 (evK ref20Fields.env (ref20Fields.lp n) n (sub [1, 0, 1, 0, 1, 1, 1, 1, 1, 1, 1] ref20Fields.body)) ref20Fields.nmj21016 K s := by
  show (match ref20Fields.shj21016.dec s with | some v => ref20Fields.j21016 n (fun _ => K .normal (ref20Fields.outj21016e0.enc (()))) (fun w0 w1 => K .ret (ref20Fields.outj21016e1.enc (w0, w1, ()))) v.1 v.2.1 | none => loops n (Kd.struct ref20Fields.con.rs).T false 21016 (evK ref20Fields.env (ref20Fields.lp n) n (sub [1, 0, 1, 0, 1, 1, 1, 1, 1, 1, 1] ref20Fields.body)) ref20Fields.nmj21016 K s) = _
  cases h : ref20Fields.shj21016.dec s with
  | none => rfl
  | some v =>
    rw [Shp.dec_enc h]
    kernel_rfl
theorem ref20Fields.atj17013 (n : Nat) (s : St) (K : Ex → St → Option (Kd.struct ref20Fields.con.rs).T) : (ref20Fields.lp n) false 17013 (evK ref20Fields.env (ref20Fields.lp n) n (sub [1, 0, 1, 0, 1, 1, 1, 1, 1] ref20Fields.body)) ref20Fields.nmj17013 K s = loops n (Kd.struct ref20Fields.con.rs).T false 17013 (evK ref20Fields.env (ref20Fields.lp n) n (sub [1, 0, 1, 0, 1, 1, 1, 1, 1] ref20Fields.body)) ref20Fields.nmj17013 K s := by
  show (match ref20Fields.shj17013.dec s with | some v => ref20Fields.j17013 n (fun _ => K .normal (ref20Fields.outj17013e0.enc (()))) (fun w0 w1 => K .ret (ref20Fields.outj17013e1.enc (w0, w1, ()))) v.1 v.2.1 | none => loops n (Kd.struct ref20Fields.con.rs).T false 17013 (evK ref20Fields.env (ref20Fields.lp n) n (sub [1, 0, 1, 0, 1, 1, 1, 1, 1] ref20Fields.body)) ref20Fields.nmj17013 K s) = _
  cases h : ref20Fields.shj17013.dec s with
  | none => rfl
  | some v =>
    rw [Shp.dec_enc h]
    kernel_rfl
theorem ref20Fields.atj9010 (n : Nat) (s : St) (K : Ex → St → Option (Kd.struct ref20Fields.con.rs).T) : (ref20Fields.lp n) false 9010 (evK ref20Fields.env (ref20Fields.lp n) n (sub [1, 0, 1, 0, 1, 1, 1] ref20Fields.body)) ref20Fields.nmj9010 K s = loops n (Kd.struct ref20Fields.con.rs).T false 9010 (evK ref20Fields.env (ref20Fields.lp n) n (sub [1, 0, 1, 0, 1, 1, 1] ref20Fields.body)) ref20Fields.nmj9010 K s := by
  show (match ref20Fields.shj9010.dec s with | some v => ref20Fields.j9010 n (fun _ => K .normal (ref20Fields.outj9010e0.enc (()))) (fun w0 w1 => K .ret (ref20Fields.outj9010e1.enc (w0, w1, ()))) v.1 v.2.1 | none => loops n (Kd.struct ref20Fields.con.rs).T false 9010 (evK ref20Fields.env (ref20Fields.lp n) n (sub [1, 0, 1, 0, 1, 1, 1] ref20Fields.body)) ref20Fields.nmj9010 K s) = _
  cases h : ref20Fields.shj9010.dec s with
  | none => rfl
  | some v =>
    rw [Shp.dec_enc h]
    kernel_rfl
theorem ref20Fields.atj27 (n : Nat) (s : St) (K : Ex → St → Option (Kd.struct ref20Fields.con.rs).T) : (ref20Fields.lp n) false 27 (evK ref20Fields.env (ref20Fields.lp n) n (sub [1, 1] ref20Fields.body)) ref20Fields.nmj27 K s = loops n (Kd.struct ref20Fields.con.rs).T false 27 (evK ref20Fields.env (ref20Fields.lp n) n (sub [1, 1] ref20Fields.body)) ref20Fields.nmj27 K s := by
  show (match ref20Fields.shj27.dec s with | some v => ref20Fields.j27 n (fun w0 w1 => K .ret (ref20Fields.outj27e1.enc (w0, w1, ()))) | none => loops n (Kd.struct ref20Fields.con.rs).T false 27 (evK ref20Fields.env (ref20Fields.lp n) n (sub [1, 1] ref20Fields.body)) ref20Fields.nmj27 K s) = _
  cases h : ref20Fields.shj27.dec s with
  | none => rfl
  | some v =>
    rw [Shp.dec_enc h]
    kernel_rfl
theorem ref20Fields.eq (n : Nat) (x : (Kd.struct ref20Fields.con.ps).T) : evFunc ref20Fields.env Tryd.f26 ref20Fields.body ref20Fields.con.ps ref20Fields.con.rs (ref20Fields.lp n) n x = ref20Fields.con.f n x := by kernel_rfl
theorem ref20Fields.sound : Sound Tryd.prog globs 26 ref20Fields.con :=
  sound_by (E := ref20Fields.env) (c := ref20Fields.body) (envOk (G := globs) (lc := []) (lo := []) (envB_spec (by kernel_rfl)) rfl rfl trivial rfl trivial (by kernel_rfl) (by kernel_rfl)) Tryd.func26 (by kernel_rfl) ref20Fields.lp (l := [(false, sub [1, 0, 1, 0, 1, 1, 1, 1, 1, 1, 1, 1, 1, 1, 1] ref20Fields.body, ref20Fields.nmj28022), (false, sub [1, 0, 1, 0, 1, 1, 1, 1, 1, 1, 1] ref20Fields.body, ref20Fields.nmj21016), (false, sub [1, 0, 1, 0, 1, 1, 1, 1, 1] ref20Fields.body, ref20Fields.nmj17013), (false, sub [1, 0, 1, 0, 1, 1, 1] ref20Fields.body, ref20Fields.nmj9010), (false, sub [1, 1] ref20Fields.body, ref20Fields.nmj27)]) (by kernel_rfl) (fun n => ⟨ref20Fields.atj28022 n, ⟨ref20Fields.atj21016 n, ⟨ref20Fields.atj17013 n, ⟨ref20Fields.atj9010 n, ⟨ref20Fields.atj27 n, trivial⟩⟩⟩⟩⟩) ref20Fields.eq
noncomputable def ref03PutDat.b3 (fu : Nat) (next : Int → (List Int) → Option ((List Int) × Unit)) (k2 : Int → (List Int) → Option ((List Int) × Unit)) (n : Int) (out : List Int) : Option ((List Int) × Unit) :=
  cond (decide (n ≥ (128 : Int))) (
    let t1 := IntKind.u64.wrap (Int.tmod n (128 : Int) + (128 : Int))
    chk (apOk out ([IntKind.u8.wrap t1]) 1) <|
    let t2 := out ++ ([IntKind.u8.wrap t1])
    let t3 := IntKind.u64.wrap (Int.tdiv n (128 : Int))
    next t3 t2) (
    k2 n out)
noncomputable def ref03PutDat.l3 (fu : Nat) (k2 : Int → (List Int) → Option ((List Int) × Unit)) : Nat → Int → (List Int) → Option ((List Int) × Unit)
  | 0, _, _ => none
  | m + 1, n, out => ref03PutDat.b3 fu (ref03PutDat.l3 fu k2 m) k2 n out
noncomputable def ref03PutDat (fu : Nat) (b : List Int) (n : Int) : Option ((List Int) × Unit) :=
  chk (apOk [] b 1) <|
  ref03PutDat.l3 fu (fun nq2 outq2 => 
      chk (apOk outq2 ([IntKind.u8.wrap nq2]) 1) <|
      let t1 := outq2 ++ ([IntKind.u8.wrap nq2])
      some (t1, ())) fu n ([] ++ b)

noncomputable def ref03PutDat.body : Code := Tryd.f27.body.getD .skip
abbrev ref03PutDat.shl3 : Shp := ⟨[.u, .d (.int .u64), .u, .u, .u, .o 5 (.int .u8), .u, .u, .u, .u, .u, .u, .u, .u, .u, .u, .u, .u, .u, .u, .u, .u, .u, .u, .u, .u], []⟩
abbrev ref03PutDat.outl3e2 : Shp := ⟨[.u, .d (.int .u64), .u, .u, .u, .o 5 (.int .u8), .u, .u, .u, .u, .u, .u, .u, .u, .u, .u, .u, .u, .u, .u, .u, .u, .u, .u, .u, .u], []⟩
noncomputable def ref03PutDat.nml3 : Norm := ⟨{ keep := [1, 5], shut := [(1, (.int .u64))], retag := [(5, 5, (.int .u8))], heap := 0, dead := [], cshut := [], cretag := [] }, [(2, { keep := [1, 5], shut := [(1, (.int .u64))], retag := [(5, 5, (.int .u8))], heap := 0, dead := [], cshut := [], cretag := [] })]⟩
noncomputable def ref03PutDat.con : Con := { ps := [(.slice (.int .u8)), (.int .u64)], rs := [(.slice (.int .u8))], f := fun n x => ref03PutDat n x.1 x.2.1 }
noncomputable def ref03PutDat.env : Env := { tys := [(24, ⟨(.slice (.int .u8)), 24⟩), (5, ⟨(.int .u8), 1⟩), (23, ⟨(.int .u64), 8⟩)], elems := [(24, 5)], ptrs := [], cons := [], objs := [], loops := [(3, ref03PutDat.nml3)], cuts := [], globs := globs, base := 0 }
noncomputable def ref03PutDat.lp (n : Nat) : LP (Kd.struct ref03PutDat.con.rs).T := fun lo κ body nm K s =>
  cond (lo && Nat.beq κ 3)
    (match ref03PutDat.shl3.dec s with
    | some v => ref03PutDat.l3 n (fun w0 w1 => K (.exit 0) (ref03PutDat.outl3e2.enc (w0, w1, ()))) n v.1 v.2.1
    | none => loops n (Kd.struct ref03PutDat.con.rs).T lo κ body nm K s)
    (loops n (Kd.struct ref03PutDat.con.rs).T lo κ body nm K s)
theorem ref03PutDat.atl3 (n : Nat) (s : St) (K : Ex → St → Option (Kd.struct ref03PutDat.con.rs).T) : (ref03PutDat.lp n) true 3 (evK ref03PutDat.env (ref03PutDat.lp n) n (sub [1, 1, 1, 0, 0, 0] ref03PutDat.body)) ref03PutDat.nml3 K s = loops n (Kd.struct ref03PutDat.con.rs).T true 3 (evK ref03PutDat.env (ref03PutDat.lp n) n (sub [1, 1, 1, 0, 0, 0] ref03PutDat.body)) ref03PutDat.nml3 K s := by
  show (match ref03PutDat.shl3.dec s with | some v => ref03PutDat.l3 n (fun w0 w1 => K (.exit 0) (ref03PutDat.outl3e2.enc (w0, w1, ()))) n v.1 v.2.1 | none => loops n (Kd.struct ref03PutDat.con.rs).T true 3 (evK ref03PutDat.env (ref03PutDat.lp n) n (sub [1, 1, 1, 0, 0, 0] ref03PutDat.body)) ref03PutDat.nml3 K s) = _
  cases h : ref03PutDat.shl3.dec s with
  | none => rfl
  | some v =>
    rw [Shp.dec_enc h]
    exact (evLoop_eq (sh := ref03PutDat.shl3) (body := evK ref03PutDat.env (ref03PutDat.lp n) n (sub [1, 1, 1, 0, 0, 0] ref03PutDat.body)) (nm := ref03PutDat.nml3) (K := K) (b := fun nx v => ref03PutDat.b3 n (fun x0 x1 => nx (x0, x1, ())) (fun w0 w1 => K (.exit 0) (ref03PutDat.outl3e2.enc (w0, w1, ()))) v.1 v.2.1) (l := fun m v => ref03PutDat.l3 n (fun w0 w1 => K (.exit 0) (ref03PutDat.outl3e2.enc (w0, w1, ()))) m v.1 v.2.1) (fun _ => rfl) (fun _ _ => rfl) (fun m v => by kernel_rfl) n v).symm
theorem ref03PutDat.eq (n : Nat) (x : (Kd.struct ref03PutDat.con.ps).T) : evFunc ref03PutDat.env Tryd.f27 ref03PutDat.body ref03PutDat.con.ps ref03PutDat.con.rs (ref03PutDat.lp n) n x = ref03PutDat.con.f n x := by kernel_rfl
theorem ref03PutDat.sound : Sound Tryd.prog globs 27 ref03PutDat.con :=
  sound_by (E := ref03PutDat.env) (c := ref03PutDat.body) (envOk (G := globs) (lc := []) (lo := []) (envB_spec (by kernel_rfl)) rfl rfl trivial rfl trivial (by kernel_rfl) (by kernel_rfl)) Tryd.func27 (by kernel_rfl) ref03PutDat.lp (l := [(true, sub [1, 1, 1, 0, 0, 0] ref03PutDat.body, ref03PutDat.nml3)]) (by kernel_rfl) (fun n => ⟨ref03PutDat.atl3 n, trivial⟩) ref03PutDat.eq
noncomputable def ref03Put.b3 (fu : Nat) (next : Int → (List Int) → Option (((List Int) × Unit) × (Unit))) (k2 : Int → (List Int) → Option (((List Int) × Unit) × (Unit))) (n : Int) (out : List Int) : Option (((List Int) × Unit) × (Unit)) :=
  cond (decide (n ≥ (128 : Int))) (
    let t1 := IntKind.u64.wrap (Int.tmod n (128 : Int) + (128 : Int))
    chk (apOk out ([IntKind.u8.wrap t1]) 1) <|
    let t2 := out ++ ([IntKind.u8.wrap t1])
    let t3 := IntKind.u64.wrap (Int.tdiv n (128 : Int))
    next t3 t2) (
    k2 n out)
noncomputable def ref03Put.l3 (fu : Nat) (k2 : Int → (List Int) → Option (((List Int) × Unit) × (Unit))) : Nat → Int → (List Int) → Option (((List Int) × Unit) × (Unit))
  | 0, _, _ => none
  | m + 1, n, out => ref03Put.b3 fu (ref03Put.l3 fu k2 m) k2 n out
noncomputable def ref03Put (fu : Nat) (b : List Int) (n : Int) : Option (((List Int) × Unit) × (Unit)) :=
  chk (apOk [] b 1) <|
  ref03Put.l3 fu (fun nq2 outq2 => 
      chk (apOk outq2 ([IntKind.u8.wrap nq2]) 1) <|
      let t1 := outq2 ++ ([IntKind.u8.wrap nq2])
      some ((t1, ()), (()))) fu n ([] ++ b)

noncomputable def ref03Put.body : Code := Tryd.f27.body.getD .skip
abbrev ref03Put.shl3 : Shp := ⟨[.u, .d (.int .u64), .u, .u, .u, .o 5 (.int .u8), .u, .u, .u, .u, .u, .u, .u, .u, .u, .u, .u, .u, .u, .u, .u, .u, .u, .u, .u, .u], []⟩
abbrev ref03Put.outl3e2 : Shp := ⟨[.u, .d (.int .u64), .u, .u, .u, .o 5 (.int .u8), .u, .u, .u, .u, .u, .u, .u, .u, .u, .u, .u, .u, .u, .u, .u, .u, .u, .u, .u, .u], []⟩
noncomputable def ref03Put.nml3 : Norm := ⟨{ keep := [1, 5], shut := [(1, (.int .u64))], retag := [(5, 5, (.int .u8))], heap := 0, dead := [], cshut := [], cretag := [] }, [(2, { keep := [1, 5], shut := [(1, (.int .u64))], retag := [(5, 5, (.int .u8))], heap := 0, dead := [], cshut := [], cretag := [] })]⟩
noncomputable def ref03Put.con : OCon := { ps := [.dat (.slice (.int .u8)), .dat (.int .u64)], rs := [.own (.int .u8)], f := fun n x => ref03Put n x.1 x.2.1 }
noncomputable def ref03Put.env : Env := { tys := [(24, ⟨(.slice (.int .u8)), 24⟩), (5, ⟨(.int .u8), 1⟩), (23, ⟨(.int .u64), 8⟩)], elems := [(24, 5)], ptrs := [], cons := [], objs := [], loops := [(3, ref03Put.nml3)], cuts := [], globs := globs, base := 0 }
noncomputable def ref03Put.lp (n : Nat) : LP (RT ref03Put.con.rs × BT ref03Put.con.ps) := fun lo κ body nm K s =>
  cond (lo && Nat.beq κ 3)
    (match ref03Put.shl3.dec s with
    | some v => ref03Put.l3 n (fun w0 w1 => K (.exit 0) (ref03Put.outl3e2.enc (w0, w1, ()))) n v.1 v.2.1
    | none => loops n (RT ref03Put.con.rs × BT ref03Put.con.ps) lo κ body nm K s)
    (loops n (RT ref03Put.con.rs × BT ref03Put.con.ps) lo κ body nm K s)
theorem ref03Put.atl3 (n : Nat) (s : St) (K : Ex → St → Option (RT ref03Put.con.rs × BT ref03Put.con.ps)) : (ref03Put.lp n) true 3 (evK ref03Put.env (ref03Put.lp n) n (sub [1, 1, 1, 0, 0, 0] ref03Put.body)) ref03Put.nml3 K s = loops n (RT ref03Put.con.rs × BT ref03Put.con.ps) true 3 (evK ref03Put.env (ref03Put.lp n) n (sub [1, 1, 1, 0, 0, 0] ref03Put.body)) ref03Put.nml3 K s := by
  show (match ref03Put.shl3.dec s with | some v => ref03Put.l3 n (fun w0 w1 => K (.exit 0) (ref03Put.outl3e2.enc (w0, w1, ()))) n v.1 v.2.1 | none => loops n (RT ref03Put.con.rs × BT ref03Put.con.ps) true 3 (evK ref03Put.env (ref03Put.lp n) n (sub [1, 1, 1, 0, 0, 0] ref03Put.body)) ref03Put.nml3 K s) = _
  cases h : ref03Put.shl3.dec s with
  | none => rfl
  | some v =>
    rw [Shp.dec_enc h]
    exact (evLoop_eq (sh := ref03Put.shl3) (body := evK ref03Put.env (ref03Put.lp n) n (sub [1, 1, 1, 0, 0, 0] ref03Put.body)) (nm := ref03Put.nml3) (K := K) (b := fun nx v => ref03Put.b3 n (fun x0 x1 => nx (x0, x1, ())) (fun w0 w1 => K (.exit 0) (ref03Put.outl3e2.enc (w0, w1, ()))) v.1 v.2.1) (l := fun m v => ref03Put.l3 n (fun w0 w1 => K (.exit 0) (ref03Put.outl3e2.enc (w0, w1, ()))) m v.1 v.2.1) (fun _ => rfl) (fun _ _ => rfl) (fun m v => by kernel_rfl) n v).symm
theorem ref03Put.eq (n : Nat) (x : PT ref03Put.con.ps) : evFuncO ref03Put.env Tryd.f27 ref03Put.body ref03Put.con.ps ref03Put.con.rs (ref03Put.lp n) n x = ref03Put.con.f n x := by kernel_rfl
theorem ref03Put.sound : SoundO Tryd.prog globs 27 ref03Put.con :=
  sound_byO (E := ref03Put.env) (c := ref03Put.body) (envOk (G := globs) (lc := []) (lo := []) (envB_spec (by kernel_rfl)) rfl rfl trivial rfl trivial (by kernel_rfl) (by kernel_rfl)) Tryd.func27 (by kernel_rfl) (by kernel_rfl) (by kernel_rfl) ref03Put.lp (l := [(true, sub [1, 1, 1, 0, 0, 0] ref03Put.body, ref03Put.nml3)]) (by kernel_rfl) (fun n => ⟨ref03Put.atl3 n, trivial⟩) ref03Put.eq
noncomputable def ref03PutText (fu : Nat) (b : List Int) (sv : List Int) : Option ((List Int) × Unit) :=
  let t1 := IntKind.u64.wrap (sv.length : Int)
  (ref03Put fu b t1).bind fun r2 =>
  chk (apOk r2.1.1 sv 1) <|
  some (r2.1.1 ++ sv, ())

noncomputable def ref03PutText.body : Code := Tryd.f28.body.getD .skip
noncomputable def ref03PutText.con : Con := { ps := [(.slice (.int .u8)), .str], rs := [(.slice (.int .u8))], f := fun n x => ref03PutText n x.1 x.2.1 }
noncomputable def ref03PutText.env : Env := { tys := [(24, ⟨(.slice (.int .u8)), 24⟩), (9, ⟨.str, 16⟩), (23, ⟨(.int .u64), 8⟩), (3, ⟨(.int .i64), 8⟩), (5, ⟨(.int .u8), 1⟩)], elems := [(24, 5)], ptrs := [], cons := [], objs := [(27, [ref03Put.con])], loops := [], cuts := [], globs := globs, base := 0 }
noncomputable def ref03PutText.lp (n : Nat) : LP (Kd.struct ref03PutText.con.rs).T := fun lo κ body nm K s =>
  loops n (Kd.struct ref03PutText.con.rs).T lo κ body nm K s
theorem ref03PutText.eq (n : Nat) (x : (Kd.struct ref03PutText.con.ps).T) : evFunc ref03PutText.env Tryd.f28 ref03PutText.body ref03PutText.con.ps ref03PutText.con.rs (ref03PutText.lp n) n x = ref03PutText.con.f n x := by kernel_rfl
theorem ref03PutText.sound : Sound Tryd.prog globs 28 ref03PutText.con :=
  sound_by (E := ref03PutText.env) (c := ref03PutText.body) (envOk (G := globs) (lc := []) (lo := [(27, [ref03Put.con])]) (envB_spec (by kernel_rfl)) rfl rfl trivial rfl ⟨⟨⟨ref03Put.sound, trivial⟩, by kernel_rfl⟩, trivial⟩ (by kernel_rfl) (by kernel_rfl)) Tryd.func28 (by kernel_rfl) ref03PutText.lp (l := []) (by kernel_rfl) (fun n => trivial) ref03PutText.eq
noncomputable def ref08Four (fu : Nat) (n : Int) : Option ((List Int) × Unit) :=
  let t1 := IntKind.u32.wrap (Int.tdiv n (16777216 : Int))
  let t2 := IntKind.u32.wrap (Int.tdiv n (65536 : Int))
  let t3 := IntKind.u8.wrap (Int.tmod t2 (256 : Int))
  let t4 := IntKind.u32.wrap (Int.tdiv n (256 : Int))
  let t5 := IntKind.u8.wrap (Int.tmod t4 (256 : Int))
  let t6 := IntKind.u8.wrap (Int.tmod n (256 : Int))
  let t7 := [IntKind.u8.wrap t1, t3, t5, t6]
  some (t7, ())

noncomputable def ref08Four.body : Code := Tryd.f44.body.getD .skip
noncomputable def ref08Four.con : Con := { ps := [(.int .u32)], rs := [(.slice (.int .u8))], f := fun n x => ref08Four n x.1 }
noncomputable def ref08Four.env : Env := { tys := [(24, ⟨(.slice (.int .u8)), 24⟩), (5, ⟨(.int .u8), 1⟩), (22, ⟨(.int .u32), 4⟩)], elems := [(24, 5)], ptrs := [], cons := [], objs := [], loops := [], cuts := [], globs := globs, base := 0 }
noncomputable def ref08Four.lp (n : Nat) : LP (Kd.struct ref08Four.con.rs).T := fun lo κ body nm K s =>
  loops n (Kd.struct ref08Four.con.rs).T lo κ body nm K s
theorem ref08Four.eq (n : Nat) (x : (Kd.struct ref08Four.con.ps).T) : evFunc ref08Four.env Tryd.f44 ref08Four.body ref08Four.con.ps ref08Four.con.rs (ref08Four.lp n) n x = ref08Four.con.f n x := by kernel_rfl
theorem ref08Four.sound : Sound Tryd.prog globs 44 ref08Four.con :=
  sound_by (E := ref08Four.env) (c := ref08Four.body) (envOk (G := globs) (lc := []) (lo := []) (envB_spec (by kernel_rfl)) rfl rfl trivial rfl trivial (by kernel_rfl) (by kernel_rfl)) Tryd.func44 (by kernel_rfl) ref08Four.lp (l := []) (by kernel_rfl) (fun n => trivial) ref08Four.eq
noncomputable def ref01Row.b6 (fu : Nat) (next : Int → (List Int) → Int → Int → Int → Option (Int × Unit)) (k4 : Int → (List Int) → Int → Int → Option (Int × Unit)) (row : Int) (b : List Int) (kv : Int) (v : Int) (vx2 : Int) : Option (Int × Unit) :=
  cond (decide (kv < (8 : Int))) (
    let t1 := Int.tmod row (2 : Int) == (1 : Int)
    let t2 := IntKind.u32.wrap (Int.tdiv row (2 : Int))
    cond t1 (
      let t3 := bXor .u32 t2 (3988292384 : Int)
      let t4 := IntKind.i64.wrap (kv + (1 : Int))
      next t3 b t4 v vx2) (
      let t5 := IntKind.i64.wrap (kv + (1 : Int))
      next t2 b t5 v vx2)) (
    k4 row b v vx2)
noncomputable def ref01Row.l6 (fu : Nat) (k4 : Int → (List Int) → Int → Int → Option (Int × Unit)) : Nat → Int → (List Int) → Int → Int → Int → Option (Int × Unit)
  | 0, _, _, _, _, _ => none
  | m + 1, row, b, kv, v, vx2 => ref01Row.b6 fu (ref01Row.l6 fu k4 m) k4 row b kv v vx2
noncomputable def ref01Row.b2 (fu : Nat) (next : Int → (List Int) → Int → Int → Option (Int × Unit)) (k2 : Int → Option (Int × Unit)) (row : Int) (b : List Int) (v : Int) (vx2 : Int) : Option (Int × Unit) :=
  cond (decide (vx2 < v)) (
    chk (ixOk b vx2) <|
    let e1 := ixL (0 : Int) b vx2
    let t2 := bXor .u32 row (IntKind.u32.wrap e1)
    ref01Row.l6 fu (fun rowq4 bq4 vq4 vq4x2 => 
        let t3 := IntKind.i64.wrap (vq4x2 + (1 : Int))
        next rowq4 bq4 vq4 t3) fu t2 b (0 : Int) v vx2) (
    k2 row)
noncomputable def ref01Row.l2 (fu : Nat) (k2 : Int → Option (Int × Unit)) : Nat → Int → (List Int) → Int → Int → Option (Int × Unit)
  | 0, _, _, _, _ => none
  | m + 1, row, b, v, vx2 => ref01Row.b2 fu (ref01Row.l2 fu k2 m) k2 row b v vx2
noncomputable def ref01Row (fu : Nat) (row : Int) (b : List Int) : Option (Int × Unit) :=
  ref01Row.l2 fu (fun rowq2 => 
      some (rowq2, ())) fu row b (b.length : Int) (0 : Int)

noncomputable def ref01Row.body : Code := Tryd.f56.body.getD .skip
abbrev ref01Row.shl6 : Shp := ⟨[.d (.int .u32), .d (.slice (.int .u8)), .u, .u, .u, .u, .d (.int .i64), .u, .u, .d (.int .i64), .d (.int .i64), .u, .u, .u, .u, .u, .u, .u, .u, .u, .u, .u, .u, .u, .u, .u, .u, .u, .u, .u, .u, .u, .u, .u], []⟩
abbrev ref01Row.outl6e4 : Shp := ⟨[.d (.int .u32), .d (.slice (.int .u8)), .u, .u, .u, .u, .u, .u, .u, .d (.int .i64), .d (.int .i64), .u, .u, .u, .u, .u, .u, .u, .u, .u, .u, .u, .u, .u, .u, .u, .u, .u, .u, .u, .u, .u, .u, .u], []⟩
noncomputable def ref01Row.nml6 : Norm := ⟨{ keep := [0, 1, 6, 9, 10], shut := [(0, (.int .u32)), (1, (.slice (.int .u8))), (6, (.int .i64)), (9, (.int .i64)), (10, (.int .i64))], retag := [], heap := 0, dead := [], cshut := [], cretag := [] }, [(4, { keep := [0, 1, 9, 10], shut := [(0, (.int .u32)), (1, (.slice (.int .u8))), (9, (.int .i64)), (10, (.int .i64))], retag := [], heap := 0, dead := [], cshut := [], cretag := [] })]⟩
abbrev ref01Row.shl2 : Shp := ⟨[.d (.int .u32), .d (.slice (.int .u8)), .u, .u, .u, .u, .u, .u, .u, .d (.int .i64), .d (.int .i64), .u, .u, .u, .u, .u, .u, .u, .u, .u, .u, .u, .u, .u, .u, .u, .u, .u, .u, .u, .u, .u, .u, .u], []⟩
abbrev ref01Row.outl2e2 : Shp := ⟨[.d (.int .u32), .u, .u, .u, .u, .u, .u, .u, .u, .u, .u, .u, .u, .u, .u, .u, .u, .u, .u, .u, .u, .u, .u, .u, .u, .u, .u, .u, .u, .u, .u, .u, .u, .u], []⟩
noncomputable def ref01Row.nml2 : Norm := ⟨{ keep := [0, 1, 9, 10], shut := [(0, (.int .u32)), (1, (.slice (.int .u8))), (9, (.int .i64)), (10, (.int .i64))], retag := [], heap := 0, dead := [], cshut := [], cretag := [] }, [(2, { keep := [0], shut := [(0, (.int .u32))], retag := [], heap := 0, dead := [], cshut := [], cretag := [] })]⟩
noncomputable def ref01Row.con : Con := { ps := [(.int .u32), (.slice (.int .u8))], rs := [(.int .u32)], f := fun n x => ref01Row n x.1 x.2.1 }
noncomputable def ref01Row.env : Env := { tys := [(22, ⟨(.int .u32), 4⟩), (5, ⟨(.int .u8), 1⟩), (3, ⟨(.int .i64), 8⟩)], elems := [(24, 5)], ptrs := [], cons := [], objs := [], loops := [(6, ref01Row.nml6), (2, ref01Row.nml2)], cuts := [], globs := globs, base := 0 }
noncomputable def ref01Row.lp (n : Nat) : LP (Kd.struct ref01Row.con.rs).T := fun lo κ body nm K s =>
  cond (lo && Nat.beq κ 6)
    (match ref01Row.shl6.dec s with
    | some v => ref01Row.l6 n (fun w0 w1 w2 w3 => K (.exit 2) (ref01Row.outl6e4.enc (w0, w1, w2, w3, ()))) n v.1 v.2.1 v.2.2.1 v.2.2.2.1 v.2.2.2.2.1
    | none => loops n (Kd.struct ref01Row.con.rs).T lo κ body nm K s)
    (cond (lo && Nat.beq κ 2)
    (match ref01Row.shl2.dec s with
    | some v => ref01Row.l2 n (fun w0 => K (.exit 0) (ref01Row.outl2e2.enc (w0, ()))) n v.1 v.2.1 v.2.2.1 v.2.2.2.1
    | none => loops n (Kd.struct ref01Row.con.rs).T lo κ body nm K s)
    (loops n (Kd.struct ref01Row.con.rs).T lo κ body nm K s))
theorem ref01Row.atl6 (n : Nat) (s : St) (K : Ex → St → Option (Kd.struct ref01Row.con.rs).T) : (ref01Row.lp n) true 6 (evK ref01Row.env (ref01Row.lp n) n (sub [1, 0, 1, 0, 0, 1, 1, 0, 0, 1, 1, 1, 0, 0] ref01Row.body)) ref01Row.nml6 K s = loops n (Kd.struct ref01Row.con.rs).T true 6 (evK ref01Row.env (ref01Row.lp n) n (sub [1, 0, 1, 0, 0, 1, 1, 0, 0, 1, 1, 1, 0, 0] ref01Row.body)) ref01Row.nml6 K s := by
  show (match ref01Row.shl6.dec s with | some v => ref01Row.l6 n (fun w0 w1 w2 w3 => K (.exit 2) (ref01Row.outl6e4.enc (w0, w1, w2, w3, ()))) n v.1 v.2.1 v.2.2.1 v.2.2.2.1 v.2.2.2.2.1 | none => loops n (Kd.struct ref01Row.con.rs).T true 6 (evK ref01Row.env (ref01Row.lp n) n (sub [1, 0, 1, 0, 0, 1, 1, 0, 0, 1, 1, 1, 0, 0] ref01Row.body)) ref01Row.nml6 K s) = _
  cases h : ref01Row.shl6.dec s with
  | none => rfl
  | some v =>
    rw [Shp.dec_enc h]
    exact (evLoop_eq (sh := ref01Row.shl6) (body := evK ref01Row.env (ref01Row.lp n) n (sub [1, 0, 1, 0, 0, 1, 1, 0, 0, 1, 1, 1, 0, 0] ref01Row.body)) (nm := ref01Row.nml6) (K := K) (b := fun nx v => ref01Row.b6 n (fun x0 x1 x2 x3 x4 => nx (x0, x1, x2, x3, x4, ())) (fun w0 w1 w2 w3 => K (.exit 2) (ref01Row.outl6e4.enc (w0, w1, w2, w3, ()))) v.1 v.2.1 v.2.2.1 v.2.2.2.1 v.2.2.2.2.1) (l := fun m v => ref01Row.l6 n (fun w0 w1 w2 w3 => K (.exit 2) (ref01Row.outl6e4.enc (w0, w1, w2, w3, ()))) m v.1 v.2.1 v.2.2.1 v.2.2.2.1 v.2.2.2.2.1) (fun _ => rfl) (fun _ _ => rfl) (fun m v => by kernel_rfl) n v).symm
theorem ref01Row.atl2 (n : Nat) (s : St) (K : Ex → St → Option (Kd.struct ref01Row.con.rs).T) : (ref01Row.lp n) true 2 (evK ref01Row.env (ref01Row.lp n) n (sub [1, 0, 1, 0, 0] ref01Row.body)) ref01Row.nml2 K s = loops n (Kd.struct ref01Row.con.rs).T true 2 (evK ref01Row.env (ref01Row.lp n) n (sub [1, 0, 1, 0, 0] ref01Row.body)) ref01Row.nml2 K s := by
  show (match ref01Row.shl2.dec s with | some v => ref01Row.l2 n (fun w0 => K (.exit 0) (ref01Row.outl2e2.enc (w0, ()))) n v.1 v.2.1 v.2.2.1 v.2.2.2.1 | none => loops n (Kd.struct ref01Row.con.rs).T true 2 (evK ref01Row.env (ref01Row.lp n) n (sub [1, 0, 1, 0, 0] ref01Row.body)) ref01Row.nml2 K s) = _
  cases h : ref01Row.shl2.dec s with
  | none => rfl
  | some v =>
    rw [Shp.dec_enc h]
    exact (evLoop_eq (sh := ref01Row.shl2) (body := evK ref01Row.env (ref01Row.lp n) n (sub [1, 0, 1, 0, 0] ref01Row.body)) (nm := ref01Row.nml2) (K := K) (b := fun nx v => ref01Row.b2 n (fun x0 x1 x2 x3 => nx (x0, x1, x2, x3, ())) (fun w0 => K (.exit 0) (ref01Row.outl2e2.enc (w0, ()))) v.1 v.2.1 v.2.2.1 v.2.2.2.1) (l := fun m v => ref01Row.l2 n (fun w0 => K (.exit 0) (ref01Row.outl2e2.enc (w0, ()))) m v.1 v.2.1 v.2.2.1 v.2.2.2.1) (fun _ => rfl) (fun _ _ => rfl) (fun m v => by kernel_rfl) n v).symm
theorem ref01Row.eq (n : Nat) (x : (Kd.struct ref01Row.con.ps).T) : evFunc ref01Row.env Tryd.f56 ref01Row.body ref01Row.con.ps ref01Row.con.rs (ref01Row.lp n) n x = ref01Row.con.f n x := by kernel_rfl
theorem ref01Row.sound : Sound Tryd.prog globs 56 ref01Row.con :=
  sound_by (E := ref01Row.env) (c := ref01Row.body) (envOk (G := globs) (lc := []) (lo := []) (envB_spec (by kernel_rfl)) rfl rfl trivial rfl trivial (by kernel_rfl) (by kernel_rfl)) Tryd.func56 (by kernel_rfl) ref01Row.lp (l := [(true, sub [1, 0, 1, 0, 0, 1, 1, 0, 0, 1, 1, 1, 0, 0] ref01Row.body, ref01Row.nml6), (true, sub [1, 0, 1, 0, 0] ref01Row.body, ref01Row.nml2)]) (by kernel_rfl) (fun n => ⟨ref01Row.atl6 n, ⟨ref01Row.atl2 n, trivial⟩⟩) ref01Row.eq
noncomputable def ref01Sum (fu : Nat) (b : List Int) : Option (Int × Unit) :=
  (ref01Row fu (4294967295 : Int) b).bind fun r1 =>
  let t2 := bXor .u32 r1.1 (4294967295 : Int)
  some (t2, ())

noncomputable def ref01Sum.body : Code := Tryd.f45.body.getD .skip
noncomputable def ref01Sum.con : Con := { ps := [(.slice (.int .u8))], rs := [(.int .u32)], f := fun n x => ref01Sum n x.1 }
noncomputable def ref01Sum.env : Env := { tys := [(22, ⟨(.int .u32), 4⟩)], elems := [], ptrs := [], cons := [(56, ref01Row.con)], objs := [], loops := [], cuts := [], globs := globs, base := 0 }
noncomputable def ref01Sum.lp (n : Nat) : LP (Kd.struct ref01Sum.con.rs).T := fun lo κ body nm K s =>
  loops n (Kd.struct ref01Sum.con.rs).T lo κ body nm K s
theorem ref01Sum.eq (n : Nat) (x : (Kd.struct ref01Sum.con.ps).T) : evFunc ref01Sum.env Tryd.f45 ref01Sum.body ref01Sum.con.ps ref01Sum.con.rs (ref01Sum.lp n) n x = ref01Sum.con.f n x := by kernel_rfl
theorem ref01Sum.sound : Sound Tryd.prog globs 45 ref01Sum.con :=
  sound_by (E := ref01Sum.env) (c := ref01Sum.body) (envOk (G := globs) (lc := [(56, ref01Row.con)]) (lo := []) (envB_spec (by kernel_rfl)) rfl rfl ⟨.inl ⟨ref01Row.sound, by kernel_rfl⟩, trivial⟩ rfl trivial (by kernel_rfl) (by kernel_rfl)) Tryd.func45 (by kernel_rfl) ref01Sum.lp (l := []) (by kernel_rfl) (fun n => trivial) ref01Sum.eq
noncomputable def ref08Put (fu : Nat) (b : List Int) (record : List Int) : Option ((List Int) × Int × Unit) :=
  let t1 := decide ((record.length : Int) > (65536 : Int))
  cond t1 (
    some ([], (4 : Int), ())) (
    let t2 := IntKind.u32.wrap (record.length : Int)
    (ref08Four fu t2).bind fun r3 =>
    chk (apOk [] r3.1 1) <|
    chk (apOk ([] ++ r3.1) record 1) <|
    chk (apOk [] b 1) <|
    chk (apOk ([] ++ b) r3.1 1) <|
    (ref01Sum fu (([] ++ r3.1) ++ record)).bind fun r4 =>
    (ref08Four fu r4.1).bind fun r5 =>
    chk (apOk (([] ++ b) ++ r3.1) r5.1 1) <|
    let t6 := (([] ++ b) ++ r3.1) ++ r5.1
    chk (apOk t6 record 1) <|
    some (t6 ++ record, (0 : Int), ()))

noncomputable def ref08Put.body : Code := Tryd.f29.body.getD .skip
noncomputable def ref08Put.con : Con := { ps := [(.slice (.int .u8)), (.slice (.int .u8))], rs := [(.slice (.int .u8)), (.int .i64)], f := fun n x => ref08Put n x.1 x.2.1 }
noncomputable def ref08Put.env : Env := { tys := [(24, ⟨(.slice (.int .u8)), 24⟩), (3, ⟨(.int .i64), 8⟩), (5, ⟨(.int .u8), 1⟩), (22, ⟨(.int .u32), 4⟩)], elems := [(24, 5)], ptrs := [], cons := [(44, ref08Four.con), (45, ref01Sum.con)], objs := [], loops := [], cuts := [], globs := globs, base := 0 }
noncomputable def ref08Put.lp (n : Nat) : LP (Kd.struct ref08Put.con.rs).T := fun lo κ body nm K s =>
  loops n (Kd.struct ref08Put.con.rs).T lo κ body nm K s
theorem ref08Put.eq (n : Nat) (x : (Kd.struct ref08Put.con.ps).T) : evFunc ref08Put.env Tryd.f29 ref08Put.body ref08Put.con.ps ref08Put.con.rs (ref08Put.lp n) n x = ref08Put.con.f n x := by kernel_rfl
theorem ref08Put.sound : Sound Tryd.prog globs 29 ref08Put.con :=
  sound_by (E := ref08Put.env) (c := ref08Put.body) (envOk (G := globs) (lc := [(44, ref08Four.con), (45, ref01Sum.con)]) (lo := []) (envB_spec (by kernel_rfl)) rfl rfl ⟨.inl ⟨ref08Four.sound, by kernel_rfl⟩, ⟨.inl ⟨ref01Sum.sound, by kernel_rfl⟩, trivial⟩⟩ rfl trivial (by kernel_rfl) (by kernel_rfl)) Tryd.func29 (by kernel_rfl) ref08Put.lp (l := []) (by kernel_rfl) (fun n => trivial) ref08Put.eq
noncomputable def ref20Put.b8 (fu : Nat) (next : (List Int) → (List Bool) → (List Int) → (List Int) → Int → Int → S0 → Option ((List Int) × Int × Unit)) (k1 : (List Int) → Int → Option ((List Int) × Int × Unit)) (k2 : (List Int) → (List Bool) → (List Int) → S0 → Option ((List Int) × Int × Unit)) (nonev : List Int) (has : List Bool) (l : List Int) (b : List Int) (v : Int) (vx2 : Int) (b0 : S0) : Option ((List Int) × Int × Unit) :=
  cond (decide (vx2 < v)) (
    chk (ixOk has vx2) <|
    let e1 := ixL false has vx2
    cond e1 (
      chk (ixOk l vx2) <|
      let e2 := ixL (0 : Int) l vx2
      (ref03PutDat fu b e2).bind fun r3 =>
      let t4 := IntKind.i64.wrap (vx2 + (1 : Int))
      next nonev has l r3.1 v t4 b0) (
      chk (ixOk l vx2) <|
      let e5 := ixL (0 : Int) l vx2
      cond (e5 != (0 : Int)) (
        k1 nonev (1 : Int)) (
        let t6 := IntKind.i64.wrap (vx2 + (1 : Int))
        next nonev has l b v t6 b0))) (
    k2 nonev has b b0)
noncomputable def ref20Put.l8 (fu : Nat) (k1 : (List Int) → Int → Option ((List Int) × Int × Unit)) (k2 : (List Int) → (List Bool) → (List Int) → S0 → Option ((List Int) × Int × Unit)) : Nat → (List Int) → (List Bool) → (List Int) → (List Int) → Int → Int → S0 → Option ((List Int) × Int × Unit)
  | 0, _, _, _, _, _, _, _ => none
  | m + 1, nonev, has, l, b, v, vx2, b0 => ref20Put.b8 fu (ref20Put.l8 fu k1 k2 m) k1 k2 nonev has l b v vx2 b0
noncomputable def ref20Put.j19 (fu : Nat) (k1 : (List Int) → Int → Option ((List Int) × Int × Unit)) (nonev : List Int) (b : List Int) : Option ((List Int) × Int × Unit) :=
  let t1 := decide ((b.length : Int) > (8192 : Int))
  cond t1 (
    k1 nonev (4 : Int)) (
    (ref08Put fu [] b).bind fun r2 =>
    k1 r2.1 r2.2.1)
noncomputable def ref20Put (fu : Nat) (f : S0) : Option ((List Int) × Int × Unit) :=
  (ref20Fields fu f.1).bind fun r1 =>
  cond (!r1.2.1) (
    some ([], (1 : Int), ())) (
    let t2 := [IntKind.u64.wrap f.2.1, IntKind.u64.wrap f.2.2.1, f.2.2.2.1, f.2.2.2.2.1]
    ref20Put.l8 fu (fun vq3 vq3x2 => 
        some (vq3, vq3x2, ())) (fun nonevq4 hasq4 bq4 b0q4 => 
        chk (ixOk hasq4 (4 : Int)) <|
        let e3 := ixL false hasq4 (4 : Int)
        cond e3 (
          (ref03PutText fu bq4 b0q4.2.2.2.2.2.1).bind fun r4 =>
          ref20Put.j19 fu (fun vq5 vq5x2 => 
              some (vq5, vq5x2, ())) nonevq4 r4.1) (
          let t5 := (b0q4.2.2.2.2.2.1.length : Int)
          cond (decide (t5 > (0 : Int))) (
            some (nonevq4, (1 : Int), ())) (
            ref20Put.j19 fu (fun vq6 vq6x2 => 
                some (vq6, vq6x2, ())) nonevq4 bq4))) fu [] r1.1 t2 ([f.1]) (t2.length : Int) (0 : Int) f)

noncomputable def ref20Put.body : Code := Tryd.f12.body.getD .skip
abbrev ref20Put.shl8 : Shp := ⟨[.u, .p 0 0, .u, .u, .o 4 (.int .u8), .d (.slice .bool), .u, .o 7 (.int .u64), .d (.slice (.int .u8)), .u, .u, .u, .u, .u, .u, .u, .u, .u, .u, .u, .u, .u, .u, .u, .u, .u, .u, .u, .u, .u, .u, .u, .u, .u, .u, .d (.int .i64), .d (.int .i64), .u, .u, .u, .u, .u, .u, .u, .u, .u, .u, .u, .u, .u, .u, .u, .u, .u, .u, .u, .u, .u, .u, .u, .u, .u, .u, .u, .u, .u, .u, .u, .u, .u, .u, .u, .u, .u, .u, .u, .u, .u], [.c [.g kS0]]⟩
abbrev ref20Put.outl8e1 : Shp := ⟨[.u, .u, .o 2 (.int .u8), .d (.int .i64), .u, .u, .u, .u, .u, .u, .u, .u, .u, .u, .u, .u, .u, .u, .u, .u, .u, .u, .u, .u, .u, .u, .u, .u, .u, .u, .u, .u, .u, .u, .u, .u, .u, .u, .u, .u, .u, .u, .u, .u, .u, .u, .u, .u, .u, .u, .u, .u, .u, .u, .u, .u, .u, .u, .u, .u, .u, .u, .u, .u, .u, .u, .u, .u, .u, .u, .u, .u, .u, .u, .u, .u, .u, .u], []⟩
abbrev ref20Put.outl8e2 : Shp := ⟨[.u, .p 0 0, .u, .u, .o 4 (.int .u8), .d (.slice .bool), .u, .u, .d (.slice (.int .u8)), .u, .u, .u, .u, .u, .u, .u, .u, .u, .u, .u, .u, .u, .u, .u, .u, .u, .u, .u, .u, .u, .u, .u, .u, .u, .u, .u, .u, .u, .u, .u, .u, .u, .u, .u, .u, .u, .u, .u, .u, .u, .u, .u, .u, .u, .u, .u, .u, .u, .u, .u, .u, .u, .u, .u, .u, .u, .u, .u, .u, .u, .u, .u, .u, .u, .u, .u, .u, .u], [.c [.g kS0]]⟩
noncomputable def ref20Put.nml8 : Norm := ⟨{ keep := [1, 4, 5, 7, 8, 35, 36], shut := [(5, (.slice .bool)), (8, (.slice (.int .u8))), (35, (.int .i64)), (36, (.int .i64))], retag := [(4, 4, (.int .u8)), (7, 7, (.int .u64))], heap := 1, dead := [], cshut := [(0, 0, (.int .u8)), (0, 1, (.int .u32)), (0, 2, (.int .u32)), (0, 3, (.int .u64)), (0, 4, (.int .u64)), (0, 5, (.slice (.int .u8)))], cretag := [] }, [(1, { keep := [2, 3], shut := [(3, (.int .i64))], retag := [(2, 2, (.int .u8))], heap := 0, dead := [], cshut := [], cretag := [] }), (2, { keep := [1, 4, 5, 8], shut := [(5, (.slice .bool)), (8, (.slice (.int .u8)))], retag := [(4, 4, (.int .u8))], heap := 1, dead := [], cshut := [(0, 0, (.int .u8)), (0, 1, (.int .u32)), (0, 2, (.int .u32)), (0, 3, (.int .u64)), (0, 4, (.int .u64)), (0, 5, (.slice (.int .u8)))], cretag := [] })]⟩
abbrev ref20Put.shj19 : Shp := ⟨[.u, .u, .u, .u, .o 4 (.int .u8), .u, .u, .u, .d (.slice (.int .u8)), .u, .u, .u, .u, .u, .u, .u, .u, .u, .u, .u, .u, .u, .u, .u, .u, .u, .u, .u, .u, .u, .u, .u, .u, .u, .u, .u, .u, .u, .u, .u, .u, .u, .u, .u, .u, .u, .u, .u, .u, .u, .u, .u, .u, .u, .u, .u, .u, .u, .u, .u, .u, .u, .u, .u, .u, .u, .u, .u, .u, .u, .u, .u, .u, .u, .u, .u, .u, .u], []⟩
abbrev ref20Put.outj19e1 : Shp := ⟨[.u, .u, .d (.slice (.int .u8)), .d (.int .i64), .u, .u, .u, .u, .u, .u, .u, .u, .u, .u, .u, .u, .u, .u, .u, .u, .u, .u, .u, .u, .u, .u, .u, .u, .u, .u, .u, .u, .u, .u, .u, .u, .u, .u, .u, .u, .u, .u, .u, .u, .u, .u, .u, .u, .u, .u, .u, .u, .u, .u, .u, .u, .u, .u, .u, .u, .u, .u, .u, .u, .u, .u, .u, .u, .u, .u, .u, .u, .u, .u, .u, .u, .u, .u], []⟩
noncomputable def ref20Put.nmj19 : Norm := ⟨{ keep := [4, 8], shut := [(8, (.slice (.int .u8)))], retag := [(4, 4, (.int .u8))], heap := 0, dead := [], cshut := [], cretag := [] }, [(1, { keep := [2, 3], shut := [(2, (.slice (.int .u8))), (3, (.int .i64))], retag := [], heap := 0, dead := [], cshut := [], cretag := [] })]⟩
noncomputable def ref20Put.con : Con := { ps := [kS0], rs := [(.slice (.int .u8)), (.int .i64)], f := fun n x => ref20Put n x.1 }
noncomputable def ref20Put.env : Env := { tys := [(26, ⟨kS0, 56⟩), (24, ⟨(.slice (.int .u8)), 24⟩), (3, ⟨(.int .i64), 8⟩), (5, ⟨(.int .u8), 1⟩), (22, ⟨(.int .u32), 4⟩), (23, ⟨(.int .u64), 8⟩), (4, ⟨.bool, 1⟩), (9, ⟨.str, 16⟩)], elems := [(24, 5), (58, 23), (55, 4)], ptrs := [], cons := [(26, ref20Fields.con), (27, ref03PutDat.con), (28, ref03PutText.con), (29, ref08Put.con)], objs := [], loops := [(8, ref20Put.nml8)], cuts := [(19, ref20Put.nmj19)], globs := globs, base := 0 }
noncomputable def ref20Put.lp (n : Nat) : LP (Kd.struct ref20Put.con.rs).T := fun lo κ body nm K s =>
  cond (lo && Nat.beq κ 8)
    (match ref20Put.shl8.dec s with
    | some v => ref20Put.l8 n (fun w0 w1 => K .ret (ref20Put.outl8e1.enc (w0, w1, ()))) (fun w0 w1 w2 w3 => K (.exit 0) (ref20Put.outl8e2.enc (w0, w1, w2, w3, ()))) n v.1 v.2.1 v.2.2.1 v.2.2.2.1 v.2.2.2.2.1 v.2.2.2.2.2.1 v.2.2.2.2.2.2.1
    | none => loops n (Kd.struct ref20Put.con.rs).T lo κ body nm K s)
    (cond (!lo && Nat.beq κ 19)
    (match ref20Put.shj19.dec s with
    | some v => ref20Put.j19 n (fun w0 w1 => K .ret (ref20Put.outj19e1.enc (w0, w1, ()))) v.1 v.2.1
    | none => loops n (Kd.struct ref20Put.con.rs).T lo κ body nm K s)
    (loops n (Kd.struct ref20Put.con.rs).T lo κ body nm K s))
theorem ref20Put.atl8 (n : Nat) (s : St) (K : Ex → St → Option (Kd.struct ref20Put.con.rs).T) : (ref20Put.lp n) true 8 (evK ref20Put.env (ref20Put.lp n) n (sub [1, 1, 1, 1, 1, 1, 0, 1, 0, 0] ref20Put.body)) ref20Put.nml8 K s = loops n (Kd.struct ref20Put.con.rs).T true 8 (evK ref20Put.env (ref20Put.lp n) n (sub [1, 1, 1, 1, 1, 1, 0, 1, 0, 0] ref20Put.body)) ref20Put.nml8 K s := by
  show (match ref20Put.shl8.dec s with | some v => ref20Put.l8 n (fun w0 w1 => K .ret (ref20Put.outl8e1.enc (w0, w1, ()))) (fun w0 w1 w2 w3 => K (.exit 0) (ref20Put.outl8e2.enc (w0, w1, w2, w3, ()))) n v.1 v.2.1 v.2.2.1 v.2.2.2.1 v.2.2.2.2.1 v.2.2.2.2.2.1 v.2.2.2.2.2.2.1 | none => loops n (Kd.struct ref20Put.con.rs).T true 8 (evK ref20Put.env (ref20Put.lp n) n (sub [1, 1, 1, 1, 1, 1, 0, 1, 0, 0] ref20Put.body)) ref20Put.nml8 K s) = _
  cases h : ref20Put.shl8.dec s with
  | none => rfl
  | some v =>
    rw [Shp.dec_enc h]
    exact (evLoop_eq (sh := ref20Put.shl8) (body := evK ref20Put.env (ref20Put.lp n) n (sub [1, 1, 1, 1, 1, 1, 0, 1, 0, 0] ref20Put.body)) (nm := ref20Put.nml8) (K := K) (b := fun nx v => ref20Put.b8 n (fun x0 x1 x2 x3 x4 x5 x6 => nx (x0, x1, x2, x3, x4, x5, x6, ())) (fun w0 w1 => K .ret (ref20Put.outl8e1.enc (w0, w1, ()))) (fun w0 w1 w2 w3 => K (.exit 0) (ref20Put.outl8e2.enc (w0, w1, w2, w3, ()))) v.1 v.2.1 v.2.2.1 v.2.2.2.1 v.2.2.2.2.1 v.2.2.2.2.2.1 v.2.2.2.2.2.2.1) (l := fun m v => ref20Put.l8 n (fun w0 w1 => K .ret (ref20Put.outl8e1.enc (w0, w1, ()))) (fun w0 w1 w2 w3 => K (.exit 0) (ref20Put.outl8e2.enc (w0, w1, w2, w3, ()))) m v.1 v.2.1 v.2.2.1 v.2.2.2.1 v.2.2.2.2.1 v.2.2.2.2.2.1 v.2.2.2.2.2.2.1) (fun _ => rfl) (fun _ _ => rfl) (fun m v => by kernel_rfl) n v).symm
theorem ref20Put.atj19 (n : Nat) (s : St) (K : Ex → St → Option (Kd.struct ref20Put.con.rs).T) : (ref20Put.lp n) false 19 (evK ref20Put.env (ref20Put.lp n) n (sub [1, 1, 1, 1, 1, 1, 1, 1] ref20Put.body)) ref20Put.nmj19 K s = loops n (Kd.struct ref20Put.con.rs).T false 19 (evK ref20Put.env (ref20Put.lp n) n (sub [1, 1, 1, 1, 1, 1, 1, 1] ref20Put.body)) ref20Put.nmj19 K s := by
  show (match ref20Put.shj19.dec s with | some v => ref20Put.j19 n (fun w0 w1 => K .ret (ref20Put.outj19e1.enc (w0, w1, ()))) v.1 v.2.1 | none => loops n (Kd.struct ref20Put.con.rs).T false 19 (evK ref20Put.env (ref20Put.lp n) n (sub [1, 1, 1, 1, 1, 1, 1, 1] ref20Put.body)) ref20Put.nmj19 K s) = _
  cases h : ref20Put.shj19.dec s with
  | none => rfl
  | some v =>
    rw [Shp.dec_enc h]
    kernel_rfl
theorem ref20Put.eq (n : Nat) (x : (Kd.struct ref20Put.con.ps).T) : evFunc ref20Put.env Tryd.f12 ref20Put.body ref20Put.con.ps ref20Put.con.rs (ref20Put.lp n) n x = ref20Put.con.f n x := by kernel_rfl
theorem ref20Put.sound : Sound Tryd.prog globs 12 ref20Put.con :=
  sound_by (E := ref20Put.env) (c := ref20Put.body) (envOk (G := globs) (lc := [(26, ref20Fields.con), (27, ref03PutDat.con), (28, ref03PutText.con), (29, ref08Put.con)]) (lo := []) (envB_spec (by kernel_rfl)) rfl rfl ⟨.inl ⟨ref20Fields.sound, by kernel_rfl⟩, ⟨.inl ⟨ref03PutDat.sound, by kernel_rfl⟩, ⟨.inl ⟨ref03PutText.sound, by kernel_rfl⟩, ⟨.inl ⟨ref08Put.sound, by kernel_rfl⟩, trivial⟩⟩⟩⟩ rfl trivial (by kernel_rfl) (by kernel_rfl)) Tryd.func12 (by kernel_rfl) ref20Put.lp (l := [(true, sub [1, 1, 1, 1, 1, 1, 0, 1, 0, 0] ref20Put.body, ref20Put.nml8), (false, sub [1, 1, 1, 1, 1, 1, 1, 1] ref20Put.body, ref20Put.nmj19)]) (by kernel_rfl) (fun n => ⟨ref20Put.atl8 n, ⟨ref20Put.atj19 n, trivial⟩⟩) ref20Put.eq
noncomputable def streamStreamBreaks (fu : Nat) (sv : O1) (ev : Int) : Option ((Int × Unit) × (O1 × Unit)) :=
  some ((ev, ()), (([], ev, ()), ()))

noncomputable def streamStreamBreaks.body : Code := Tryd.f34.body.getD .skip
noncomputable def streamStreamBreaks.con : OCon := { ps := [.obj kO1, .dat (.int .i64)], rs := [.dat (.int .i64)], f := fun n x => streamStreamBreaks n x.1 x.2.1 }
noncomputable def streamStreamBreaks.env : Env := { tys := [(29, ⟨(.int .i64), 8⟩), (67, ⟨kS3, 32⟩), (24, ⟨(.slice (.int .u8)), 24⟩)], elems := [], ptrs := [], cons := [], objs := [], loops := [], cuts := [], globs := globs, base := 1 }
noncomputable def streamStreamBreaks.lp (n : Nat) : LP (RT streamStreamBreaks.con.rs × BT streamStreamBreaks.con.ps) := fun lo κ body nm K s =>
  loops n (RT streamStreamBreaks.con.rs × BT streamStreamBreaks.con.ps) lo κ body nm K s
theorem streamStreamBreaks.eq (n : Nat) (x : PT streamStreamBreaks.con.ps) : evFuncO streamStreamBreaks.env Tryd.f34 streamStreamBreaks.body streamStreamBreaks.con.ps streamStreamBreaks.con.rs (streamStreamBreaks.lp n) n x = streamStreamBreaks.con.f n x := by kernel_rfl
theorem streamStreamBreaks.sound : SoundO Tryd.prog globs 34 streamStreamBreaks.con :=
  sound_byO (E := streamStreamBreaks.env) (c := streamStreamBreaks.body) (envOk (G := globs) (lc := []) (lo := []) (envB_spec (by kernel_rfl)) rfl rfl trivial rfl trivial (by kernel_rfl) (by kernel_rfl)) Tryd.func34 (by kernel_rfl) (by kernel_rfl) (by kernel_rfl) streamStreamBreaks.lp (l := []) (by kernel_rfl) (fun n => trivial) streamStreamBreaks.eq
noncomputable def streamLength (fu : Nat) (b : List Int) : Option (Int × Unit) :=
  chk (ixOk b (0 : Int)) <|
  let e1 := ixL (0 : Int) b (0 : Int)
  let t2 := sShl .i64 (IntKind.i64.wrap e1) (24 : Int)
  chk (ixOk b (1 : Int)) <|
  let e3 := ixL (0 : Int) b (1 : Int)
  let t4 := sShl .i64 (IntKind.i64.wrap e3) (16 : Int)
  chk (ixOk b (2 : Int)) <|
  let e5 := ixL (0 : Int) b (2 : Int)
  let t6 := sShl .i64 (IntKind.i64.wrap e5) (8 : Int)
  let t7 := bOr .i64 (bOr .i64 t2 t4) t6
  chk (ixOk b (3 : Int)) <|
  let e8 := ixL (0 : Int) b (3 : Int)
  let t9 := bOr .i64 t7 (IntKind.i64.wrap e8)
  some (t9, ())

noncomputable def streamLength.body : Code := Tryd.f52.body.getD .skip
noncomputable def streamLength.con : Con := { ps := [(.slice (.int .u8))], rs := [(.int .i64)], f := fun n x => streamLength n x.1 }
noncomputable def streamLength.env : Env := { tys := [(3, ⟨(.int .i64), 8⟩), (5, ⟨(.int .u8), 1⟩)], elems := [(24, 5)], ptrs := [], cons := [], objs := [], loops := [], cuts := [], globs := globs, base := 0 }
noncomputable def streamLength.lp (n : Nat) : LP (Kd.struct streamLength.con.rs).T := fun lo κ body nm K s =>
  loops n (Kd.struct streamLength.con.rs).T lo κ body nm K s
theorem streamLength.eq (n : Nat) (x : (Kd.struct streamLength.con.ps).T) : evFunc streamLength.env Tryd.f52 streamLength.body streamLength.con.ps streamLength.con.rs (streamLength.lp n) n x = streamLength.con.f n x := by kernel_rfl
theorem streamLength.sound : Sound Tryd.prog globs 52 streamLength.con :=
  sound_by (E := streamLength.env) (c := streamLength.body) (envOk (G := globs) (lc := []) (lo := []) (envB_spec (by kernel_rfl)) rfl rfl trivial rfl trivial (by kernel_rfl) (by kernel_rfl)) Tryd.func52 (by kernel_rfl) streamLength.lp (l := []) (by kernel_rfl) (fun n => trivial) streamLength.eq
noncomputable def recGetF46 (fu : Nat) (b : List Int) : Option (Int × Unit) :=
  chk (ixOk b (0 : Int)) <|
  let e1 := ixL (0 : Int) b (0 : Int)
  let t2 := sShl .u32 (IntKind.u32.wrap e1) (24 : Int)
  chk (ixOk b (1 : Int)) <|
  let e3 := ixL (0 : Int) b (1 : Int)
  let t4 := sShl .u32 (IntKind.u32.wrap e3) (16 : Int)
  chk (ixOk b (2 : Int)) <|
  let e5 := ixL (0 : Int) b (2 : Int)
  let t6 := sShl .u32 (IntKind.u32.wrap e5) (8 : Int)
  let t7 := bOr .u32 (bOr .u32 t2 t4) t6
  chk (ixOk b (3 : Int)) <|
  let e8 := ixL (0 : Int) b (3 : Int)
  let t9 := bOr .u32 t7 (IntKind.u32.wrap e8)
  some (t9, ())

noncomputable def recGetF46.body : Code := Tryd.f46.body.getD .skip
noncomputable def recGetF46.con : Con := { ps := [(.slice (.int .u8))], rs := [(.int .u32)], f := fun n x => recGetF46 n x.1 }
noncomputable def recGetF46.env : Env := { tys := [(22, ⟨(.int .u32), 4⟩), (5, ⟨(.int .u8), 1⟩)], elems := [(24, 5)], ptrs := [], cons := [], objs := [], loops := [], cuts := [], globs := globs, base := 0 }
noncomputable def recGetF46.lp (n : Nat) : LP (Kd.struct recGetF46.con.rs).T := fun lo κ body nm K s =>
  loops n (Kd.struct recGetF46.con.rs).T lo κ body nm K s
theorem recGetF46.eq (n : Nat) (x : (Kd.struct recGetF46.con.ps).T) : evFunc recGetF46.env Tryd.f46 recGetF46.body recGetF46.con.ps recGetF46.con.rs (recGetF46.lp n) n x = recGetF46.con.f n x := by kernel_rfl
theorem recGetF46.sound : Sound Tryd.prog globs 46 recGetF46.con :=
  sound_by (E := recGetF46.env) (c := recGetF46.body) (envOk (G := globs) (lc := []) (lo := []) (envB_spec (by kernel_rfl)) rfl rfl trivial rfl trivial (by kernel_rfl) (by kernel_rfl)) Tryd.func46 (by kernel_rfl) recGetF46.lp (l := []) (by kernel_rfl) (fun n => trivial) recGetF46.eq
noncomputable def crcCarry.b2 (fu : Nat) (next : Int → (List Int) → Int → Int → Option (Int × Unit)) (k2 : Int → Option (Int × Unit)) (row : Int) (v : List Int) (vx2 : Int) (vx3 : Int) : Option (Int × Unit) :=
  cond (decide (vx3 < vx2)) (
    chk (ixOk v vx3) <|
    let e1 := ixL (0 : Int) v vx3
    let t2 := bXor .u32 row (IntKind.u32.wrap e1)
    chk (ixArr 16 (bAnd .u32 t2 (15 : Int))) <|
    let e3 := ixL (0 : Int) tabCrcHalves (bAnd .u32 t2 (15 : Int))
    let t4 := bXor .u32 (sShr .u32 t2 (4 : Int)) e3
    chk (ixArr 16 (bAnd .u32 t4 (15 : Int))) <|
    let e5 := ixL (0 : Int) tabCrcHalves (bAnd .u32 t4 (15 : Int))
    let t6 := bXor .u32 (sShr .u32 t4 (4 : Int)) e5
    let t7 := IntKind.i64.wrap (vx3 + (1 : Int))
    next t6 v vx2 t7) (
    k2 row)
noncomputable def crcCarry.l2 (fu : Nat) (k2 : Int → Option (Int × Unit)) : Nat → Int → (List Int) → Int → Int → Option (Int × Unit)
  | 0, _, _, _, _ => none
  | m + 1, row, v, vx2, vx3 => crcCarry.b2 fu (crcCarry.l2 fu k2 m) k2 row v vx2 vx3
noncomputable def crcCarry (fu : Nat) (row : Int) (b : List Int) : Option (Int × Unit) :=
  crcCarry.l2 fu (fun rowq2 => 
      some (rowq2, ())) fu row b (b.length : Int) (0 : Int)

noncomputable def crcCarry.body : Code := Tryd.f55.body.getD .skip
abbrev crcCarry.shl2 : Shp := ⟨[.d (.int .u32), .u, .u, .u, .u, .u, .u, .d (.slice (.int .u8)), .d (.int .i64), .d (.int .i64), .u, .u, .u, .u, .u, .u, .u, .u, .u, .u, .u, .u, .u, .u, .u, .u, .u, .u, .u, .u, .u, .u, .u], []⟩
abbrev crcCarry.outl2e2 : Shp := ⟨[.d (.int .u32), .u, .u, .u, .u, .u, .u, .u, .u, .u, .u, .u, .u, .u, .u, .u, .u, .u, .u, .u, .u, .u, .u, .u, .u, .u, .u, .u, .u, .u, .u, .u, .u], []⟩
noncomputable def crcCarry.nml2 : Norm := ⟨{ keep := [0, 7, 8, 9], shut := [(0, (.int .u32)), (7, (.slice (.int .u8))), (8, (.int .i64)), (9, (.int .i64))], retag := [], heap := 0, dead := [], cshut := [], cretag := [] }, [(2, { keep := [0], shut := [(0, (.int .u32))], retag := [], heap := 0, dead := [], cshut := [], cretag := [] })]⟩
noncomputable def crcCarry.con : Con := { ps := [(.int .u32), (.slice (.int .u8))], rs := [(.int .u32)], f := fun n x => crcCarry n x.1 x.2.1 }
noncomputable def crcCarry.env : Env := { tys := [(22, ⟨(.int .u32), 4⟩), (5, ⟨(.int .u8), 1⟩), (3, ⟨(.int .i64), 8⟩), (99, ⟨(.arr 16 (.int .u32)), 64⟩)], elems := [(24, 5)], ptrs := [], cons := [], objs := [], loops := [(2, crcCarry.nml2)], cuts := [], globs := globs, base := 0 }
noncomputable def crcCarry.lp (n : Nat) : LP (Kd.struct crcCarry.con.rs).T := fun lo κ body nm K s =>
  cond (lo && Nat.beq κ 2)
    (match crcCarry.shl2.dec s with
    | some v => crcCarry.l2 n (fun w0 => K (.exit 0) (crcCarry.outl2e2.enc (w0, ()))) n v.1 v.2.1 v.2.2.1 v.2.2.2.1
    | none => loops n (Kd.struct crcCarry.con.rs).T lo κ body nm K s)
    (loops n (Kd.struct crcCarry.con.rs).T lo κ body nm K s)
theorem crcCarry.atl2 (n : Nat) (s : St) (K : Ex → St → Option (Kd.struct crcCarry.con.rs).T) : (crcCarry.lp n) true 2 (evK crcCarry.env (crcCarry.lp n) n (sub [1, 0, 1, 0, 0] crcCarry.body)) crcCarry.nml2 K s = loops n (Kd.struct crcCarry.con.rs).T true 2 (evK crcCarry.env (crcCarry.lp n) n (sub [1, 0, 1, 0, 0] crcCarry.body)) crcCarry.nml2 K s := by
  show (match crcCarry.shl2.dec s with | some v => crcCarry.l2 n (fun w0 => K (.exit 0) (crcCarry.outl2e2.enc (w0, ()))) n v.1 v.2.1 v.2.2.1 v.2.2.2.1 | none => loops n (Kd.struct crcCarry.con.rs).T true 2 (evK crcCarry.env (crcCarry.lp n) n (sub [1, 0, 1, 0, 0] crcCarry.body)) crcCarry.nml2 K s) = _
  cases h : crcCarry.shl2.dec s with
  | none => rfl
  | some v =>
    rw [Shp.dec_enc h]
    exact (evLoop_eq (sh := crcCarry.shl2) (body := evK crcCarry.env (crcCarry.lp n) n (sub [1, 0, 1, 0, 0] crcCarry.body)) (nm := crcCarry.nml2) (K := K) (b := fun nx v => crcCarry.b2 n (fun x0 x1 x2 x3 => nx (x0, x1, x2, x3, ())) (fun w0 => K (.exit 0) (crcCarry.outl2e2.enc (w0, ()))) v.1 v.2.1 v.2.2.1 v.2.2.2.1) (l := fun m v => crcCarry.l2 n (fun w0 => K (.exit 0) (crcCarry.outl2e2.enc (w0, ()))) m v.1 v.2.1 v.2.2.1 v.2.2.2.1) (fun _ => rfl) (fun _ _ => rfl) (fun m v => by kernel_rfl) n v).symm
theorem crcCarry.eq (n : Nat) (x : (Kd.struct crcCarry.con.ps).T) : evFunc crcCarry.env Tryd.f55 crcCarry.body crcCarry.con.ps crcCarry.con.rs (crcCarry.lp n) n x = crcCarry.con.f n x := by kernel_rfl
theorem crcCarry.sound : Sound Tryd.prog globs 55 crcCarry.con :=
  sound_by (E := crcCarry.env) (c := crcCarry.body) (envOk (G := globs) (lc := []) (lo := []) (envB_spec (by kernel_rfl)) rfl rfl trivial rfl trivial (by kernel_rfl) (by kernel_rfl)) Tryd.func55 (by kernel_rfl) crcCarry.lp (l := [(true, sub [1, 0, 1, 0, 0] crcCarry.body, crcCarry.nml2)]) (by kernel_rfl) (fun n => ⟨crcCarry.atl2 n, trivial⟩) crcCarry.eq
noncomputable def crcMore (fu : Nat) (sum : Int) (b : List Int) : Option (Int × Unit) :=
  (crcCarry fu (bNot .u32 sum) b).bind fun r1 =>
  some (bNot .u32 r1.1, ())

noncomputable def crcMore.body : Code := Tryd.f42.body.getD .skip
noncomputable def crcMore.con : Con := { ps := [(.int .u32), (.slice (.int .u8))], rs := [(.int .u32)], f := fun n x => crcMore n x.1 x.2.1 }
noncomputable def crcMore.env : Env := { tys := [(22, ⟨(.int .u32), 4⟩)], elems := [], ptrs := [], cons := [(55, crcCarry.con)], objs := [], loops := [], cuts := [], globs := globs, base := 0 }
noncomputable def crcMore.lp (n : Nat) : LP (Kd.struct crcMore.con.rs).T := fun lo κ body nm K s =>
  loops n (Kd.struct crcMore.con.rs).T lo κ body nm K s
theorem crcMore.eq (n : Nat) (x : (Kd.struct crcMore.con.ps).T) : evFunc crcMore.env Tryd.f42 crcMore.body crcMore.con.ps crcMore.con.rs (crcMore.lp n) n x = crcMore.con.f n x := by kernel_rfl
theorem crcMore.sound : Sound Tryd.prog globs 42 crcMore.con :=
  sound_by (E := crcMore.env) (c := crcMore.body) (envOk (G := globs) (lc := [(55, crcCarry.con)]) (lo := []) (envB_spec (by kernel_rfl)) rfl rfl ⟨.inl ⟨crcCarry.sound, by kernel_rfl⟩, trivial⟩ rfl trivial (by kernel_rfl) (by kernel_rfl)) Tryd.func42 (by kernel_rfl) crcMore.lp (l := []) (by kernel_rfl) (fun n => trivial) crcMore.eq
noncomputable def crcSum (fu : Nat) (b : List Int) : Option (Int × Unit) :=
  (crcMore fu (0 : Int) b).bind fun r1 =>
  some (r1.1, ())

noncomputable def crcSum.body : Code := Tryd.f43.body.getD .skip
noncomputable def crcSum.con : Con := { ps := [(.slice (.int .u8))], rs := [(.int .u32)], f := fun n x => crcSum n x.1 }
noncomputable def crcSum.env : Env := { tys := [(22, ⟨(.int .u32), 4⟩)], elems := [], ptrs := [], cons := [(42, crcMore.con)], objs := [], loops := [], cuts := [], globs := globs, base := 0 }
noncomputable def crcSum.lp (n : Nat) : LP (Kd.struct crcSum.con.rs).T := fun lo κ body nm K s =>
  loops n (Kd.struct crcSum.con.rs).T lo κ body nm K s
theorem crcSum.eq (n : Nat) (x : (Kd.struct crcSum.con.ps).T) : evFunc crcSum.env Tryd.f43 crcSum.body crcSum.con.ps crcSum.con.rs (crcSum.lp n) n x = crcSum.con.f n x := by kernel_rfl
theorem crcSum.sound : Sound Tryd.prog globs 43 crcSum.con :=
  sound_by (E := crcSum.env) (c := crcSum.body) (envOk (G := globs) (lc := [(42, crcMore.con)]) (lo := []) (envB_spec (by kernel_rfl)) rfl rfl ⟨.inl ⟨crcMore.sound, by kernel_rfl⟩, trivial⟩ rfl trivial (by kernel_rfl) (by kernel_rfl)) Tryd.func43 (by kernel_rfl) crcSum.lp (l := []) (by kernel_rfl) (fun n => trivial) crcSum.eq
noncomputable def slicesCloneDat (fu : Nat) (sv : List Int) : Option ((List Int) × Unit) :=
  nilQ sv (
    some ([], ())) (
    chk (apOk [] sv 1) <|
    some ([] ++ sv, ()))

noncomputable def slicesCloneDat.body : Code := Tryd.f47.body.getD .skip
noncomputable def slicesCloneDat.con : Con := { ps := [(.slice (.int .u8))], rs := [(.slice (.int .u8))], f := fun n x => slicesCloneDat n x.1 }
noncomputable def slicesCloneDat.env : Env := { tys := [(24, ⟨(.slice (.int .u8)), 24⟩), (5, ⟨(.int .u8), 1⟩)], elems := [(24, 5)], ptrs := [], cons := [], objs := [], loops := [], cuts := [], globs := globs, base := 0 }
noncomputable def slicesCloneDat.lp (n : Nat) : LP (Kd.struct slicesCloneDat.con.rs).T := fun lo κ body nm K s =>
  loops n (Kd.struct slicesCloneDat.con.rs).T lo κ body nm K s
theorem slicesCloneDat.eq (n : Nat) (x : (Kd.struct slicesCloneDat.con.ps).T) : evFunc slicesCloneDat.env Tryd.f47 slicesCloneDat.body slicesCloneDat.con.ps slicesCloneDat.con.rs (slicesCloneDat.lp n) n x = slicesCloneDat.con.f n x := by kernel_rfl
theorem slicesCloneDat.sound : Sound Tryd.prog globs 47 slicesCloneDat.con :=
  sound_by (E := slicesCloneDat.env) (c := slicesCloneDat.body) (envOk (G := globs) (lc := []) (lo := []) (envB_spec (by kernel_rfl)) rfl rfl trivial rfl trivial (by kernel_rfl) (by kernel_rfl)) Tryd.func47 (by kernel_rfl) slicesCloneDat.lp (l := []) (by kernel_rfl) (fun n => trivial) slicesCloneDat.eq
noncomputable def recGet (fu : Nat) (b : List Int) (atv : Int) : Option ((List Int) × Int × Int × Unit) :=
  cond (decide (atv < (0 : Int))) (
    some ([], (0 : Int), (3 : Int), ())) (
    let t1 := IntKind.i64.wrap ((b.length : Int) - (4 : Int))
    cond (decide (atv > t1)) (
      some ([], (0 : Int), (3 : Int), ())) (
      chk (cutOk b atv (b.length : Int)) <|
      let t2 := cutL b atv (b.length : Int)
      (recGetF46 fu t2).bind fun r3 =>
      let t4 := decide (r3.1 > (65536 : Int))
      cond t4 (
        some ([], (0 : Int), (4 : Int), ())) (
        let t5 := IntKind.i64.wrap ((8 : Int) + IntKind.i64.wrap r3.1)
        let t6 := IntKind.i64.wrap ((b.length : Int) - atv)
        cond (decide (t5 > t6)) (
          some ([], (0 : Int), (3 : Int), ())) (
          let t7 := IntKind.i64.wrap (atv + (8 : Int))
          let t8 := IntKind.i64.wrap (atv + (8 : Int))
          let t9 := IntKind.i64.wrap (t8 + IntKind.i64.wrap r3.1)
          chk (cutOk b t7 t9) <|
          let t10 := IntKind.i64.wrap (atv + (4 : Int))
          chk (cutOk b atv t10) <|
          (crcSum fu (cutL b atv t10)).bind fun r11 =>
          (crcMore fu r11.1 (cutL b t7 t9)).bind fun r12 =>
          let t13 := IntKind.i64.wrap (atv + (4 : Int))
          chk (cutOk b t13 (b.length : Int)) <|
          let t14 := cutL b t13 (b.length : Int)
          (recGetF46 fu t14).bind fun r15 =>
          cond (r12.1 != r15.1) (
            some ([], (0 : Int), (6 : Int), ())) (
            (slicesCloneDat fu (cutL b t7 t9)).bind fun r16 =>
            let t17 := IntKind.i64.wrap (atv + (8 : Int))
            let t18 := IntKind.i64.wrap (t17 + IntKind.i64.wrap r3.1)
            some (r16.1, t18, (0 : Int), ()))))))

noncomputable def recGet.body : Code := Tryd.f30.body.getD .skip
noncomputable def recGet.con : Con := { ps := [(.slice (.int .u8)), (.int .i64)], rs := [(.slice (.int .u8)), (.int .i64), (.int .i64)], f := fun n x => recGet n x.1 x.2.1 }
noncomputable def recGet.env : Env := { tys := [(24, ⟨(.slice (.int .u8)), 24⟩), (3, ⟨(.int .i64), 8⟩), (29, ⟨(.int .i64), 8⟩), (4, ⟨.bool, 1⟩), (5, ⟨(.int .u8), 1⟩), (22, ⟨(.int .u32), 4⟩)], elems := [(24, 5)], ptrs := [], cons := [(46, recGetF46.con), (43, crcSum.con), (42, crcMore.con), (47, slicesCloneDat.con)], objs := [], loops := [], cuts := [], globs := globs, base := 0 }
noncomputable def recGet.lp (n : Nat) : LP (Kd.struct recGet.con.rs).T := fun lo κ body nm K s =>
  loops n (Kd.struct recGet.con.rs).T lo κ body nm K s
theorem recGet.eq (n : Nat) (x : (Kd.struct recGet.con.ps).T) : evFunc recGet.env Tryd.f30 recGet.body recGet.con.ps recGet.con.rs (recGet.lp n) n x = recGet.con.f n x := by kernel_rfl
theorem recGet.sound : Sound Tryd.prog globs 30 recGet.con :=
  sound_by (E := recGet.env) (c := recGet.body) (envOk (G := globs) (lc := [(46, recGetF46.con), (43, crcSum.con), (42, crcMore.con), (47, slicesCloneDat.con)]) (lo := []) (envB_spec (by kernel_rfl)) rfl rfl ⟨.inl ⟨recGetF46.sound, by kernel_rfl⟩, ⟨.inl ⟨crcSum.sound, by kernel_rfl⟩, ⟨.inl ⟨crcMore.sound, by kernel_rfl⟩, ⟨.inl ⟨slicesCloneDat.sound, by kernel_rfl⟩, trivial⟩⟩⟩⟩ rfl trivial (by kernel_rfl) (by kernel_rfl)) Tryd.func30 (by kernel_rfl) recGet.lp (l := []) (by kernel_rfl) (fun n => trivial) recGet.eq
noncomputable def frameOf (fu : Nat) (kind : Int) : Option (Int × Bool × Unit) :=
  let t1 := decide (kind < (1 : Int))
  cond t1 (
    some ((0 : Int), false, ())) (
    let t2 := decide (kind > (17 : Int))
    cond t2 (
      some ((0 : Int), false, ())) (
      chk (ixArr 18 kind) <|
      let e3 := ixL (0 : Int) tabFrameFields kind
      some (e3, true, ())))

noncomputable def frameOf.body : Code := Tryd.f36.body.getD .skip
noncomputable def frameOf.con : Con := { ps := [(.int .u8)], rs := [(.int .u8), .bool], f := fun n x => frameOf n x.1 }
noncomputable def frameOf.env : Env := { tys := [(5, ⟨(.int .u8), 1⟩), (4, ⟨.bool, 1⟩), (91, ⟨(.arr 18 (.int .u8)), 18⟩)], elems := [], ptrs := [], cons := [], objs := [], loops := [], cuts := [], globs := globs, base := 0 }
noncomputable def frameOf.lp (n : Nat) : LP (Kd.struct frameOf.con.rs).T := fun lo κ body nm K s =>
  loops n (Kd.struct frameOf.con.rs).T lo κ body nm K s
theorem frameOf.eq (n : Nat) (x : (Kd.struct frameOf.con.ps).T) : evFunc frameOf.env Tryd.f36 frameOf.body frameOf.con.ps frameOf.con.rs (frameOf.lp n) n x = frameOf.con.f n x := by kernel_rfl
theorem frameOf.sound : Sound Tryd.prog globs 36 frameOf.con :=
  sound_by (E := frameOf.env) (c := frameOf.body) (envOk (G := globs) (lc := []) (lo := []) (envB_spec (by kernel_rfl)) rfl rfl trivial rfl trivial (by kernel_rfl) (by kernel_rfl)) Tryd.func36 (by kernel_rfl) frameOf.lp (l := []) (by kernel_rfl) (fun n => trivial) frameOf.eq
noncomputable def frameHas (fu : Nat) (l : Int) (field : Int) : Option (Bool × Unit) :=
  let t1 := bAnd .u8 l field != (0 : Int)
  some (t1, ())

noncomputable def frameHas.body : Code := Tryd.f37.body.getD .skip
noncomputable def frameHas.con : Con := { ps := [(.int .u8), (.int .u8)], rs := [.bool], f := fun n x => frameHas n x.1 x.2.1 }
noncomputable def frameHas.env : Env := { tys := [(4, ⟨.bool, 1⟩)], elems := [], ptrs := [], cons := [], objs := [], loops := [], cuts := [], globs := globs, base := 0 }
noncomputable def frameHas.lp (n : Nat) : LP (Kd.struct frameHas.con.rs).T := fun lo κ body nm K s =>
  loops n (Kd.struct frameHas.con.rs).T lo κ body nm K s
theorem frameHas.eq (n : Nat) (x : (Kd.struct frameHas.con.ps).T) : evFunc frameHas.env Tryd.f37 frameHas.body frameHas.con.ps frameHas.con.rs (frameHas.lp n) n x = frameHas.con.f n x := by kernel_rfl
theorem frameHas.sound : Sound Tryd.prog globs 37 frameHas.con :=
  sound_by (E := frameHas.env) (c := frameHas.body) (envOk (G := globs) (lc := []) (lo := []) (envB_spec (by kernel_rfl)) rfl rfl trivial rfl trivial (by kernel_rfl) (by kernel_rfl)) Tryd.func37 (by kernel_rfl) frameHas.lp (l := []) (by kernel_rfl) (fun n => trivial) frameHas.eq
noncomputable def packGet.j50013 (fu : Nat) (k1 : Int → Int → Int → Option (Int × Int × Int × Unit)) (atv : Int) (n : Int) (i : Int) (v : Bool) : Option (Int × Int × Int × Unit) :=
  cond v (
    k1 (0 : Int) (0 : Int) (2 : Int)) (
    let t1 := IntKind.i64.wrap (atv + i)
    let t2 := IntKind.i64.wrap (t1 + (1 : Int))
    k1 n t2 (0 : Int))
noncomputable def packGet.j9 (fu : Nat) (k0 : Int → Int → (List Int) → Int → Int → Option (Int × Int × Int × Unit)) (k1 : Int → Int → Int → Option (Int × Int × Int × Unit)) (atv : Int) (n : Int) (i : Int) (c : Int) (v : List Int) (vx2 : Int) (vx3 : Int) : Option (Int × Int × Int × Unit) :=
  let t1 := IntKind.u64.wrap (bAnd .u8 c (127 : Int))
  let t2 := IntKind.i64.wrap ((7 : Int) * i)
  chk (!decide (t2 < 0)) <|
  let t3 := bOr .u64 n (sShl .u64 t1 t2)
  cond (decide (c ≥ (128 : Int))) (
    k0 atv t3 v vx2 vx3) (
    cond (c == (0 : Int)) (
      packGet.j50013 fu (fun vq5 vq5x2 vq5x3 => 
          k1 vq5 vq5x2 vq5x3) atv t3 i (decide (i > (0 : Int)))) (
      packGet.j50013 fu (fun vq6 vq6x2 vq6x3 => 
          k1 vq6 vq6x2 vq6x3) atv t3 i false))
noncomputable def packGet.b5 (fu : Nat) (next : Int → Int → (List Int) → Int → Int → Option (Int × Int × Int × Unit)) (k1 : Int → Int → Int → Option (Int × Int × Int × Unit)) (k2 : Unit → Option (Int × Int × Int × Unit)) (atv : Int) (n : Int) (v : List Int) (vx2 : Int) (vx3 : Int) : Option (Int × Int × Int × Unit) :=
  cond (decide (vx3 < vx2)) (
    chk (ixOk v vx3) <|
    let e1 := ixL (0 : Int) v vx3
    cond (vx3 == (9 : Int)) (
      cond (decide (e1 > (1 : Int))) (
        k1 (0 : Int) (0 : Int) (4 : Int)) (
        packGet.j9 fu (fun atvq11 nq11 vq11 vq11x2 vq11x3 => 
            let t2 := IntKind.i64.wrap (vq11x3 + (1 : Int))
            next atvq11 nq11 vq11 vq11x2 t2) (fun vq12 vq12x2 vq12x3 => 
            k1 vq12 vq12x2 vq12x3) atv n vx3 e1 v vx2 vx3)) (
      packGet.j9 fu (fun atvq13 nq13 vq13 vq13x2 vq13x3 => 
          let t3 := IntKind.i64.wrap (vq13x3 + (1 : Int))
          next atvq13 nq13 vq13 vq13x2 t3) (fun vq14 vq14x2 vq14x3 => 
          k1 vq14 vq14x2 vq14x3) atv n vx3 e1 v vx2 vx3)) (
    k2 ())
noncomputable def packGet.l5 (fu : Nat) (k1 : Int → Int → Int → Option (Int × Int × Int × Unit)) (k2 : Unit → Option (Int × Int × Int × Unit)) : Nat → Int → Int → (List Int) → Int → Int → Option (Int × Int × Int × Unit)
  | 0, _, _, _, _, _ => none
  | m + 1, atv, n, v, vx2, vx3 => packGet.b5 fu (packGet.l5 fu k1 k2 m) k1 k2 atv n v vx2 vx3
noncomputable def packGet (fu : Nat) (b : List Int) (atv : Int) : Option (Int × Int × Int × Unit) :=
  cond (decide (atv < (0 : Int))) (
    some ((0 : Int), (0 : Int), (3 : Int), ())) (
    let t1 := decide (atv > (b.length : Int))
    cond t1 (
      some ((0 : Int), (0 : Int), (3 : Int), ())) (
      chk (cutOk b atv (b.length : Int)) <|
      let t2 := cutL b atv (b.length : Int)
      packGet.l5 fu (fun vq3 vq3x2 vq3x3 => 
          some (vq3, vq3x2, vq3x3, ())) (fun (_ : Unit) => 
          some ((0 : Int), (0 : Int), (3 : Int), ())) fu atv (0 : Int) t2 (t2.length : Int) (0 : Int)))

noncomputable def packGet.body : Code := Tryd.f57.body.getD .skip
abbrev packGet.shj50013 : Shp := ⟨[.u, .d (.int .i64), .u, .u, .u, .u, .u, .d (.int .u64), .d (.int .i64), .u, .u, .u, .u, .u, .u, .u, .u, .u, .u, .u, .u, .u, .u, .u, .u, .u, .u, .u, .u, .u, .u, .u, .u, .u, .u, .u, .u, .u, .u, .u, .u, .u, .u, .u, .u, .u, .u, .u, .u, .d .bool, .u, .u, .u, .u, .u, .u, .u], []⟩
abbrev packGet.outj50013e1 : Shp := ⟨[.u, .u, .u, .u, .d (.int .u64), .d (.int .i64), .d (.int .i64), .u, .u, .u, .u, .u, .u, .u, .u, .u, .u, .u, .u, .u, .u, .u, .u, .u, .u, .u, .u, .u, .u, .u, .u, .u, .u, .u, .u, .u, .u, .u, .u, .u, .u, .u, .u, .u, .u, .u, .u, .u, .u, .u, .u, .u, .u, .u, .u, .u, .u], []⟩
noncomputable def packGet.nmj50013 : Norm := ⟨{ keep := [1, 7, 8, 49], shut := [(1, (.int .i64)), (7, (.int .u64)), (8, (.int .i64)), (49, .bool)], retag := [], heap := 0, dead := [], cshut := [], cretag := [] }, [(1, { keep := [4, 5, 6], shut := [(4, (.int .u64)), (5, (.int .i64)), (6, (.int .i64))], retag := [], heap := 0, dead := [], cshut := [], cretag := [] })]⟩
abbrev packGet.shj9 : Shp := ⟨[.u, .d (.int .i64), .u, .u, .u, .u, .u, .d (.int .u64), .d (.int .i64), .d (.int .u8), .u, .u, .u, .u, .u, .u, .u, .u, .u, .u, .d (.slice (.int .u8)), .d (.int .i64), .d (.int .i64), .u, .u, .u, .u, .u, .u, .u, .u, .u, .u, .u, .u, .u, .u, .u, .u, .u, .u, .u, .u, .u, .u, .u, .u, .u, .u, .u, .u, .u, .u, .u, .u, .u, .u], []⟩
abbrev packGet.outj9e0 : Shp := ⟨[.u, .d (.int .i64), .u, .u, .u, .u, .u, .d (.int .u64), .u, .u, .u, .u, .u, .u, .u, .u, .u, .u, .u, .u, .d (.slice (.int .u8)), .d (.int .i64), .d (.int .i64), .u, .u, .u, .u, .u, .u, .u, .u, .u, .u, .u, .u, .u, .u, .u, .u, .u, .u, .u, .u, .u, .u, .u, .u, .u, .u, .u, .u, .u, .u, .u, .u, .u, .u], []⟩
abbrev packGet.outj9e1 : Shp := ⟨[.u, .u, .u, .u, .d (.int .u64), .d (.int .i64), .d (.int .i64), .u, .u, .u, .u, .u, .u, .u, .u, .u, .u, .u, .u, .u, .u, .u, .u, .u, .u, .u, .u, .u, .u, .u, .u, .u, .u, .u, .u, .u, .u, .u, .u, .u, .u, .u, .u, .u, .u, .u, .u, .u, .u, .u, .u, .u, .u, .u, .u, .u, .u], []⟩
noncomputable def packGet.nmj9 : Norm := ⟨{ keep := [1, 7, 8, 9, 20, 21, 22], shut := [(1, (.int .i64)), (7, (.int .u64)), (8, (.int .i64)), (9, (.int .u8)), (20, (.slice (.int .u8))), (21, (.int .i64)), (22, (.int .i64))], retag := [], heap := 0, dead := [], cshut := [], cretag := [] }, [(0, { keep := [1, 7, 20, 21, 22], shut := [(1, (.int .i64)), (7, (.int .u64)), (20, (.slice (.int .u8))), (21, (.int .i64)), (22, (.int .i64))], retag := [], heap := 0, dead := [], cshut := [], cretag := [] }), (1, { keep := [4, 5, 6], shut := [(4, (.int .u64)), (5, (.int .i64)), (6, (.int .i64))], retag := [], heap := 0, dead := [], cshut := [], cretag := [] })]⟩
abbrev packGet.shl5 : Shp := ⟨[.u, .d (.int .i64), .u, .u, .u, .u, .u, .d (.int .u64), .u, .u, .u, .u, .u, .u, .u, .u, .u, .u, .u, .u, .d (.slice (.int .u8)), .d (.int .i64), .d (.int .i64), .u, .u, .u, .u, .u, .u, .u, .u, .u, .u, .u, .u, .u, .u, .u, .u, .u, .u, .u, .u, .u, .u, .u, .u, .u, .u, .u, .u, .u, .u, .u, .u, .u, .u], []⟩
abbrev packGet.outl5e1 : Shp := ⟨[.u, .u, .u, .u, .d (.int .u64), .d (.int .i64), .d (.int .i64), .u, .u, .u, .u, .u, .u, .u, .u, .u, .u, .u, .u, .u, .u, .u, .u, .u, .u, .u, .u, .u, .u, .u, .u, .u, .u, .u, .u, .u, .u, .u, .u, .u, .u, .u, .u, .u, .u, .u, .u, .u, .u, .u, .u, .u, .u, .u, .u, .u, .u], []⟩
abbrev packGet.outl5e2 : Shp := ⟨[.u, .u, .u, .u, .u, .u, .u, .u, .u, .u, .u, .u, .u, .u, .u, .u, .u, .u, .u, .u, .u, .u, .u, .u, .u, .u, .u, .u, .u, .u, .u, .u, .u, .u, .u, .u, .u, .u, .u, .u, .u, .u, .u, .u, .u, .u, .u, .u, .u, .u, .u, .u, .u, .u, .u, .u, .u], []⟩
noncomputable def packGet.nml5 : Norm := ⟨{ keep := [1, 7, 20, 21, 22], shut := [(1, (.int .i64)), (7, (.int .u64)), (20, (.slice (.int .u8))), (21, (.int .i64)), (22, (.int .i64))], retag := [], heap := 0, dead := [], cshut := [], cretag := [] }, [(1, { keep := [4, 5, 6], shut := [(4, (.int .u64)), (5, (.int .i64)), (6, (.int .i64))], retag := [], heap := 0, dead := [], cshut := [], cretag := [] }), (2, { keep := [], shut := [], retag := [], heap := 0, dead := [], cshut := [], cretag := [] })]⟩
noncomputable def packGet.con : Con := { ps := [(.slice (.int .u8)), (.int .i64)], rs := [(.int .u64), (.int .i64), (.int .i64)], f := fun n x => packGet n x.1 x.2.1 }
noncomputable def packGet.env : Env := { tys := [(23, ⟨(.int .u64), 8⟩), (3, ⟨(.int .i64), 8⟩), (29, ⟨(.int .i64), 8⟩), (4, ⟨.bool, 1⟩), (5, ⟨(.int .u8), 1⟩)], elems := [(24, 5)], ptrs := [], cons := [], objs := [], loops := [(5, packGet.nml5)], cuts := [(50013, packGet.nmj50013), (9, packGet.nmj9)], globs := globs, base := 0 }
noncomputable def packGet.lp (n : Nat) : LP (Kd.struct packGet.con.rs).T := fun lo κ body nm K s =>
  cond (!lo && Nat.beq κ 50013)
    (match packGet.shj50013.dec s with
    | some v => packGet.j50013 n (fun w0 w1 w2 => K .ret (packGet.outj50013e1.enc (w0, w1, w2, ()))) v.1 v.2.1 v.2.2.1 v.2.2.2.1
    | none => loops n (Kd.struct packGet.con.rs).T lo κ body nm K s)
    (cond (!lo && Nat.beq κ 9)
    (match packGet.shj9.dec s with
    | some v => packGet.j9 n (fun w0 w1 w2 w3 w4 => K .normal (packGet.outj9e0.enc (w0, w1, w2, w3, w4, ()))) (fun w0 w1 w2 => K .ret (packGet.outj9e1.enc (w0, w1, w2, ()))) v.1 v.2.1 v.2.2.1 v.2.2.2.1 v.2.2.2.2.1 v.2.2.2.2.2.1 v.2.2.2.2.2.2.1
    | none => loops n (Kd.struct packGet.con.rs).T lo κ body nm K s)
    (cond (lo && Nat.beq κ 5)
    (match packGet.shl5.dec s with
    | some v => packGet.l5 n (fun w0 w1 w2 => K .ret (packGet.outl5e1.enc (w0, w1, w2, ()))) (fun _ => K (.exit 0) (packGet.outl5e2.enc (()))) n v.1 v.2.1 v.2.2.1 v.2.2.2.1 v.2.2.2.2.1
    | none => loops n (Kd.struct packGet.con.rs).T lo κ body nm K s)
    (loops n (Kd.struct packGet.con.rs).T lo κ body nm K s)))
theorem packGet.atj50013 (n : Nat) (s : St) (K : Ex → St → Option (Kd.struct packGet.con.rs).T) : (packGet.lp n) false 50013 (evK packGet.env (packGet.lp n) n (sub [1, 1, 1, 0, 1, 0, 0, 1, 1, 0, 0, 1, 1, 1, 0, 1, 1, 1] packGet.body)) packGet.nmj50013 K s = loops n (Kd.struct packGet.con.rs).T false 50013 (evK packGet.env (packGet.lp n) n (sub [1, 1, 1, 0, 1, 0, 0, 1, 1, 0, 0, 1, 1, 1, 0, 1, 1, 1] packGet.body)) packGet.nmj50013 K s := by
  show (match packGet.shj50013.dec s with | some v => packGet.j50013 n (fun w0 w1 w2 => K .ret (packGet.outj50013e1.enc (w0, w1, w2, ()))) v.1 v.2.1 v.2.2.1 v.2.2.2.1 | none => loops n (Kd.struct packGet.con.rs).T false 50013 (evK packGet.env (packGet.lp n) n (sub [1, 1, 1, 0, 1, 0, 0, 1, 1, 0, 0, 1, 1, 1, 0, 1, 1, 1] packGet.body)) packGet.nmj50013 K s) = _
  cases h : packGet.shj50013.dec s with
  | none => rfl
  | some v =>
    rw [Shp.dec_enc h]
    kernel_rfl
theorem packGet.atj9 (n : Nat) (s : St) (K : Ex → St → Option (Kd.struct packGet.con.rs).T) : (packGet.lp n) false 9 (evK packGet.env (packGet.lp n) n (sub [1, 1, 1, 0, 1, 0, 0, 1, 1, 0, 0, 1, 1] packGet.body)) packGet.nmj9 K s = loops n (Kd.struct packGet.con.rs).T false 9 (evK packGet.env (packGet.lp n) n (sub [1, 1, 1, 0, 1, 0, 0, 1, 1, 0, 0, 1, 1] packGet.body)) packGet.nmj9 K s := by
  show (match packGet.shj9.dec s with | some v => packGet.j9 n (fun w0 w1 w2 w3 w4 => K .normal (packGet.outj9e0.enc (w0, w1, w2, w3, w4, ()))) (fun w0 w1 w2 => K .ret (packGet.outj9e1.enc (w0, w1, w2, ()))) v.1 v.2.1 v.2.2.1 v.2.2.2.1 v.2.2.2.2.1 v.2.2.2.2.2.1 v.2.2.2.2.2.2.1 | none => loops n (Kd.struct packGet.con.rs).T false 9 (evK packGet.env (packGet.lp n) n (sub [1, 1, 1, 0, 1, 0, 0, 1, 1, 0, 0, 1, 1] packGet.body)) packGet.nmj9 K s) = _
  cases h : packGet.shj9.dec s with
  | none => rfl
  | some v =>
    rw [Shp.dec_enc h]
    kernel_rfl
theorem packGet.atl5 (n : Nat) (s : St) (K : Ex → St → Option (Kd.struct packGet.con.rs).T) : (packGet.lp n) true 5 (evK packGet.env (packGet.lp n) n (sub [1, 1, 1, 0, 1, 0, 0] packGet.body)) packGet.nml5 K s = loops n (Kd.struct packGet.con.rs).T true 5 (evK packGet.env (packGet.lp n) n (sub [1, 1, 1, 0, 1, 0, 0] packGet.body)) packGet.nml5 K s := by
  show (match packGet.shl5.dec s with | some v => packGet.l5 n (fun w0 w1 w2 => K .ret (packGet.outl5e1.enc (w0, w1, w2, ()))) (fun _ => K (.exit 0) (packGet.outl5e2.enc (()))) n v.1 v.2.1 v.2.2.1 v.2.2.2.1 v.2.2.2.2.1 | none => loops n (Kd.struct packGet.con.rs).T true 5 (evK packGet.env (packGet.lp n) n (sub [1, 1, 1, 0, 1, 0, 0] packGet.body)) packGet.nml5 K s) = _
  cases h : packGet.shl5.dec s with
  | none => rfl
  | some v =>
    rw [Shp.dec_enc h]
    exact (evLoop_eq (sh := packGet.shl5) (body := evK packGet.env (packGet.lp n) n (sub [1, 1, 1, 0, 1, 0, 0] packGet.body)) (nm := packGet.nml5) (K := K) (b := fun nx v => packGet.b5 n (fun x0 x1 x2 x3 x4 => nx (x0, x1, x2, x3, x4, ())) (fun w0 w1 w2 => K .ret (packGet.outl5e1.enc (w0, w1, w2, ()))) (fun _ => K (.exit 0) (packGet.outl5e2.enc (()))) v.1 v.2.1 v.2.2.1 v.2.2.2.1 v.2.2.2.2.1) (l := fun m v => packGet.l5 n (fun w0 w1 w2 => K .ret (packGet.outl5e1.enc (w0, w1, w2, ()))) (fun _ => K (.exit 0) (packGet.outl5e2.enc (()))) m v.1 v.2.1 v.2.2.1 v.2.2.2.1 v.2.2.2.2.1) (fun _ => rfl) (fun _ _ => rfl) (fun m v => by kernel_rfl) n v).symm
theorem packGet.eq (n : Nat) (x : (Kd.struct packGet.con.ps).T) : evFunc packGet.env Tryd.f57 packGet.body packGet.con.ps packGet.con.rs (packGet.lp n) n x = packGet.con.f n x := by kernel_rfl
theorem packGet.sound : Sound Tryd.prog globs 57 packGet.con :=
  sound_by (E := packGet.env) (c := packGet.body) (envOk (G := globs) (lc := []) (lo := []) (envB_spec (by kernel_rfl)) rfl rfl trivial rfl trivial (by kernel_rfl) (by kernel_rfl)) Tryd.func57 (by kernel_rfl) packGet.lp (l := [(false, sub [1, 1, 1, 0, 1, 0, 0, 1, 1, 0, 0, 1, 1, 1, 0, 1, 1, 1] packGet.body, packGet.nmj50013), (false, sub [1, 1, 1, 0, 1, 0, 0, 1, 1, 0, 0, 1, 1] packGet.body, packGet.nmj9), (true, sub [1, 1, 1, 0, 1, 0, 0] packGet.body, packGet.nml5)]) (by kernel_rfl) (fun n => ⟨packGet.atj50013 n, ⟨packGet.atj9 n, ⟨packGet.atl5 n, trivial⟩⟩⟩) packGet.eq
noncomputable def frameReaderNumber.j6 (fu : Nat) (k1 : Int → (List Int) → Int → Int → Int → Option ((Int × Unit) × (O2 × Unit))) (n : Int) (endv : Int) (ev : Int) (c0 : List Int) (c0x2 : Int) (c0x3 : Int) (c0x4 : Int) : Option ((Int × Unit) × (O2 × Unit)) :=
  k1 n c0 endv c0x3 ev
noncomputable def frameReaderNumber (fu : Nat) (rv : O2) (field : Int) (most : Int) : Option ((Int × Unit) × (O2 × Unit)) :=
  cond (rv.2.2.2.1 != (0 : Int)) (
    some (((0 : Int), ()), (rv, ()))) (
    (frameHas fu rv.2.2.1 field).bind fun r1 =>
    cond (!r1.1) (
      some (((0 : Int), ()), (rv, ()))) (
      (packGet fu rv.1 rv.2.1).bind fun r2 =>
      cond (r2.2.2.1 == (0 : Int)) (
        cond (decide (r2.1 > most)) (
          frameReaderNumber.j6 fu (fun vq1 c0q1 c0q1x2 c0q1x3 c0q1x4 => 
              some ((vq1, ()), ((c0q1, c0q1x2, c0q1x3, c0q1x4, ()), ()))) r2.1 r2.2.1 (5 : Int) rv.1 rv.2.1 rv.2.2.1 rv.2.2.2.1) (
          frameReaderNumber.j6 fu (fun vq2 c0q2 c0q2x2 c0q2x3 c0q2x4 => 
              some ((vq2, ()), ((c0q2, c0q2x2, c0q2x3, c0q2x4, ()), ()))) r2.1 r2.2.1 r2.2.2.1 rv.1 rv.2.1 rv.2.2.1 rv.2.2.2.1)) (
        frameReaderNumber.j6 fu (fun vq3 c0q3 c0q3x2 c0q3x3 c0q3x4 => 
            some ((vq3, ()), ((c0q3, c0q3x2, c0q3x3, c0q3x4, ()), ()))) r2.1 r2.2.1 r2.2.2.1 rv.1 rv.2.1 rv.2.2.1 rv.2.2.2.1)))

noncomputable def frameReaderNumber.body : Code := Tryd.f48.body.getD .skip
abbrev frameReaderNumber.shj6 : Shp := ⟨[.p 0 0, .u, .u, .u, .u, .u, .u, .d (.int .u64), .d (.int .i64), .d (.int .i64), .u, .u, .u, .u, .u, .u, .u, .u, .u, .u, .u, .u, .u, .u, .u, .u, .u, .u, .u, .u, .u, .u, .u, .u, .u, .u, .u, .u, .u, .u, .u, .u, .u, .u, .u, .u, .u, .u, .u, .u, .u, .u, .u], [.c [.d (.slice (.int .u8)), .d (.int .i64), .d (.int .u8), .d (.int .i64)]]⟩
abbrev frameReaderNumber.outj6e1 : Shp := ⟨[.u, .u, .u, .u, .u, .u, .d (.int .u64), .u, .u, .u, .u, .u, .u, .u, .u, .u, .u, .u, .u, .u, .u, .u, .u, .u, .u, .u, .u, .u, .u, .u, .u, .u, .u, .u, .u, .u, .u, .u, .u, .u, .u, .u, .u, .u, .u, .u, .u, .u, .u, .u, .u, .u, .u], [.c [.d (.slice (.int .u8)), .d (.int .i64), .d (.int .u8), .d (.int .i64)]]⟩
noncomputable def frameReaderNumber.nmj6 : Norm := ⟨{ keep := [0, 7, 8, 9], shut := [(7, (.int .u64)), (8, (.int .i64)), (9, (.int .i64))], retag := [], heap := 1, dead := [], cshut := [(0, 0, (.slice (.int .u8))), (0, 1, (.int .i64)), (0, 2, (.int .u8)), (0, 3, (.int .i64))], cretag := [] }, [(1, { keep := [6], shut := [(6, (.int .u64))], retag := [], heap := 1, dead := [], cshut := [(0, 0, (.slice (.int .u8))), (0, 1, (.int .i64)), (0, 2, (.int .u8)), (0, 3, (.int .i64))], cretag := [] })]⟩
noncomputable def frameReaderNumber.con : OCon := { ps := [.obj kO2, .dat (.int .u8), .dat (.int .u64)], rs := [.dat (.int .u64)], f := fun n x => frameReaderNumber n x.1 x.2.1 x.2.2.1 }
noncomputable def frameReaderNumber.env : Env := { tys := [(23, ⟨(.int .u64), 8⟩), (84, ⟨kS4, 48⟩), (29, ⟨(.int .i64), 8⟩), (4, ⟨.bool, 1⟩), (5, ⟨(.int .u8), 1⟩), (24, ⟨(.slice (.int .u8)), 24⟩), (3, ⟨(.int .i64), 8⟩)], elems := [], ptrs := [], cons := [(37, frameHas.con), (57, packGet.con)], objs := [], loops := [], cuts := [(6, frameReaderNumber.nmj6)], globs := globs, base := 1 }
noncomputable def frameReaderNumber.lp (n : Nat) : LP (RT frameReaderNumber.con.rs × BT frameReaderNumber.con.ps) := fun lo κ body nm K s =>
  cond (!lo && Nat.beq κ 6)
    (match frameReaderNumber.shj6.dec s with
    | some v => frameReaderNumber.j6 n (fun w0 w1 w2 w3 w4 => K .ret (frameReaderNumber.outj6e1.enc (w0, w1, w2, w3, w4, ()))) v.1 v.2.1 v.2.2.1 v.2.2.2.1 v.2.2.2.2.1 v.2.2.2.2.2.1 v.2.2.2.2.2.2.1
    | none => loops n (RT frameReaderNumber.con.rs × BT frameReaderNumber.con.ps) lo κ body nm K s)
    (loops n (RT frameReaderNumber.con.rs × BT frameReaderNumber.con.ps) lo κ body nm K s)
theorem frameReaderNumber.atj6 (n : Nat) (s : St) (K : Ex → St → Option (RT frameReaderNumber.con.rs × BT frameReaderNumber.con.ps)) : (frameReaderNumber.lp n) false 6 (evK frameReaderNumber.env (frameReaderNumber.lp n) n (sub [1, 1, 1, 1] frameReaderNumber.body)) frameReaderNumber.nmj6 K s = loops n (RT frameReaderNumber.con.rs × BT frameReaderNumber.con.ps) false 6 (evK frameReaderNumber.env (frameReaderNumber.lp n) n (sub [1, 1, 1, 1] frameReaderNumber.body)) frameReaderNumber.nmj6 K s := by
  show (match frameReaderNumber.shj6.dec s with | some v => frameReaderNumber.j6 n (fun w0 w1 w2 w3 w4 => K .ret (frameReaderNumber.outj6e1.enc (w0, w1, w2, w3, w4, ()))) v.1 v.2.1 v.2.2.1 v.2.2.2.1 v.2.2.2.2.1 v.2.2.2.2.2.1 v.2.2.2.2.2.2.1 | none => loops n (RT frameReaderNumber.con.rs × BT frameReaderNumber.con.ps) false 6 (evK frameReaderNumber.env (frameReaderNumber.lp n) n (sub [1, 1, 1, 1] frameReaderNumber.body)) frameReaderNumber.nmj6 K s) = _
  cases h : frameReaderNumber.shj6.dec s with
  | none => rfl
  | some v =>
    rw [Shp.dec_enc h]
    kernel_rfl
theorem frameReaderNumber.eq (n : Nat) (x : PT frameReaderNumber.con.ps) : evFuncO frameReaderNumber.env Tryd.f48 frameReaderNumber.body frameReaderNumber.con.ps frameReaderNumber.con.rs (frameReaderNumber.lp n) n x = frameReaderNumber.con.f n x := by kernel_rfl
theorem frameReaderNumber.sound : SoundO Tryd.prog globs 48 frameReaderNumber.con :=
  sound_byO (E := frameReaderNumber.env) (c := frameReaderNumber.body) (envOk (G := globs) (lc := [(37, frameHas.con), (57, packGet.con)]) (lo := []) (envB_spec (by kernel_rfl)) rfl rfl ⟨.inl ⟨frameHas.sound, by kernel_rfl⟩, ⟨.inl ⟨packGet.sound, by kernel_rfl⟩, trivial⟩⟩ rfl trivial (by kernel_rfl) (by kernel_rfl)) Tryd.func48 (by kernel_rfl) (by kernel_rfl) (by kernel_rfl) frameReaderNumber.lp (l := [(false, sub [1, 1, 1, 1] frameReaderNumber.body, frameReaderNumber.nmj6)]) (by kernel_rfl) (fun n => ⟨frameReaderNumber.atj6 n, trivial⟩) frameReaderNumber.eq
noncomputable def packGetText (fu : Nat) (b : List Int) (atv : Int) (most : Int) : Option ((List Int) × Int × Int × Unit) :=
  (packGet fu b atv).bind fun r1 =>
  cond (r1.2.2.1 != (0 : Int)) (
    some (([] : List Int), (0 : Int), r1.2.2.1, ())) (
    let t2 := IntKind.u64.wrap (max2 most (0 : Int))
    cond (decide (r1.1 > t2)) (
      some (([] : List Int), (0 : Int), (4 : Int), ())) (
      let t3 := IntKind.i64.wrap ((b.length : Int) - r1.2.1)
      let t4 := decide (r1.1 > IntKind.u64.wrap t3)
      cond t4 (
        some (([] : List Int), (0 : Int), (3 : Int), ())) (
        let t5 := IntKind.i64.wrap (r1.2.1 + IntKind.i64.wrap r1.1)
        chk (cutOk b r1.2.1 t5) <|
        let t6 := IntKind.i64.wrap (r1.2.1 + IntKind.i64.wrap r1.1)
        some (cutL b r1.2.1 t5, t6, (0 : Int), ()))))

noncomputable def packGetText.body : Code := Tryd.f58.body.getD .skip
noncomputable def packGetText.con : Con := { ps := [(.slice (.int .u8)), (.int .i64), (.int .i64)], rs := [.str, (.int .i64), (.int .i64)], f := fun n x => packGetText n x.1 x.2.1 x.2.2.1 }
noncomputable def packGetText.env : Env := { tys := [(9, ⟨.str, 16⟩), (3, ⟨(.int .i64), 8⟩), (29, ⟨(.int .i64), 8⟩), (23, ⟨(.int .u64), 8⟩), (5, ⟨(.int .u8), 1⟩), (24, ⟨(.slice (.int .u8)), 24⟩)], elems := [(24, 5)], ptrs := [], cons := [(57, packGet.con)], objs := [], loops := [], cuts := [], globs := globs, base := 0 }
noncomputable def packGetText.lp (n : Nat) : LP (Kd.struct packGetText.con.rs).T := fun lo κ body nm K s =>
  loops n (Kd.struct packGetText.con.rs).T lo κ body nm K s
theorem packGetText.eq (n : Nat) (x : (Kd.struct packGetText.con.ps).T) : evFunc packGetText.env Tryd.f58 packGetText.body packGetText.con.ps packGetText.con.rs (packGetText.lp n) n x = packGetText.con.f n x := by kernel_rfl
theorem packGetText.sound : Sound Tryd.prog globs 58 packGetText.con :=
  sound_by (E := packGetText.env) (c := packGetText.body) (envOk (G := globs) (lc := [(57, packGet.con)]) (lo := []) (envB_spec (by kernel_rfl)) rfl rfl ⟨.inl ⟨packGet.sound, by kernel_rfl⟩, trivial⟩ rfl trivial (by kernel_rfl) (by kernel_rfl)) Tryd.func58 (by kernel_rfl) packGetText.lp (l := []) (by kernel_rfl) (fun n => trivial) packGetText.eq
noncomputable def frameReaderText (fu : Nat) (rv : O2) : Option (((List Int) × Unit) × (O2 × Unit)) :=
  cond (rv.2.2.2.1 != (0 : Int)) (
    some (([], ()), (rv, ()))) (
    (frameHas fu rv.2.2.1 (16 : Int)).bind fun r1 =>
    cond (!r1.1) (
      some (([], ()), (rv, ()))) (
      (packGetText fu rv.1 rv.2.1 (8192 : Int)).bind fun r2 =>
      some ((r2.1, ()), ((rv.1, r2.2.1, rv.2.2.1, r2.2.2.1, ()), ()))))

noncomputable def frameReaderText.body : Code := Tryd.f49.body.getD .skip
noncomputable def frameReaderText.con : OCon := { ps := [.obj kO2], rs := [.dat (.slice (.int .u8))], f := fun n x => frameReaderText n x.1 }
noncomputable def frameReaderText.env : Env := { tys := [(24, ⟨(.slice (.int .u8)), 24⟩), (84, ⟨kS4, 48⟩), (29, ⟨(.int .i64), 8⟩), (4, ⟨.bool, 1⟩), (5, ⟨(.int .u8), 1⟩), (3, ⟨(.int .i64), 8⟩), (9, ⟨.str, 16⟩)], elems := [(24, 5)], ptrs := [], cons := [(37, frameHas.con), (58, packGetText.con)], objs := [], loops := [], cuts := [], globs := globs, base := 1 }
noncomputable def frameReaderText.lp (n : Nat) : LP (RT frameReaderText.con.rs × BT frameReaderText.con.ps) := fun lo κ body nm K s =>
  loops n (RT frameReaderText.con.rs × BT frameReaderText.con.ps) lo κ body nm K s
theorem frameReaderText.eq (n : Nat) (x : PT frameReaderText.con.ps) : evFuncO frameReaderText.env Tryd.f49 frameReaderText.body frameReaderText.con.ps frameReaderText.con.rs (frameReaderText.lp n) n x = frameReaderText.con.f n x := by kernel_rfl
theorem frameReaderText.sound : SoundO Tryd.prog globs 49 frameReaderText.con :=
  sound_byO (E := frameReaderText.env) (c := frameReaderText.body) (envOk (G := globs) (lc := [(37, frameHas.con), (58, packGetText.con)]) (lo := []) (envB_spec (by kernel_rfl)) rfl rfl ⟨.inl ⟨frameHas.sound, by kernel_rfl⟩, ⟨.inl ⟨packGetText.sound, by kernel_rfl⟩, trivial⟩⟩ rfl trivial (by kernel_rfl) (by kernel_rfl)) Tryd.func49 (by kernel_rfl) (by kernel_rfl) (by kernel_rfl) frameReaderText.lp (l := []) (by kernel_rfl) (fun n => trivial) frameReaderText.eq
noncomputable def frameBody.j17 (fu : Nat) (k1 : Int → Int → Int → Int → Int → Int → (List Int) → Option (S0 × Int × Unit)) (c0 : Int) (c0x2 : Int) (c0x3 : Int) (c0x4 : Int) (c0x5 : Int) (c0x6 : List Int) (c1 : List Int) (c1x2 : Int) (c1x3 : Int) (c1x4 : Int) (b2 : S0) : Option (S0 × Int × Unit) :=
  cond (c1x4 != (0 : Int)) (
    k1 c1x4 (0 : Int) (0 : Int) (0 : Int) (0 : Int) (0 : Int) []) (
    k1 (0 : Int) b2.1 b2.2.1 b2.2.2.1 b2.2.2.2.1 b2.2.2.2.2.1 b2.2.2.2.2.2.1)
noncomputable def frameBody (fu : Nat) (b : List Int) : Option (S0 × Int × Unit) :=
  let t1 := (b.length : Int) == (0 : Int)
  cond t1 (
    some (((0 : Int), (0 : Int), (0 : Int), (0 : Int), (0 : Int), [], ()), (3 : Int), ())) (
    let t2 := decide ((b.length : Int) > (8192 : Int))
    cond t2 (
      some (((0 : Int), (0 : Int), (0 : Int), (0 : Int), (0 : Int), [], ()), (4 : Int), ())) (
      chk (ixOk b (0 : Int)) <|
      let e3 := ixL (0 : Int) b (0 : Int)
      (frameOf fu e3).bind fun r4 =>
      cond (!r4.2.1) (
        some (((0 : Int), (0 : Int), (0 : Int), (0 : Int), (0 : Int), [], ()), (11 : Int), ())) (
        chk (ixOk b (0 : Int)) <|
        let e5 := ixL (0 : Int) b (0 : Int)
        (frameReaderNumber fu (b, (1 : Int), r4.1, (0 : Int), ()) (1 : Int) (4294967295 : Int)).bind fun r6 =>
        (frameReaderNumber fu r6.2.1 (2 : Int) (4294967295 : Int)).bind fun r7 =>
        (frameReaderNumber fu r7.2.1 (4 : Int) (18446744073709551615 : Int)).bind fun r8 =>
        (frameReaderNumber fu r8.2.1 (8 : Int) (18446744073709551615 : Int)).bind fun r9 =>
        (frameReaderText fu r9.2.1).bind fun r10 =>
        let t11 := r10.2.1.2.2.2.1 == (0 : Int)
        cond t11 (
          let t12 := decide (r10.2.1.2.1 < (b.length : Int))
          cond t12 (
            frameBody.j17 fu (fun vq1 c0q1 c0q1x2 c0q1x3 c0q1x4 c0q1x5 c0q1x6 => 
                some ((c0q1, c0q1x2, c0q1x3, c0q1x4, c0q1x5, c0q1x6, ()), vq1, ())) (0 : Int) (0 : Int) (0 : Int) (0 : Int) (0 : Int) [] r10.2.1.1 r10.2.1.2.1 r10.2.1.2.2.1 (2 : Int) (e5, IntKind.u32.wrap r6.1.1, IntKind.u32.wrap r7.1.1, r8.1.1, r9.1.1, r10.1.1, ())) (
            frameBody.j17 fu (fun vq2 c0q2 c0q2x2 c0q2x3 c0q2x4 c0q2x5 c0q2x6 => 
                some ((c0q2, c0q2x2, c0q2x3, c0q2x4, c0q2x5, c0q2x6, ()), vq2, ())) (0 : Int) (0 : Int) (0 : Int) (0 : Int) (0 : Int) [] r10.2.1.1 r10.2.1.2.1 r10.2.1.2.2.1 r10.2.1.2.2.2.1 (e5, IntKind.u32.wrap r6.1.1, IntKind.u32.wrap r7.1.1, r8.1.1, r9.1.1, r10.1.1, ()))) (
          frameBody.j17 fu (fun vq3 c0q3 c0q3x2 c0q3x3 c0q3x4 c0q3x5 c0q3x6 => 
              some ((c0q3, c0q3x2, c0q3x3, c0q3x4, c0q3x5, c0q3x6, ()), vq3, ())) (0 : Int) (0 : Int) (0 : Int) (0 : Int) (0 : Int) [] r10.2.1.1 r10.2.1.2.1 r10.2.1.2.2.1 r10.2.1.2.2.2.1 (e5, IntKind.u32.wrap r6.1.1, IntKind.u32.wrap r7.1.1, r8.1.1, r9.1.1, r10.1.1, ())))))

noncomputable def frameBody.body : Code := Tryd.f31.body.getD .skip
abbrev frameBody.shj17 : Shp := ⟨[.u, .u, .p 0 0, .u, .u, .u, .p 1 0, .p 2 0, .u, .u, .u, .u, .u, .u, .u, .u, .u, .u, .u, .u, .u, .u, .u, .u, .u, .u, .u, .u, .u, .u, .u, .u, .u, .u, .u, .u, .u, .u, .u, .u, .u, .u, .u, .u, .u, .u, .u, .u, .u, .u, .u, .u, .u, .u, .u, .u, .u, .u, .u, .u, .u, .u, .u, .u, .u, .u, .u, .u, .u, .u, .u, .u, .u, .u, .u, .u, .u, .u, .u, .u, .u], [.c [.d (.int .u8), .d (.int .u32), .d (.int .u32), .d (.int .u64), .d (.int .u64), .o 1005 (.int .u8)], .c [.d (.slice (.int .u8)), .d (.int .i64), .d (.int .u8), .d (.int .i64)], .c [.g kS0]]⟩
abbrev frameBody.outj17e1 : Shp := ⟨[.u, .u, .p 0 0, .d (.int .i64), .u, .u, .u, .u, .u, .u, .u, .u, .u, .u, .u, .u, .u, .u, .u, .u, .u, .u, .u, .u, .u, .u, .u, .u, .u, .u, .u, .u, .u, .u, .u, .u, .u, .u, .u, .u, .u, .u, .u, .u, .u, .u, .u, .u, .u, .u, .u, .u, .u, .u, .u, .u, .u, .u, .u, .u, .u, .u, .u, .u, .u, .u, .u, .u, .u, .u, .u, .u, .u, .u, .u, .u, .u, .u, .u, .u, .u], [.c [.d (.int .u8), .d (.int .u32), .d (.int .u32), .d (.int .u64), .d (.int .u64), .d (.slice (.int .u8))]]⟩
noncomputable def frameBody.nmj17 : Norm := ⟨{ keep := [2, 6, 7], shut := [], retag := [], heap := 3, dead := [], cshut := [(0, 0, (.int .u8)), (0, 1, (.int .u32)), (0, 2, (.int .u32)), (0, 3, (.int .u64)), (0, 4, (.int .u64)), (1, 0, (.slice (.int .u8))), (1, 1, (.int .i64)), (1, 2, (.int .u8)), (1, 3, (.int .i64)), (2, 0, (.int .u8)), (2, 1, (.int .u32)), (2, 2, (.int .u32)), (2, 3, (.int .u64)), (2, 4, (.int .u64)), (2, 5, (.slice (.int .u8)))], cretag := [(0, 5, 1005, (.int .u8))] }, [(1, { keep := [2, 3], shut := [(3, (.int .i64))], retag := [], heap := 1, dead := [], cshut := [(0, 0, (.int .u8)), (0, 1, (.int .u32)), (0, 2, (.int .u32)), (0, 3, (.int .u64)), (0, 4, (.int .u64)), (0, 5, (.slice (.int .u8)))], cretag := [] })]⟩
noncomputable def frameBody.con : Con := { ps := [(.slice (.int .u8))], rs := [kS0, (.int .i64)], f := fun n x => frameBody n x.1 }
noncomputable def frameBody.env : Env := { tys := [(26, ⟨kS0, 56⟩), (29, ⟨(.int .i64), 8⟩), (5, ⟨(.int .u8), 1⟩), (84, ⟨kS4, 48⟩), (22, ⟨(.int .u32), 4⟩), (23, ⟨(.int .u64), 8⟩), (24, ⟨(.slice (.int .u8)), 24⟩), (3, ⟨(.int .i64), 8⟩), (4, ⟨.bool, 1⟩)], elems := [(24, 5)], ptrs := [], cons := [(36, frameOf.con)], objs := [(48, [frameReaderNumber.con]), (49, [frameReaderText.con])], loops := [], cuts := [(17, frameBody.nmj17)], globs := globs, base := 0 }
noncomputable def frameBody.lp (n : Nat) : LP (Kd.struct frameBody.con.rs).T := fun lo κ body nm K s =>
  cond (!lo && Nat.beq κ 17)
    (match frameBody.shj17.dec s with
    | some v => frameBody.j17 n (fun w0 w1 w2 w3 w4 w5 w6 => K .ret (frameBody.outj17e1.enc (w0, w1, w2, w3, w4, w5, w6, ()))) v.1 v.2.1 v.2.2.1 v.2.2.2.1 v.2.2.2.2.1 v.2.2.2.2.2.1 v.2.2.2.2.2.2.1 v.2.2.2.2.2.2.2.1 v.2.2.2.2.2.2.2.2.1 v.2.2.2.2.2.2.2.2.2.1 v.2.2.2.2.2.2.2.2.2.2.1
    | none => loops n (Kd.struct frameBody.con.rs).T lo κ body nm K s)
    (loops n (Kd.struct frameBody.con.rs).T lo κ body nm K s)
theorem frameBody.atj17 (n : Nat) (s : St) (K : Ex → St → Option (Kd.struct frameBody.con.rs).T) : (frameBody.lp n) false 17 (evK frameBody.env (frameBody.lp n) n (sub [1, 1, 1, 1, 1, 1, 1, 1, 1, 1, 1, 1] frameBody.body)) frameBody.nmj17 K s = loops n (Kd.struct frameBody.con.rs).T false 17 (evK frameBody.env (frameBody.lp n) n (sub [1, 1, 1, 1, 1, 1, 1, 1, 1, 1, 1, 1] frameBody.body)) frameBody.nmj17 K s := by
  show (match frameBody.shj17.dec s with | some v => frameBody.j17 n (fun w0 w1 w2 w3 w4 w5 w6 => K .ret (frameBody.outj17e1.enc (w0, w1, w2, w3, w4, w5, w6, ()))) v.1 v.2.1 v.2.2.1 v.2.2.2.1 v.2.2.2.2.1 v.2.2.2.2.2.1 v.2.2.2.2.2.2.1 v.2.2.2.2.2.2.2.1 v.2.2.2.2.2.2.2.2.1 v.2.2.2.2.2.2.2.2.2.1 v.2.2.2.2.2.2.2.2.2.2.1 | none => loops n (Kd.struct frameBody.con.rs).T false 17 (evK frameBody.env (frameBody.lp n) n (sub [1, 1, 1, 1, 1, 1, 1, 1, 1, 1, 1, 1] frameBody.body)) frameBody.nmj17 K s) = _
  cases h : frameBody.shj17.dec s with
  | none => rfl
  | some v =>
    rw [Shp.dec_enc h]
    kernel_rfl
theorem frameBody.eq (n : Nat) (x : (Kd.struct frameBody.con.ps).T) : evFunc frameBody.env Tryd.f31 frameBody.body frameBody.con.ps frameBody.con.rs (frameBody.lp n) n x = frameBody.con.f n x := by kernel_rfl
theorem frameBody.sound : Sound Tryd.prog globs 31 frameBody.con :=
  sound_by (E := frameBody.env) (c := frameBody.body) (envOk (G := globs) (lc := [(36, frameOf.con)]) (lo := [(48, [frameReaderNumber.con]), (49, [frameReaderText.con])]) (envB_spec (by kernel_rfl)) rfl rfl ⟨.inl ⟨frameOf.sound, by kernel_rfl⟩, trivial⟩ rfl ⟨⟨⟨frameReaderNumber.sound, trivial⟩, by kernel_rfl⟩, ⟨⟨⟨frameReaderText.sound, trivial⟩, by kernel_rfl⟩, trivial⟩⟩ (by kernel_rfl) (by kernel_rfl)) Tryd.func31 (by kernel_rfl) frameBody.lp (l := [(false, sub [1, 1, 1, 1, 1, 1, 1, 1, 1, 1, 1, 1] frameBody.body, frameBody.nmj17)]) (by kernel_rfl) (fun n => ⟨frameBody.atj17 n, trivial⟩) frameBody.eq
noncomputable def streamNext.j3 (fu : Nat) (k1 : Int → Int → Int → Int → Int → Int → Int → (List Int) → Option (S0 × Int × Int × Unit)) (b : List Int) (atv : Int) (c0 : Int) (c0x2 : Int) (c0x3 : Int) (c0x4 : Int) (c0x5 : Int) (c0x6 : List Int) : Option (S0 × Int × Int × Unit) :=
  (recGet fu b atv).bind fun r1 =>
  cond (r1.2.2.1 != (0 : Int)) (
    k1 (0 : Int) r1.2.2.1 (0 : Int) (0 : Int) (0 : Int) (0 : Int) (0 : Int) []) (
    (frameBody fu r1.1).bind fun r2 =>
    cond (r2.2.1 == (3 : Int)) (
      k1 r1.2.1 (2 : Int) r2.1.1 r2.1.2.1 r2.1.2.2.1 r2.1.2.2.2.1 r2.1.2.2.2.2.1 r2.1.2.2.2.2.2.1) (
      k1 r1.2.1 r2.2.1 r2.1.1 r2.1.2.1 r2.1.2.2.1 r2.1.2.2.2.1 r2.1.2.2.2.2.1 r2.1.2.2.2.2.2.1))
noncomputable def streamNext (fu : Nat) (b : List Int) (atv : Int) : Option (S0 × Int × Int × Unit) :=
  let t1 := IntKind.i64.wrap ((b.length : Int) - atv)
  cond (decide (t1 ≥ (4 : Int))) (
    chk (cutOk b atv (b.length : Int)) <|
    let t2 := cutL b atv (b.length : Int)
    (streamLength fu t2).bind fun r3 =>
    let t4 := decide (r3.1 > (8192 : Int))
    cond t4 (
      some (((0 : Int), (0 : Int), (0 : Int), (0 : Int), (0 : Int), [], ()), (0 : Int), (4 : Int), ())) (
      streamNext.j3 fu (fun vq1 vq1x2 c0q1 c0q1x2 c0q1x3 c0q1x4 c0q1x5 c0q1x6 => 
          some ((c0q1, c0q1x2, c0q1x3, c0q1x4, c0q1x5, c0q1x6, ()), vq1, vq1x2, ())) b atv (0 : Int) (0 : Int) (0 : Int) (0 : Int) (0 : Int) [])) (
    streamNext.j3 fu (fun vq2 vq2x2 c0q2 c0q2x2 c0q2x3 c0q2x4 c0q2x5 c0q2x6 => 
        some ((c0q2, c0q2x2, c0q2x3, c0q2x4, c0q2x5, c0q2x6, ()), vq2, vq2x2, ())) b atv (0 : Int) (0 : Int) (0 : Int) (0 : Int) (0 : Int) [])

noncomputable def streamNext.body : Code := Tryd.f35.body.getD .skip
abbrev streamNext.shj3 : Shp := ⟨[.d (.slice (.int .u8)), .d (.int .i64), .u, .u, .p 0 0, .u, .u, .u, .u, .u, .u, .u, .u, .u, .u, .u, .u, .u, .u, .u, .u, .u, .u, .u, .u, .u, .u, .u, .u, .u, .u, .u, .u, .u, .u, .u, .u, .u, .u, .u, .u, .u, .u, .u, .u], [.c [.d (.int .u8), .d (.int .u32), .d (.int .u32), .d (.int .u64), .d (.int .u64), .o 1005 (.int .u8)]]⟩
abbrev streamNext.outj3e1 : Shp := ⟨[.u, .u, .u, .u, .p 0 0, .d (.int .i64), .d (.int .i64), .u, .u, .u, .u, .u, .u, .u, .u, .u, .u, .u, .u, .u, .u, .u, .u, .u, .u, .u, .u, .u, .u, .u, .u, .u, .u, .u, .u, .u, .u, .u, .u, .u, .u, .u, .u, .u, .u], [.c [.d (.int .u8), .d (.int .u32), .d (.int .u32), .d (.int .u64), .d (.int .u64), .d (.slice (.int .u8))]]⟩
noncomputable def streamNext.nmj3 : Norm := ⟨{ keep := [0, 1, 4], shut := [(0, (.slice (.int .u8))), (1, (.int .i64))], retag := [], heap := 1, dead := [], cshut := [(0, 0, (.int .u8)), (0, 1, (.int .u32)), (0, 2, (.int .u32)), (0, 3, (.int .u64)), (0, 4, (.int .u64))], cretag := [(0, 5, 1005, (.int .u8))] }, [(1, { keep := [4, 5, 6], shut := [(5, (.int .i64)), (6, (.int .i64))], retag := [], heap := 1, dead := [], cshut := [(0, 0, (.int .u8)), (0, 1, (.int .u32)), (0, 2, (.int .u32)), (0, 3, (.int .u64)), (0, 4, (.int .u64)), (0, 5, (.slice (.int .u8)))], cretag := [] })]⟩
noncomputable def streamNext.con : Con := { ps := [(.slice (.int .u8)), (.int .i64)], rs := [kS0, (.int .i64), (.int .i64)], f := fun n x => streamNext n x.1 x.2.1 }
noncomputable def streamNext.env : Env := { tys := [(26, ⟨kS0, 56⟩), (3, ⟨(.int .i64), 8⟩), (29, ⟨(.int .i64), 8⟩), (5, ⟨(.int .u8), 1⟩), (4, ⟨.bool, 1⟩)], elems := [(24, 5)], ptrs := [], cons := [(52, streamLength.con), (30, recGet.con), (31, frameBody.con)], objs := [], loops := [], cuts := [(3, streamNext.nmj3)], globs := globs, base := 0 }
noncomputable def streamNext.lp (n : Nat) : LP (Kd.struct streamNext.con.rs).T := fun lo κ body nm K s =>
  cond (!lo && Nat.beq κ 3)
    (match streamNext.shj3.dec s with
    | some v => streamNext.j3 n (fun w0 w1 w2 w3 w4 w5 w6 w7 => K .ret (streamNext.outj3e1.enc (w0, w1, w2, w3, w4, w5, w6, w7, ()))) v.1 v.2.1 v.2.2.1 v.2.2.2.1 v.2.2.2.2.1 v.2.2.2.2.2.1 v.2.2.2.2.2.2.1 v.2.2.2.2.2.2.2.1
    | none => loops n (Kd.struct streamNext.con.rs).T lo κ body nm K s)
    (loops n (Kd.struct streamNext.con.rs).T lo κ body nm K s)
theorem streamNext.atj3 (n : Nat) (s : St) (K : Ex → St → Option (Kd.struct streamNext.con.rs).T) : (streamNext.lp n) false 3 (evK streamNext.env (streamNext.lp n) n (sub [1, 1] streamNext.body)) streamNext.nmj3 K s = loops n (Kd.struct streamNext.con.rs).T false 3 (evK streamNext.env (streamNext.lp n) n (sub [1, 1] streamNext.body)) streamNext.nmj3 K s := by
  show (match streamNext.shj3.dec s with | some v => streamNext.j3 n (fun w0 w1 w2 w3 w4 w5 w6 w7 => K .ret (streamNext.outj3e1.enc (w0, w1, w2, w3, w4, w5, w6, w7, ()))) v.1 v.2.1 v.2.2.1 v.2.2.2.1 v.2.2.2.2.1 v.2.2.2.2.2.1 v.2.2.2.2.2.2.1 v.2.2.2.2.2.2.2.1 | none => loops n (Kd.struct streamNext.con.rs).T false 3 (evK streamNext.env (streamNext.lp n) n (sub [1, 1] streamNext.body)) streamNext.nmj3 K s) = _
  cases h : streamNext.shj3.dec s with
  | none => rfl
  | some v =>
    rw [Shp.dec_enc h]
    kernel_rfl
theorem streamNext.eq (n : Nat) (x : (Kd.struct streamNext.con.ps).T) : evFunc streamNext.env Tryd.f35 streamNext.body streamNext.con.ps streamNext.con.rs (streamNext.lp n) n x = streamNext.con.f n x := by kernel_rfl
theorem streamNext.sound : Sound Tryd.prog globs 35 streamNext.con :=
  sound_by (E := streamNext.env) (c := streamNext.body) (envOk (G := globs) (lc := [(52, streamLength.con), (30, recGet.con), (31, frameBody.con)]) (lo := []) (envB_spec (by kernel_rfl)) rfl rfl ⟨.inl ⟨streamLength.sound, by kernel_rfl⟩, ⟨.inl ⟨recGet.sound, by kernel_rfl⟩, ⟨.inl ⟨frameBody.sound, by kernel_rfl⟩, trivial⟩⟩⟩ rfl trivial (by kernel_rfl) (by kernel_rfl)) Tryd.func35 (by kernel_rfl) streamNext.lp (l := [(false, sub [1, 1] streamNext.body, streamNext.nmj3)]) (by kernel_rfl) (fun n => ⟨streamNext.atj3 n, trivial⟩) streamNext.eq
noncomputable def streamStreamTake.b10 (fu : Nat) (next : (List S0) → Int → (List Int) → Int → Option (((List S0) × Int × Unit) × (O1 × Unit))) (k1 : (List S0) → Int → (List Int) → Int → Option (((List S0) × Int × Unit) × (O1 × Unit))) (k3 : (List S0) → Int → (List Int) → Int → Option (((List S0) × Int × Unit) × (O1 × Unit))) (out : List S0) (atv : Int) (c0 : List Int) (c0x2 : Int) : Option (((List S0) × Int × Unit) × (O1 × Unit)) :=
  (streamNext fu c0 atv).bind fun r1 =>
  cond (r1.2.2.1 == (0 : Int)) (
    chk (apOk out ([r1.1]) 56) <|
    next (out ++ ([r1.1])) r1.2.1 c0 c0x2) (
    cond (r1.2.2.1 == (3 : Int)) (
      k3 out atv c0 c0x2) (
      (streamStreamBreaks fu (c0, c0x2, ()) r1.2.2.1).bind fun r2 =>
      k1 out r2.1.1 r2.2.1.1 r2.2.1.2.1))
noncomputable def streamStreamTake.l10 (fu : Nat) (k1 : (List S0) → Int → (List Int) → Int → Option (((List S0) × Int × Unit) × (O1 × Unit))) (k3 : (List S0) → Int → (List Int) → Int → Option (((List S0) × Int × Unit) × (O1 × Unit))) : Nat → (List S0) → Int → (List Int) → Int → Option (((List S0) × Int × Unit) × (O1 × Unit))
  | 0, _, _, _, _ => none
  | m + 1, out, atv, c0, c0x2 => streamStreamTake.b10 fu (streamStreamTake.l10 fu k1 k3 m) k1 k3 out atv c0 c0x2
noncomputable def streamStreamTake (fu : Nat) (sv : O1) (piece : List Int) : Option (((List S0) × Int × Unit) × (O1 × Unit)) :=
  cond (sv.2.1 != (0 : Int)) (
    some (([], sv.2.1, ()), (sv, ()))) (
    let t1 := decide ((piece.length : Int) > (16384 : Int))
    cond t1 (
      (streamStreamBreaks fu sv (4 : Int)).bind fun r2 =>
      some (([], r2.1.1, ()), (r2.2.1, ()))) (
      chk (apOk sv.1 piece 1) <|
      streamStreamTake.l10 fu (fun vq3 vq3x2 c0q3 c0q3x2 => 
          some ((vq3, vq3x2, ()), ((c0q3, c0q3x2, ()), ()))) (fun outq4 atvq4 c0q4 c0q4x2 => 
          chk (cutOk c0q4 atvq4 (c0q4.length : Int)) <|
          let t3 := cutL c0q4 atvq4 (c0q4.length : Int)
          chk (apOk [] t3 1) <|
          some ((outq4, (0 : Int), ()), (([] ++ t3, c0q4x2, ()), ()))) fu [] (0 : Int) (sv.1 ++ piece) sv.2.1))

noncomputable def streamStreamTake.body : Code := Tryd.f18.body.getD .skip
abbrev streamStreamTake.shl10 : Shp := ⟨[.p 0 0, .u, .u, .u, .u, .u, .o 6 kS0, .d (.int .i64), .u, .u, .u, .u, .u, .u, .u, .u, .u, .u, .u, .u, .u, .u, .u, .u, .u, .u, .u, .u, .u, .u, .u, .u, .u, .u, .u, .u, .u, .u, .u, .u, .u, .u, .u, .u, .u, .u, .u, .u, .u, .u, .u, .u, .u, .u, .u, .u, .u, .u, .u, .u, .u, .u, .u, .u, .u, .u, .u, .u, .u, .u, .u, .u, .u, .u, .u], [.c [.o 1000 (.int .u8), .d (.int .i64)]]⟩
abbrev streamStreamTake.outl10e1 : Shp := ⟨[.u, .u, .u, .u, .o 4 kS0, .d (.int .i64), .u, .u, .u, .u, .u, .u, .u, .u, .u, .u, .u, .u, .u, .u, .u, .u, .u, .u, .u, .u, .u, .u, .u, .u, .u, .u, .u, .u, .u, .u, .u, .u, .u, .u, .u, .u, .u, .u, .u, .u, .u, .u, .u, .u, .u, .u, .u, .u, .u, .u, .u, .u, .u, .u, .u, .u, .u, .u, .u, .u, .u, .u, .u, .u, .u, .u, .u, .u, .u], [.c [.o 1000 (.int .u8), .d (.int .i64)]]⟩
abbrev streamStreamTake.outl10e3 : Shp := ⟨[.p 0 0, .u, .u, .u, .u, .u, .o 6 kS0, .d (.int .i64), .u, .u, .u, .u, .u, .u, .u, .u, .u, .u, .u, .u, .u, .u, .u, .u, .u, .u, .u, .u, .u, .u, .u, .u, .u, .u, .u, .u, .u, .u, .u, .u, .u, .u, .u, .u, .u, .u, .u, .u, .u, .u, .u, .u, .u, .u, .u, .u, .u, .u, .u, .u, .u, .u, .u, .u, .u, .u, .u, .u, .u, .u, .u, .u, .u, .u, .u], [.c [.o 1000 (.int .u8), .d (.int .i64)]]⟩
noncomputable def streamStreamTake.nml10 : Norm := ⟨{ keep := [0, 6, 7], shut := [(7, (.int .i64))], retag := [(6, 6, kS0)], heap := 1, dead := [], cshut := [(0, 1, (.int .i64))], cretag := [(0, 0, 1000, (.int .u8))] }, [(1, { keep := [4, 5], shut := [(5, (.int .i64))], retag := [(4, 4, kS0)], heap := 1, dead := [], cshut := [(0, 1, (.int .i64))], cretag := [(0, 0, 1000, (.int .u8))] }), (3, { keep := [0, 6, 7], shut := [(7, (.int .i64))], retag := [(6, 6, kS0)], heap := 1, dead := [], cshut := [(0, 1, (.int .i64))], cretag := [(0, 0, 1000, (.int .u8))] })]⟩
noncomputable def streamStreamTake.con : OCon := { ps := [.obj kO1, .dat (.slice (.int .u8))], rs := [.dat (.slice kS0), .dat (.int .i64)], f := fun n x => streamStreamTake n x.1 x.2.1 }
noncomputable def streamStreamTake.env : Env := { tys := [(41, ⟨(.slice kS0), 24⟩), (29, ⟨(.int .i64), 8⟩), (67, ⟨kS3, 32⟩), (5, ⟨(.int .u8), 1⟩), (24, ⟨(.slice (.int .u8)), 24⟩), (3, ⟨(.int .i64), 8⟩), (26, ⟨kS0, 56⟩)], elems := [(24, 5), (41, 26)], ptrs := [(43, 67)], cons := [(35, streamNext.con)], objs := [(34, [streamStreamBreaks.con])], loops := [(10, streamStreamTake.nml10)], cuts := [], globs := globs, base := 1 }
noncomputable def streamStreamTake.lp (n : Nat) : LP (RT streamStreamTake.con.rs × BT streamStreamTake.con.ps) := fun lo κ body nm K s =>
  cond (lo && Nat.beq κ 10)
    (match streamStreamTake.shl10.dec s with
    | some v => streamStreamTake.l10 n (fun w0 w1 w2 w3 => K .ret (streamStreamTake.outl10e1.enc (w0, w1, w2, w3, ()))) (fun w0 w1 w2 w3 => K (.exit 1) (streamStreamTake.outl10e3.enc (w0, w1, w2, w3, ()))) n v.1 v.2.1 v.2.2.1 v.2.2.2.1
    | none => loops n (RT streamStreamTake.con.rs × BT streamStreamTake.con.ps) lo κ body nm K s)
    (loops n (RT streamStreamTake.con.rs × BT streamStreamTake.con.ps) lo κ body nm K s)
theorem streamStreamTake.atl10 (n : Nat) (s : St) (K : Ex → St → Option (RT streamStreamTake.con.rs × BT streamStreamTake.con.ps)) : (streamStreamTake.lp n) true 10 (evK streamStreamTake.env (streamStreamTake.lp n) n (sub [1, 0, 1, 1, 1, 1, 1, 0, 0, 0] streamStreamTake.body)) streamStreamTake.nml10 K s = loops n (RT streamStreamTake.con.rs × BT streamStreamTake.con.ps) true 10 (evK streamStreamTake.env (streamStreamTake.lp n) n (sub [1, 0, 1, 1, 1, 1, 1, 0, 0, 0] streamStreamTake.body)) streamStreamTake.nml10 K s := by
  show (match streamStreamTake.shl10.dec s with | some v => streamStreamTake.l10 n (fun w0 w1 w2 w3 => K .ret (streamStreamTake.outl10e1.enc (w0, w1, w2, w3, ()))) (fun w0 w1 w2 w3 => K (.exit 1) (streamStreamTake.outl10e3.enc (w0, w1, w2, w3, ()))) n v.1 v.2.1 v.2.2.1 v.2.2.2.1 | none => loops n (RT streamStreamTake.con.rs × BT streamStreamTake.con.ps) true 10 (evK streamStreamTake.env (streamStreamTake.lp n) n (sub [1, 0, 1, 1, 1, 1, 1, 0, 0, 0] streamStreamTake.body)) streamStreamTake.nml10 K s) = _
  cases h : streamStreamTake.shl10.dec s with
  | none => rfl
  | some v =>
    rw [Shp.dec_enc h]
    exact (evLoop_eq (sh := streamStreamTake.shl10) (body := evK streamStreamTake.env (streamStreamTake.lp n) n (sub [1, 0, 1, 1, 1, 1, 1, 0, 0, 0] streamStreamTake.body)) (nm := streamStreamTake.nml10) (K := K) (b := fun nx v => streamStreamTake.b10 n (fun x0 x1 x2 x3 => nx (x0, x1, x2, x3, ())) (fun w0 w1 w2 w3 => K .ret (streamStreamTake.outl10e1.enc (w0, w1, w2, w3, ()))) (fun w0 w1 w2 w3 => K (.exit 1) (streamStreamTake.outl10e3.enc (w0, w1, w2, w3, ()))) v.1 v.2.1 v.2.2.1 v.2.2.2.1) (l := fun m v => streamStreamTake.l10 n (fun w0 w1 w2 w3 => K .ret (streamStreamTake.outl10e1.enc (w0, w1, w2, w3, ()))) (fun w0 w1 w2 w3 => K (.exit 1) (streamStreamTake.outl10e3.enc (w0, w1, w2, w3, ()))) m v.1 v.2.1 v.2.2.1 v.2.2.2.1) (fun _ => rfl) (fun _ _ => rfl) (fun m v => by kernel_rfl) n v).symm
theorem streamStreamTake.eq (n : Nat) (x : PT streamStreamTake.con.ps) : evFuncO streamStreamTake.env Tryd.f18 streamStreamTake.body streamStreamTake.con.ps streamStreamTake.con.rs (streamStreamTake.lp n) n x = streamStreamTake.con.f n x := by kernel_rfl
theorem streamStreamTake.sound : SoundO Tryd.prog globs 18 streamStreamTake.con :=
  sound_byO (E := streamStreamTake.env) (c := streamStreamTake.body) (envOk (G := globs) (lc := [(35, streamNext.con)]) (lo := [(34, [streamStreamBreaks.con])]) (envB_spec (by kernel_rfl)) rfl rfl ⟨.inl ⟨streamNext.sound, by kernel_rfl⟩, trivial⟩ rfl ⟨⟨⟨streamStreamBreaks.sound, trivial⟩, by kernel_rfl⟩, trivial⟩ (by kernel_rfl) (by kernel_rfl)) Tryd.func18 (by kernel_rfl) (by kernel_rfl) (by kernel_rfl) streamStreamTake.lp (l := [(true, sub [1, 0, 1, 1, 1, 1, 1, 0, 0, 0] streamStreamTake.body, streamStreamTake.nml10)]) (by kernel_rfl) (fun n => ⟨streamStreamTake.atl10 n, trivial⟩) streamStreamTake.eq
noncomputable def streamStreamLen (fu : Nat) (sv : O1) : Option ((Int × Unit) × (O1 × Unit)) :=
  some (((sv.1.length : Int), ()), (sv, ()))

noncomputable def streamStreamLen.body : Code := Tryd.f20.body.getD .skip
noncomputable def streamStreamLen.con : OCon := { ps := [.obj kO1], rs := [.dat (.int .i64)], f := fun n x => streamStreamLen n x.1 }
noncomputable def streamStreamLen.env : Env := { tys := [(3, ⟨(.int .i64), 8⟩), (67, ⟨kS3, 32⟩), (24, ⟨(.slice (.int .u8)), 24⟩), (5, ⟨(.int .u8), 1⟩)], elems := [(24, 5)], ptrs := [(43, 67)], cons := [], objs := [], loops := [], cuts := [], globs := globs, base := 1 }
noncomputable def streamStreamLen.lp (n : Nat) : LP (RT streamStreamLen.con.rs × BT streamStreamLen.con.ps) := fun lo κ body nm K s =>
  loops n (RT streamStreamLen.con.rs × BT streamStreamLen.con.ps) lo κ body nm K s
theorem streamStreamLen.eq (n : Nat) (x : PT streamStreamLen.con.ps) : evFuncO streamStreamLen.env Tryd.f20 streamStreamLen.body streamStreamLen.con.ps streamStreamLen.con.rs (streamStreamLen.lp n) n x = streamStreamLen.con.f n x := by kernel_rfl
theorem streamStreamLen.sound : SoundO Tryd.prog globs 20 streamStreamLen.con :=
  sound_byO (E := streamStreamLen.env) (c := streamStreamLen.body) (envOk (G := globs) (lc := []) (lo := []) (envB_spec (by kernel_rfl)) rfl rfl trivial rfl trivial (by kernel_rfl) (by kernel_rfl)) Tryd.func20 (by kernel_rfl) (by kernel_rfl) (by kernel_rfl) streamStreamLen.lp (l := []) (by kernel_rfl) (fun n => trivial) streamStreamLen.eq
noncomputable def law21Fixed (fu : Nat) : Option (Bool × Unit) :=
  (streamNew fu).bind fun r1 =>
  oc r1.1.1 (
    (ref20Put fu ((13 : Int), (0 : Int), (0 : Int), (5 : Int), (0 : Int), [], ())).bind fun r3 =>
    some (false, ())) fun o2 =>
  (ref20Put fu ((13 : Int), (0 : Int), (0 : Int), (5 : Int), (0 : Int), [], ())).bind fun r4 =>
  chk (cutOk r4.1 (0 : Int) (5 : Int)) <|
  let t5 := cutL r4.1 (0 : Int) (5 : Int)
  (streamStreamTake fu o2 t5).bind fun r6 =>
  chk (cutOk r4.1 (5 : Int) (r4.1.length : Int)) <|
  let t7 := cutL r4.1 (5 : Int) (r4.1.length : Int)
  (streamStreamTake fu r6.2.1 t7).bind fun r8 =>
  let t9 := (r6.1.1.length : Int) == (0 : Int)
  cond t9 (
    cond (r6.1.2.1 == (0 : Int)) (
      let t10 := (r8.1.1.length : Int) == (1 : Int)
      cond t10 (
        cond (r8.1.2.1 == (0 : Int)) (
          chk (ixOk r8.1.1 (0 : Int)) <|
          let e11 := ixL ((0 : Int), (0 : Int), (0 : Int), (0 : Int), (0 : Int), [], ()) r8.1.1 (0 : Int)
          cond (e11.2.2.2.1 == (5 : Int)) (
            (streamStreamLen fu r8.2.1).bind fun r12 =>
            some (r12.1.1 == (0 : Int), ())) (
            some (false, ()))) (
          some (false, ()))) (
        some (false, ()))) (
      some (false, ()))) (
    some (false, ()))

noncomputable def law21Fixed.body : Code := Tryd.f16.body.getD .skip
noncomputable def law21Fixed.con : Con := { ps := [], rs := [.bool], f := fun n x => law21Fixed n }
noncomputable def law21Fixed.env : Env := { tys := [(4, ⟨.bool, 1⟩), (43, ⟨.np, 8⟩), (26, ⟨kS0, 56⟩), (5, ⟨(.int .u8), 1⟩), (23, ⟨(.int .u64), 8⟩)], elems := [(24, 5), (41, 26)], ptrs := [(43, 67)], cons := [(12, ref20Put.con)], objs := [(17, [streamNew.con]), (18, [streamStreamTake.con]), (20, [streamStreamLen.con])], loops := [], cuts := [], globs := globs, base := 0 }
noncomputable def law21Fixed.lp (n : Nat) : LP (Kd.struct law21Fixed.con.rs).T := fun lo κ body nm K s =>
  loops n (Kd.struct law21Fixed.con.rs).T lo κ body nm K s
theorem law21Fixed.eq (n : Nat) (x : (Kd.struct law21Fixed.con.ps).T) : evFunc law21Fixed.env Tryd.f16 law21Fixed.body law21Fixed.con.ps law21Fixed.con.rs (law21Fixed.lp n) n x = law21Fixed.con.f n x := by kernel_rfl
theorem law21Fixed.sound : Sound Tryd.prog globs 16 law21Fixed.con :=
  sound_by (E := law21Fixed.env) (c := law21Fixed.body) (envOk (G := globs) (lc := [(12, ref20Put.con)]) (lo := [(17, [streamNew.con]), (18, [streamStreamTake.con]), (20, [streamStreamLen.con])]) (envB_spec (by kernel_rfl)) rfl rfl ⟨.inl ⟨ref20Put.sound, by kernel_rfl⟩, trivial⟩ rfl ⟨⟨⟨streamNew.sound, trivial⟩, by kernel_rfl⟩, ⟨⟨⟨streamStreamTake.sound, trivial⟩, by kernel_rfl⟩, ⟨⟨⟨streamStreamLen.sound, trivial⟩, by kernel_rfl⟩, trivial⟩⟩⟩ (by kernel_rfl) (by kernel_rfl)) Tryd.func16 (by kernel_rfl) law21Fixed.lp (l := []) (by kernel_rfl) (fun n => trivial) law21Fixed.eq
noncomputable def streamStreamBrokenNil (fu : Nat) : Option ((Int × Unit) × (Unit)) :=
  some (((1 : Int), ()), (()))

noncomputable def streamStreamBrokenNil.body : Code := Tryd.f21.body.getD .skip
noncomputable def streamStreamBrokenNil.con : OCon := { ps := [.nil], rs := [.dat (.int .i64)], f := fun n x => streamStreamBrokenNil n }
noncomputable def streamStreamBrokenNil.env : Env := { tys := [(29, ⟨(.int .i64), 8⟩), (43, ⟨.np, 8⟩)], elems := [], ptrs := [(43, 67)], cons := [], objs := [], loops := [], cuts := [], globs := globs, base := 0 }
noncomputable def streamStreamBrokenNil.lp (n : Nat) : LP (RT streamStreamBrokenNil.con.rs × BT streamStreamBrokenNil.con.ps) := fun lo κ body nm K s =>
  loops n (RT streamStreamBrokenNil.con.rs × BT streamStreamBrokenNil.con.ps) lo κ body nm K s
theorem streamStreamBrokenNil.eq (n : Nat) (x : PT streamStreamBrokenNil.con.ps) : evFuncO streamStreamBrokenNil.env Tryd.f21 streamStreamBrokenNil.body streamStreamBrokenNil.con.ps streamStreamBrokenNil.con.rs (streamStreamBrokenNil.lp n) n x = streamStreamBrokenNil.con.f n x := by kernel_rfl
theorem streamStreamBrokenNil.sound : SoundO Tryd.prog globs 21 streamStreamBrokenNil.con :=
  sound_byO (E := streamStreamBrokenNil.env) (c := streamStreamBrokenNil.body) (envOk (G := globs) (lc := []) (lo := []) (envB_spec (by kernel_rfl)) rfl rfl trivial rfl trivial (by kernel_rfl) (by kernel_rfl)) Tryd.func21 (by kernel_rfl) (by kernel_rfl) (by kernel_rfl) streamStreamBrokenNil.lp (l := []) (by kernel_rfl) (fun n => trivial) streamStreamBrokenNil.eq
noncomputable def streamStreamLenNil (fu : Nat) : Option ((Int × Unit) × (Unit)) :=
  some (((0 : Int), ()), (()))

noncomputable def streamStreamLenNil.body : Code := Tryd.f20.body.getD .skip
noncomputable def streamStreamLenNil.con : OCon := { ps := [.nil], rs := [.dat (.int .i64)], f := fun n x => streamStreamLenNil n }
noncomputable def streamStreamLenNil.env : Env := { tys := [(3, ⟨(.int .i64), 8⟩), (43, ⟨.np, 8⟩)], elems := [], ptrs := [(43, 67)], cons := [], objs := [], loops := [], cuts := [], globs := globs, base := 0 }
noncomputable def streamStreamLenNil.lp (n : Nat) : LP (RT streamStreamLenNil.con.rs × BT streamStreamLenNil.con.ps) := fun lo κ body nm K s =>
  loops n (RT streamStreamLenNil.con.rs × BT streamStreamLenNil.con.ps) lo κ body nm K s
theorem streamStreamLenNil.eq (n : Nat) (x : PT streamStreamLenNil.con.ps) : evFuncO streamStreamLenNil.env Tryd.f20 streamStreamLenNil.body streamStreamLenNil.con.ps streamStreamLenNil.con.rs (streamStreamLenNil.lp n) n x = streamStreamLenNil.con.f n x := by kernel_rfl
theorem streamStreamLenNil.sound : SoundO Tryd.prog globs 20 streamStreamLenNil.con :=
  sound_byO (E := streamStreamLenNil.env) (c := streamStreamLenNil.body) (envOk (G := globs) (lc := []) (lo := []) (envB_spec (by kernel_rfl)) rfl rfl trivial rfl trivial (by kernel_rfl) (by kernel_rfl)) Tryd.func20 (by kernel_rfl) (by kernel_rfl) (by kernel_rfl) streamStreamLenNil.lp (l := []) (by kernel_rfl) (fun n => trivial) streamStreamLenNil.eq
noncomputable def law21StreamNil (fu : Nat) (b : List Int) : Option (Bool × Unit) :=
  (streamStreamTakeNil fu b).bind fun r1 =>
  (law21Fixed fu).bind fun r2 =>
  cond r2.1 (
    let t3 := (r1.1.1.length : Int) == (0 : Int)
    cond t3 (
      cond (r1.1.2.1 == (1 : Int)) (
        (streamStreamBrokenNil fu).bind fun r4 =>
        cond (r4.1.1 == (1 : Int)) (
          (streamStreamLenNil fu).bind fun r5 =>
          some (r5.1.1 == (0 : Int), ())) (
          some (false, ()))) (
        some (false, ()))) (
      some (false, ()))) (
    some (false, ()))

noncomputable def law21StreamNil.body : Code := Tryd.f7.body.getD .skip
noncomputable def law21StreamNil.con : Con := { ps := [(.slice (.int .u8))], rs := [.bool], f := fun n x => law21StreamNil n x.1 }
noncomputable def law21StreamNil.env : Env := { tys := [(4, ⟨.bool, 1⟩), (43, ⟨.np, 8⟩), (26, ⟨kS0, 56⟩)], elems := [(41, 26)], ptrs := [], cons := [(16, law21Fixed.con)], objs := [(18, [streamStreamTakeNil.con]), (20, [streamStreamLenNil.con]), (21, [streamStreamBrokenNil.con])], loops := [], cuts := [], globs := globs, base := 0 }
noncomputable def law21StreamNil.lp (n : Nat) : LP (Kd.struct law21StreamNil.con.rs).T := fun lo κ body nm K s =>
  loops n (Kd.struct law21StreamNil.con.rs).T lo κ body nm K s
theorem law21StreamNil.eq (n : Nat) (x : (Kd.struct law21StreamNil.con.ps).T) : evFunc law21StreamNil.env Tryd.f7 law21StreamNil.body law21StreamNil.con.ps law21StreamNil.con.rs (law21StreamNil.lp n) n x = law21StreamNil.con.f n x := by kernel_rfl
theorem law21StreamNil.sound : Sound Tryd.prog globs 7 law21StreamNil.con :=
  sound_by (E := law21StreamNil.env) (c := law21StreamNil.body) (envOk (G := globs) (lc := [(16, law21Fixed.con)]) (lo := [(18, [streamStreamTakeNil.con]), (20, [streamStreamLenNil.con]), (21, [streamStreamBrokenNil.con])]) (envB_spec (by kernel_rfl)) rfl rfl ⟨.inl ⟨law21Fixed.sound, by kernel_rfl⟩, trivial⟩ rfl ⟨⟨⟨streamStreamTakeNil.sound, trivial⟩, by kernel_rfl⟩, ⟨⟨⟨streamStreamLenNil.sound, trivial⟩, by kernel_rfl⟩, ⟨⟨⟨streamStreamBrokenNil.sound, trivial⟩, by kernel_rfl⟩, trivial⟩⟩⟩ (by kernel_rfl) (by kernel_rfl)) Tryd.func7 (by kernel_rfl) law21StreamNil.lp (l := []) (by kernel_rfl) (fun n => trivial) law21StreamNil.eq
noncomputable def ref20Same (fu : Nat) (a : S0) (b : S0) : Option (Bool × Unit) :=
  cond (a.1 == b.1) (
    cond (a.2.1 == b.2.1) (
      cond (a.2.2.1 == b.2.2.1) (
        cond (a.2.2.2.1 == b.2.2.2.1) (
          let t1 := a.2.2.2.2.1 == b.2.2.2.2.1
          cond t1 (
            let t2 := a.2.2.2.2.2.1 == b.2.2.2.2.2.1
            some (t2, ())) (
            some (false, ()))) (
          some (false, ()))) (
        some (false, ()))) (
      some (false, ()))) (
    some (false, ()))

noncomputable def ref20Same.body : Code := Tryd.f10.body.getD .skip
noncomputable def ref20Same.con : Con := { ps := [kS0, kS0], rs := [.bool], f := fun n x => ref20Same n x.1 x.2.1 }
noncomputable def ref20Same.env : Env := { tys := [(26, ⟨kS0, 56⟩), (4, ⟨.bool, 1⟩), (5, ⟨(.int .u8), 1⟩), (22, ⟨(.int .u32), 4⟩), (23, ⟨(.int .u64), 8⟩), (24, ⟨(.slice (.int .u8)), 24⟩), (9, ⟨.str, 16⟩)], elems := [(24, 5)], ptrs := [], cons := [], objs := [], loops := [], cuts := [], globs := globs, base := 0 }
noncomputable def ref20Same.lp (n : Nat) : LP (Kd.struct ref20Same.con.rs).T := fun lo κ body nm K s =>
  loops n (Kd.struct ref20Same.con.rs).T lo κ body nm K s
theorem ref20Same.eq (n : Nat) (x : (Kd.struct ref20Same.con.ps).T) : evFunc ref20Same.env Tryd.f10 ref20Same.body ref20Same.con.ps ref20Same.con.rs (ref20Same.lp n) n x = ref20Same.con.f n x := by kernel_rfl
theorem ref20Same.sound : Sound Tryd.prog globs 10 ref20Same.con :=
  sound_by (E := ref20Same.env) (c := ref20Same.body) (envOk (G := globs) (lc := []) (lo := []) (envB_spec (by kernel_rfl)) rfl rfl trivial rfl trivial (by kernel_rfl) (by kernel_rfl)) Tryd.func10 (by kernel_rfl) ref20Same.lp (l := []) (by kernel_rfl) (fun n => trivial) ref20Same.eq
noncomputable def ref20SameAll.b4 (fu : Nat) (next : (List S0) → (List S0) → Int → Int → Option (Bool × Unit)) (k1 : Bool → Option (Bool × Unit)) (k2 : Unit → Option (Bool × Unit)) (a : List S0) (b : List S0) (v : Int) (vx2 : Int) : Option (Bool × Unit) :=
  cond (decide (vx2 < v)) (
    chk (ixOk a vx2) <|
    let e1 := ixL ((0 : Int), (0 : Int), (0 : Int), (0 : Int), (0 : Int), [], ()) a vx2
    chk (ixOk b vx2) <|
    let e2 := ixL ((0 : Int), (0 : Int), (0 : Int), (0 : Int), (0 : Int), [], ()) b vx2
    (ref20Same fu e1 e2).bind fun r3 =>
    cond (!r3.1) (
      k1 false) (
      let t4 := IntKind.i64.wrap (vx2 + (1 : Int))
      next a b v t4)) (
    k2 ())
noncomputable def ref20SameAll.l4 (fu : Nat) (k1 : Bool → Option (Bool × Unit)) (k2 : Unit → Option (Bool × Unit)) : Nat → (List S0) → (List S0) → Int → Int → Option (Bool × Unit)
  | 0, _, _, _, _ => none
  | m + 1, a, b, v, vx2 => ref20SameAll.b4 fu (ref20SameAll.l4 fu k1 k2 m) k1 k2 a b v vx2
noncomputable def ref20SameAll (fu : Nat) (a : List S0) (b : List S0) : Option (Bool × Unit) :=
  let t1 := (a.length : Int) != (b.length : Int)
  cond t1 (
    some (false, ())) (
    ref20SameAll.l4 fu (fun vq3 => 
        some (vq3, ())) (fun (_ : Unit) => 
        some (true, ())) fu a b (a.length : Int) (0 : Int))

noncomputable def ref20SameAll.body : Code := Tryd.f19.body.getD .skip
abbrev ref20SameAll.shl4 : Shp := ⟨[.d (.slice kS0), .d (.slice kS0), .u, .u, .u, .u, .u, .u, .u, .u, .u, .u, .d (.int .i64), .d (.int .i64), .u, .u, .u, .u, .u, .u, .u, .u, .u, .u, .u, .u, .u], []⟩
abbrev ref20SameAll.outl4e1 : Shp := ⟨[.u, .u, .u, .u, .d .bool, .u, .u, .u, .u, .u, .u, .u, .u, .u, .u, .u, .u, .u, .u, .u, .u, .u, .u, .u, .u, .u, .u], []⟩
abbrev ref20SameAll.outl4e2 : Shp := ⟨[.u, .u, .u, .u, .u, .u, .u, .u, .u, .u, .u, .u, .u, .u, .u, .u, .u, .u, .u, .u, .u, .u, .u, .u, .u, .u, .u], []⟩
noncomputable def ref20SameAll.nml4 : Norm := ⟨{ keep := [0, 1, 12, 13], shut := [(0, (.slice kS0)), (1, (.slice kS0)), (12, (.int .i64)), (13, (.int .i64))], retag := [], heap := 0, dead := [], cshut := [], cretag := [] }, [(1, { keep := [4], shut := [(4, .bool)], retag := [], heap := 0, dead := [], cshut := [], cretag := [] }), (2, { keep := [], shut := [], retag := [], heap := 0, dead := [], cshut := [], cretag := [] })]⟩
noncomputable def ref20SameAll.con : Con := { ps := [(.slice kS0), (.slice kS0)], rs := [.bool], f := fun n x => ref20SameAll n x.1 x.2.1 }
noncomputable def ref20SameAll.env : Env := { tys := [(4, ⟨.bool, 1⟩), (26, ⟨kS0, 56⟩), (3, ⟨(.int .i64), 8⟩)], elems := [(41, 26)], ptrs := [], cons := [(10, ref20Same.con)], objs := [], loops := [(4, ref20SameAll.nml4)], cuts := [], globs := globs, base := 0 }
noncomputable def ref20SameAll.lp (n : Nat) : LP (Kd.struct ref20SameAll.con.rs).T := fun lo κ body nm K s =>
  cond (lo && Nat.beq κ 4)
    (match ref20SameAll.shl4.dec s with
    | some v => ref20SameAll.l4 n (fun w0 => K .ret (ref20SameAll.outl4e1.enc (w0, ()))) (fun _ => K (.exit 0) (ref20SameAll.outl4e2.enc (()))) n v.1 v.2.1 v.2.2.1 v.2.2.2.1
    | none => loops n (Kd.struct ref20SameAll.con.rs).T lo κ body nm K s)
    (loops n (Kd.struct ref20SameAll.con.rs).T lo κ body nm K s)
theorem ref20SameAll.atl4 (n : Nat) (s : St) (K : Ex → St → Option (Kd.struct ref20SameAll.con.rs).T) : (ref20SameAll.lp n) true 4 (evK ref20SameAll.env (ref20SameAll.lp n) n (sub [1, 1, 0, 1, 0, 0] ref20SameAll.body)) ref20SameAll.nml4 K s = loops n (Kd.struct ref20SameAll.con.rs).T true 4 (evK ref20SameAll.env (ref20SameAll.lp n) n (sub [1, 1, 0, 1, 0, 0] ref20SameAll.body)) ref20SameAll.nml4 K s := by
  show (match ref20SameAll.shl4.dec s with | some v => ref20SameAll.l4 n (fun w0 => K .ret (ref20SameAll.outl4e1.enc (w0, ()))) (fun _ => K (.exit 0) (ref20SameAll.outl4e2.enc (()))) n v.1 v.2.1 v.2.2.1 v.2.2.2.1 | none => loops n (Kd.struct ref20SameAll.con.rs).T true 4 (evK ref20SameAll.env (ref20SameAll.lp n) n (sub [1, 1, 0, 1, 0, 0] ref20SameAll.body)) ref20SameAll.nml4 K s) = _
  cases h : ref20SameAll.shl4.dec s with
  | none => rfl
  | some v =>
    rw [Shp.dec_enc h]
    exact (evLoop_eq (sh := ref20SameAll.shl4) (body := evK ref20SameAll.env (ref20SameAll.lp n) n (sub [1, 1, 0, 1, 0, 0] ref20SameAll.body)) (nm := ref20SameAll.nml4) (K := K) (b := fun nx v => ref20SameAll.b4 n (fun x0 x1 x2 x3 => nx (x0, x1, x2, x3, ())) (fun w0 => K .ret (ref20SameAll.outl4e1.enc (w0, ()))) (fun _ => K (.exit 0) (ref20SameAll.outl4e2.enc (()))) v.1 v.2.1 v.2.2.1 v.2.2.2.1) (l := fun m v => ref20SameAll.l4 n (fun w0 => K .ret (ref20SameAll.outl4e1.enc (w0, ()))) (fun _ => K (.exit 0) (ref20SameAll.outl4e2.enc (()))) m v.1 v.2.1 v.2.2.1 v.2.2.2.1) (fun _ => rfl) (fun _ _ => rfl) (fun m v => by kernel_rfl) n v).symm
theorem ref20SameAll.eq (n : Nat) (x : (Kd.struct ref20SameAll.con.ps).T) : evFunc ref20SameAll.env Tryd.f19 ref20SameAll.body ref20SameAll.con.ps ref20SameAll.con.rs (ref20SameAll.lp n) n x = ref20SameAll.con.f n x := by kernel_rfl
theorem ref20SameAll.sound : Sound Tryd.prog globs 19 ref20SameAll.con :=
  sound_by (E := ref20SameAll.env) (c := ref20SameAll.body) (envOk (G := globs) (lc := [(10, ref20Same.con)]) (lo := []) (envB_spec (by kernel_rfl)) rfl rfl ⟨.inl ⟨ref20Same.sound, by kernel_rfl⟩, trivial⟩ rfl trivial (by kernel_rfl) (by kernel_rfl)) Tryd.func19 (by kernel_rfl) ref20SameAll.lp (l := [(true, sub [1, 1, 0, 1, 0, 0] ref20SameAll.body, ref20SameAll.nml4)]) (by kernel_rfl) (fun n => ⟨ref20SameAll.atl4 n, trivial⟩) ref20SameAll.eq
noncomputable def streamStreamBroken (fu : Nat) (sv : O1) : Option ((Int × Unit) × (O1 × Unit)) :=
  some ((sv.2.1, ()), (sv, ()))

noncomputable def streamStreamBroken.body : Code := Tryd.f21.body.getD .skip
noncomputable def streamStreamBroken.con : OCon := { ps := [.obj kO1], rs := [.dat (.int .i64)], f := fun n x => streamStreamBroken n x.1 }
noncomputable def streamStreamBroken.env : Env := { tys := [(29, ⟨(.int .i64), 8⟩), (67, ⟨kS3, 32⟩)], elems := [], ptrs := [(43, 67)], cons := [], objs := [], loops := [], cuts := [], globs := globs, base := 1 }
noncomputable def streamStreamBroken.lp (n : Nat) : LP (RT streamStreamBroken.con.rs × BT streamStreamBroken.con.ps) := fun lo κ body nm K s =>
  loops n (RT streamStreamBroken.con.rs × BT streamStreamBroken.con.ps) lo κ body nm K s
theorem streamStreamBroken.eq (n : Nat) (x : PT streamStreamBroken.con.ps) : evFuncO streamStreamBroken.env Tryd.f21 streamStreamBroken.body streamStreamBroken.con.ps streamStreamBroken.con.rs (streamStreamBroken.lp n) n x = streamStreamBroken.con.f n x := by kernel_rfl
theorem streamStreamBroken.sound : SoundO Tryd.prog globs 21 streamStreamBroken.con :=
  sound_byO (E := streamStreamBroken.env) (c := streamStreamBroken.body) (envOk (G := globs) (lc := []) (lo := []) (envB_spec (by kernel_rfl)) rfl rfl trivial rfl trivial (by kernel_rfl) (by kernel_rfl)) Tryd.func21 (by kernel_rfl) (by kernel_rfl) (by kernel_rfl) streamStreamBroken.lp (l := []) (by kernel_rfl) (fun n => trivial) streamStreamBroken.eq
noncomputable def law21StreamCuts.b6 (fu : Nat) (next : (List Int) → (List Int) → (List S0) → (List S0) → Int → Int → Option (Bool × Unit)) (k1 : Bool → Option (Bool × Unit)) (k2 : (List Int) → (List Int) → (List S0) → Option (Bool × Unit)) (cuts : List Int) (all : List Int) (want : List S0) (v : List S0) (vx2 : Int) (vx3 : Int) : Option (Bool × Unit) :=
  cond (decide (vx3 < vx2)) (
    chk (ixOk v vx3) <|
    let e1 := ixL ((0 : Int), (0 : Int), (0 : Int), (0 : Int), (0 : Int), [], ()) v vx3
    let t2 := (e1.2.2.2.2.2.1.length : Int)
    let t3 := decide (t2 > (200 : Int))
    cond t3 (
      (law21Fixed fu).bind fun r4 =>
      k1 r4.1) (
      (ref20Put fu e1).bind fun r5 =>
      cond (r5.2.1 == (0 : Int)) (
        chk (apOk all r5.1 1) <|
        chk (apOk want ([e1]) 56) <|
        let t6 := IntKind.i64.wrap (vx3 + (1 : Int))
        next cuts (all ++ r5.1) (want ++ ([e1])) v vx2 t6) (
        let t7 := IntKind.i64.wrap (vx3 + (1 : Int))
        next cuts all want v vx2 t7))) (
    k2 cuts all want)
noncomputable def law21StreamCuts.l6 (fu : Nat) (k1 : Bool → Option (Bool × Unit)) (k2 : (List Int) → (List Int) → (List S0) → Option (Bool × Unit)) : Nat → (List Int) → (List Int) → (List S0) → (List S0) → Int → Int → Option (Bool × Unit)
  | 0, _, _, _, _, _, _ => none
  | m + 1, cuts, all, want, v, vx2, vx3 => law21StreamCuts.b6 fu (law21StreamCuts.l6 fu k1 k2 m) k1 k2 cuts all want v vx2 vx3
noncomputable def law21StreamCuts.b20 (fu : Nat) (next : (List Int) → (List S0) → (List S0) → (List Int) → Int → Int → (List Int) → Int → Option (Bool × Unit)) (k1 : Bool → Option (Bool × Unit)) (k4 : (List Int) → (List S0) → (List S0) → (List Int) → Int → Option (Bool × Unit)) (all : List Int) (want : List S0) (got : List S0) (v : List Int) (vx2 : Int) (vx3 : Int) (c0 : List Int) (c0x2 : Int) : Option (Bool × Unit) :=
  cond (decide (vx3 < vx2)) (
    chk (ixOk v vx3) <|
    let e1 := ixL (0 : Int) v vx3
    let t2 := IntKind.i64.wrap ((all.length : Int) + (1 : Int))
    chk (t2 != 0) <|
    let t3 := Int.tmod (IntKind.i64.wrap e1) t2
    chk (cutOk all (0 : Int) t3) <|
    (streamStreamTake fu (c0, c0x2, ()) (cutL all (0 : Int) t3)).bind fun r4 =>
    cond (r4.1.2.1 != (0 : Int)) (
      k1 false) (
      chk (apOk got r4.1.1 56) <|
      chk (cutOk all t3 (all.length : Int)) <|
      let t5 := cutL all t3 (all.length : Int)
      let t6 := IntKind.i64.wrap (vx3 + (1 : Int))
      next t5 want (got ++ r4.1.1) v vx2 t6 r4.2.1.1 r4.2.1.2.1)) (
    k4 all want got c0 c0x2)
noncomputable def law21StreamCuts.l20 (fu : Nat) (k1 : Bool → Option (Bool × Unit)) (k4 : (List Int) → (List S0) → (List S0) → (List Int) → Int → Option (Bool × Unit)) : Nat → (List Int) → (List S0) → (List S0) → (List Int) → Int → Int → (List Int) → Int → Option (Bool × Unit)
  | 0, _, _, _, _, _, _, _, _ => none
  | m + 1, all, want, got, v, vx2, vx3, c0, c0x2 => law21StreamCuts.b20 fu (law21StreamCuts.l20 fu k1 k4 m) k1 k4 all want got v vx2 vx3 c0 c0x2
noncomputable def law21StreamCuts (fu : Nat) (l : List S0) (cuts : List Int) : Option (Bool × Unit) :=
  let t1 := decide ((l.length : Int) > (40 : Int))
  cond t1 (
    (law21Fixed fu).bind fun r2 =>
    some (r2.1, ())) (
    let t3 := decide ((cuts.length : Int) > (200 : Int))
    cond t3 (
      (law21Fixed fu).bind fun r4 =>
      some (r4.1, ())) (
      law21StreamCuts.l6 fu (fun vq3 => 
          some (vq3, ())) (fun cutsq4 allq4 wantq4 => 
          (streamNew fu).bind fun r5 =>
          oc r5.1.1 (
            some (false, ())) fun o6 =>
          law21StreamCuts.l20 fu (fun vq11 => 
              some (vq11, ())) (fun allq12 wantq12 gotq12 c0q12 c0q12x2 => 
              (streamStreamTake fu (c0q12, c0q12x2, ()) allq12).bind fun r7 =>
              chk (apOk gotq12 r7.1.1 56) <|
              (law21Fixed fu).bind fun r8 =>
              cond r8.1 (
                cond (r7.1.2.1 == (0 : Int)) (
                  (ref20SameAll fu (gotq12 ++ r7.1.1) wantq12).bind fun r9 =>
                  cond r9.1 (
                    (streamStreamLen fu r7.2.1).bind fun r10 =>
                    cond (r10.1.1 == (0 : Int)) (
                      (streamStreamBroken fu r10.2.1).bind fun r11 =>
                      some (r11.1.1 == (0 : Int), ())) (
                      some (false, ()))) (
                    some (false, ()))) (
                  some (false, ()))) (
                some (false, ()))) fu allq4 wantq4 [] cutsq4 (cutsq4.length : Int) (0 : Int) o6.1 o6.2.1) fu cuts [] [] l (l.length : Int) (0 : Int)))

noncomputable def law21StreamCuts.body : Code := Tryd.f6.body.getD .skip
abbrev law21StreamCuts.shl6 : Shp := ⟨[.u, .d (.slice (.int .u16)), .u, .u, .u, .o 5 (.int .u8), .o 6 kS0, .u, .u, .u, .u, .u, .u, .u, .u, .u, .u, .u, .u, .u, .u, .u, .u, .u, .u, .u, .u, .u, .u, .d (.slice kS0), .d (.int .i64), .d (.int .i64), .u, .u, .u, .u, .u, .u, .u, .u, .u, .u, .u, .u, .u, .u, .u, .u, .u, .u, .u, .u, .u, .u, .u, .u, .u, .u, .u, .u, .u, .u, .u, .u, .u, .u, .u, .u, .u, .u, .u, .u, .u, .u, .u, .u, .u, .u, .u, .u, .u, .u, .u, .u, .u, .u, .u, .u, .u, .u, .u, .u, .u, .u, .u, .u, .u, .u, .u, .u, .u, .u, .u, .u, .u, .u, .u, .u, .u, .u, .u, .u, .u, .u, .u, .u], []⟩
abbrev law21StreamCuts.outl6e1 : Shp := ⟨[.u, .u, .u, .u, .d .bool, .u, .u, .u, .u, .u, .u, .u, .u, .u, .u, .u, .u, .u, .u, .u, .u, .u, .u, .u, .u, .u, .u, .u, .u, .u, .u, .u, .u, .u, .u, .u, .u, .u, .u, .u, .u, .u, .u, .u, .u, .u, .u, .u, .u, .u, .u, .u, .u, .u, .u, .u, .u, .u, .u, .u, .u, .u, .u, .u, .u, .u, .u, .u, .u, .u, .u, .u, .u, .u, .u, .u, .u, .u, .u, .u, .u, .u, .u, .u, .u, .u, .u, .u, .u, .u, .u, .u, .u, .u, .u, .u, .u, .u, .u, .u, .u, .u, .u, .u, .u, .u, .u, .u, .u, .u, .u, .u, .u, .u, .u, .u], []⟩
abbrev law21StreamCuts.outl6e2 : Shp := ⟨[.u, .d (.slice (.int .u16)), .u, .u, .u, .o 5 (.int .u8), .o 6 kS0, .u, .u, .u, .u, .u, .u, .u, .u, .u, .u, .u, .u, .u, .u, .u, .u, .u, .u, .u, .u, .u, .u, .u, .u, .u, .u, .u, .u, .u, .u, .u, .u, .u, .u, .u, .u, .u, .u, .u, .u, .u, .u, .u, .u, .u, .u, .u, .u, .u, .u, .u, .u, .u, .u, .u, .u, .u, .u, .u, .u, .u, .u, .u, .u, .u, .u, .u, .u, .u, .u, .u, .u, .u, .u, .u, .u, .u, .u, .u, .u, .u, .u, .u, .u, .u, .u, .u, .u, .u, .u, .u, .u, .u, .u, .u, .u, .u, .u, .u, .u, .u, .u, .u, .u, .u, .u, .u, .u, .u], []⟩
noncomputable def law21StreamCuts.nml6 : Norm := ⟨{ keep := [1, 5, 6, 29, 30, 31], shut := [(1, (.slice (.int .u16))), (29, (.slice kS0)), (30, (.int .i64)), (31, (.int .i64))], retag := [(5, 5, (.int .u8)), (6, 6, kS0)], heap := 0, dead := [], cshut := [], cretag := [] }, [(1, { keep := [4], shut := [(4, .bool)], retag := [], heap := 0, dead := [], cshut := [], cretag := [] }), (2, { keep := [1, 5, 6], shut := [(1, (.slice (.int .u16)))], retag := [(5, 5, (.int .u8)), (6, 6, kS0)], heap := 0, dead := [], cshut := [], cretag := [] })]⟩
abbrev law21StreamCuts.shl20 : Shp := ⟨[.u, .u, .u, .u, .u, .d (.slice (.int .u8)), .o 6 kS0, .u, .u, .u, .u, .p 0 0, .o 12 kS0, .u, .u, .u, .u, .u, .u, .u, .u, .u, .u, .u, .u, .u, .u, .u, .u, .u, .u, .u, .u, .u, .u, .u, .u, .u, .u, .u, .u, .u, .u, .u, .u, .u, .u, .u, .u, .u, .u, .u, .u, .u, .u, .u, .u, .u, .d (.slice (.int .u16)), .d (.int .i64), .d (.int .i64), .u, .u, .u, .u, .u, .u, .u, .u, .u, .u, .u, .u, .u, .u, .u, .u, .u, .u, .u, .u, .u, .u, .u, .u, .u, .u, .u, .u, .u, .u, .u, .u, .u, .u, .u, .u, .u, .u, .u, .u, .u, .u, .u, .u, .u, .u, .u, .u, .u, .u, .u, .u, .u, .u, .u], [.c [.o 1000 (.int .u8), .d (.int .i64)]]⟩
abbrev law21StreamCuts.outl20e1 : Shp := ⟨[.u, .u, .u, .u, .d .bool, .u, .u, .u, .u, .u, .u, .u, .u, .u, .u, .u, .u, .u, .u, .u, .u, .u, .u, .u, .u, .u, .u, .u, .u, .u, .u, .u, .u, .u, .u, .u, .u, .u, .u, .u, .u, .u, .u, .u, .u, .u, .u, .u, .u, .u, .u, .u, .u, .u, .u, .u, .u, .u, .u, .u, .u, .u, .u, .u, .u, .u, .u, .u, .u, .u, .u, .u, .u, .u, .u, .u, .u, .u, .u, .u, .u, .u, .u, .u, .u, .u, .u, .u, .u, .u, .u, .u, .u, .u, .u, .u, .u, .u, .u, .u, .u, .u, .u, .u, .u, .u, .u, .u, .u, .u, .u, .u, .u, .u, .u, .u], []⟩
abbrev law21StreamCuts.outl20e4 : Shp := ⟨[.u, .u, .u, .u, .u, .d (.slice (.int .u8)), .o 6 kS0, .u, .u, .u, .u, .p 0 0, .o 12 kS0, .u, .u, .u, .u, .u, .u, .u, .u, .u, .u, .u, .u, .u, .u, .u, .u, .u, .u, .u, .u, .u, .u, .u, .u, .u, .u, .u, .u, .u, .u, .u, .u, .u, .u, .u, .u, .u, .u, .u, .u, .u, .u, .u, .u, .u, .u, .u, .u, .u, .u, .u, .u, .u, .u, .u, .u, .u, .u, .u, .u, .u, .u, .u, .u, .u, .u, .u, .u, .u, .u, .u, .u, .u, .u, .u, .u, .u, .u, .u, .u, .u, .u, .u, .u, .u, .u, .u, .u, .u, .u, .u, .u, .u, .u, .u, .u, .u, .u, .u, .u, .u, .u, .u], [.c [.o 1000 (.int .u8), .d (.int .i64)]]⟩
noncomputable def law21StreamCuts.nml20 : Norm := ⟨{ keep := [5, 6, 11, 12, 58, 59, 60], shut := [(5, (.slice (.int .u8))), (58, (.slice (.int .u16))), (59, (.int .i64)), (60, (.int .i64))], retag := [(6, 6, kS0), (12, 12, kS0)], heap := 1, dead := [], cshut := [(0, 1, (.int .i64))], cretag := [(0, 0, 1000, (.int .u8))] }, [(1, { keep := [4], shut := [(4, .bool)], retag := [], heap := 0, dead := [], cshut := [], cretag := [] }), (4, { keep := [5, 6, 11, 12], shut := [(5, (.slice (.int .u8)))], retag := [(6, 6, kS0), (12, 12, kS0)], heap := 1, dead := [], cshut := [(0, 1, (.int .i64))], cretag := [(0, 0, 1000, (.int .u8))] })]⟩
noncomputable def law21StreamCuts.con : Con := { ps := [(.slice kS0), (.slice (.int .u16))], rs := [.bool], f := fun n x => law21StreamCuts n x.1 x.2.1 }
noncomputable def law21StreamCuts.env : Env := { tys := [(4, ⟨.bool, 1⟩), (26, ⟨kS0, 56⟩), (45, ⟨(.int .u16), 2⟩), (24, ⟨(.slice (.int .u8)), 24⟩), (41, ⟨(.slice kS0), 24⟩), (3, ⟨(.int .i64), 8⟩), (5, ⟨(.int .u8), 1⟩), (43, ⟨.np, 8⟩)], elems := [(41, 26), (42, 45), (24, 5)], ptrs := [(43, 67)], cons := [(16, law21Fixed.con), (12, ref20Put.con), (19, ref20SameAll.con)], objs := [(17, [streamNew.con]), (18, [streamStreamTake.con]), (20, [streamStreamLen.con]), (21, [streamStreamBroken.con])], loops := [(6, law21StreamCuts.nml6), (20, law21StreamCuts.nml20)], cuts := [], globs := globs, base := 0 }
noncomputable def law21StreamCuts.lp (n : Nat) : LP (Kd.struct law21StreamCuts.con.rs).T := fun lo κ body nm K s =>
  cond (lo && Nat.beq κ 6)
    (match law21StreamCuts.shl6.dec s with
    | some v => law21StreamCuts.l6 n (fun w0 => K .ret (law21StreamCuts.outl6e1.enc (w0, ()))) (fun w0 w1 w2 => K (.exit 0) (law21StreamCuts.outl6e2.enc (w0, w1, w2, ()))) n v.1 v.2.1 v.2.2.1 v.2.2.2.1 v.2.2.2.2.1 v.2.2.2.2.2.1
    | none => loops n (Kd.struct law21StreamCuts.con.rs).T lo κ body nm K s)
    (cond (lo && Nat.beq κ 20)
    (match law21StreamCuts.shl20.dec s with
    | some v => law21StreamCuts.l20 n (fun w0 => K .ret (law21StreamCuts.outl20e1.enc (w0, ()))) (fun w0 w1 w2 w3 w4 => K (.exit 2) (law21StreamCuts.outl20e4.enc (w0, w1, w2, w3, w4, ()))) n v.1 v.2.1 v.2.2.1 v.2.2.2.1 v.2.2.2.2.1 v.2.2.2.2.2.1 v.2.2.2.2.2.2.1 v.2.2.2.2.2.2.2.1
    | none => loops n (Kd.struct law21StreamCuts.con.rs).T lo κ body nm K s)
    (loops n (Kd.struct law21StreamCuts.con.rs).T lo κ body nm K s))
theorem law21StreamCuts.atl6 (n : Nat) (s : St) (K : Ex → St → Option (Kd.struct law21StreamCuts.con.rs).T) : (law21StreamCuts.lp n) true 6 (evK law21StreamCuts.env (law21StreamCuts.lp n) n (sub [1, 1, 1, 1, 0, 1, 0, 0] law21StreamCuts.body)) law21StreamCuts.nml6 K s = loops n (Kd.struct law21StreamCuts.con.rs).T true 6 (evK law21StreamCuts.env (law21StreamCuts.lp n) n (sub [1, 1, 1, 1, 0, 1, 0, 0] law21StreamCuts.body)) law21StreamCuts.nml6 K s := by
  show (match law21StreamCuts.shl6.dec s with | some v => law21StreamCuts.l6 n (fun w0 => K .ret (law21StreamCuts.outl6e1.enc (w0, ()))) (fun w0 w1 w2 => K (.exit 0) (law21StreamCuts.outl6e2.enc (w0, w1, w2, ()))) n v.1 v.2.1 v.2.2.1 v.2.2.2.1 v.2.2.2.2.1 v.2.2.2.2.2.1 | none => loops n (Kd.struct law21StreamCuts.con.rs).T true 6 (evK law21StreamCuts.env (law21StreamCuts.lp n) n (sub [1, 1, 1, 1, 0, 1, 0, 0] law21StreamCuts.body)) law21StreamCuts.nml6 K s) = _
  cases h : law21StreamCuts.shl6.dec s with
  | none => rfl
  | some v =>
    rw [Shp.dec_enc h]
    exact (evLoop_eq (sh := law21StreamCuts.shl6) (body := evK law21StreamCuts.env (law21StreamCuts.lp n) n (sub [1, 1, 1, 1, 0, 1, 0, 0] law21StreamCuts.body)) (nm := law21StreamCuts.nml6) (K := K) (b := fun nx v => law21StreamCuts.b6 n (fun x0 x1 x2 x3 x4 x5 => nx (x0, x1, x2, x3, x4, x5, ())) (fun w0 => K .ret (law21StreamCuts.outl6e1.enc (w0, ()))) (fun w0 w1 w2 => K (.exit 0) (law21StreamCuts.outl6e2.enc (w0, w1, w2, ()))) v.1 v.2.1 v.2.2.1 v.2.2.2.1 v.2.2.2.2.1 v.2.2.2.2.2.1) (l := fun m v => law21StreamCuts.l6 n (fun w0 => K .ret (law21StreamCuts.outl6e1.enc (w0, ()))) (fun w0 w1 w2 => K (.exit 0) (law21StreamCuts.outl6e2.enc (w0, w1, w2, ()))) m v.1 v.2.1 v.2.2.1 v.2.2.2.1 v.2.2.2.2.1 v.2.2.2.2.2.1) (fun _ => rfl) (fun _ _ => rfl) (fun m v => by kernel_rfl) n v).symm
theorem law21StreamCuts.atl20 (n : Nat) (s : St) (K : Ex → St → Option (Kd.struct law21StreamCuts.con.rs).T) : (law21StreamCuts.lp n) true 20 (evK law21StreamCuts.env (law21StreamCuts.lp n) n (sub [1, 1, 1, 1, 1, 1, 1, 1, 0, 1, 0, 0] law21StreamCuts.body)) law21StreamCuts.nml20 K s = loops n (Kd.struct law21StreamCuts.con.rs).T true 20 (evK law21StreamCuts.env (law21StreamCuts.lp n) n (sub [1, 1, 1, 1, 1, 1, 1, 1, 0, 1, 0, 0] law21StreamCuts.body)) law21StreamCuts.nml20 K s := by
  show (match law21StreamCuts.shl20.dec s with | some v => law21StreamCuts.l20 n (fun w0 => K .ret (law21StreamCuts.outl20e1.enc (w0, ()))) (fun w0 w1 w2 w3 w4 => K (.exit 2) (law21StreamCuts.outl20e4.enc (w0, w1, w2, w3, w4, ()))) n v.1 v.2.1 v.2.2.1 v.2.2.2.1 v.2.2.2.2.1 v.2.2.2.2.2.1 v.2.2.2.2.2.2.1 v.2.2.2.2.2.2.2.1 | none => loops n (Kd.struct law21StreamCuts.con.rs).T true 20 (evK law21StreamCuts.env (law21StreamCuts.lp n) n (sub [1, 1, 1, 1, 1, 1, 1, 1, 0, 1, 0, 0] law21StreamCuts.body)) law21StreamCuts.nml20 K s) = _
  cases h : law21StreamCuts.shl20.dec s with
  | none => rfl
  | some v =>
    rw [Shp.dec_enc h]
    exact (evLoop_eq (sh := law21StreamCuts.shl20) (body := evK law21StreamCuts.env (law21StreamCuts.lp n) n (sub [1, 1, 1, 1, 1, 1, 1, 1, 0, 1, 0, 0] law21StreamCuts.body)) (nm := law21StreamCuts.nml20) (K := K) (b := fun nx v => law21StreamCuts.b20 n (fun x0 x1 x2 x3 x4 x5 x6 x7 => nx (x0, x1, x2, x3, x4, x5, x6, x7, ())) (fun w0 => K .ret (law21StreamCuts.outl20e1.enc (w0, ()))) (fun w0 w1 w2 w3 w4 => K (.exit 2) (law21StreamCuts.outl20e4.enc (w0, w1, w2, w3, w4, ()))) v.1 v.2.1 v.2.2.1 v.2.2.2.1 v.2.2.2.2.1 v.2.2.2.2.2.1 v.2.2.2.2.2.2.1 v.2.2.2.2.2.2.2.1) (l := fun m v => law21StreamCuts.l20 n (fun w0 => K .ret (law21StreamCuts.outl20e1.enc (w0, ()))) (fun w0 w1 w2 w3 w4 => K (.exit 2) (law21StreamCuts.outl20e4.enc (w0, w1, w2, w3, w4, ()))) m v.1 v.2.1 v.2.2.1 v.2.2.2.1 v.2.2.2.2.1 v.2.2.2.2.2.1 v.2.2.2.2.2.2.1 v.2.2.2.2.2.2.2.1) (fun _ => rfl) (fun _ _ => rfl) (fun m v => by kernel_rfl) n v).symm
theorem law21StreamCuts.eq (n : Nat) (x : (Kd.struct law21StreamCuts.con.ps).T) : evFunc law21StreamCuts.env Tryd.f6 law21StreamCuts.body law21StreamCuts.con.ps law21StreamCuts.con.rs (law21StreamCuts.lp n) n x = law21StreamCuts.con.f n x := by kernel_rfl
theorem law21StreamCuts.sound : Sound Tryd.prog globs 6 law21StreamCuts.con :=
  sound_by (E := law21StreamCuts.env) (c := law21StreamCuts.body) (envOk (G := globs) (lc := [(16, law21Fixed.con), (12, ref20Put.con), (19, ref20SameAll.con)]) (lo := [(17, [streamNew.con]), (18, [streamStreamTake.con]), (20, [streamStreamLen.con]), (21, [streamStreamBroken.con])]) (envB_spec (by kernel_rfl)) rfl rfl ⟨.inl ⟨law21Fixed.sound, by kernel_rfl⟩, ⟨.inl ⟨ref20Put.sound, by kernel_rfl⟩, ⟨.inl ⟨ref20SameAll.sound, by kernel_rfl⟩, trivial⟩⟩⟩ rfl ⟨⟨⟨streamNew.sound, trivial⟩, by kernel_rfl⟩, ⟨⟨⟨streamStreamTake.sound, trivial⟩, by kernel_rfl⟩, ⟨⟨⟨streamStreamLen.sound, trivial⟩, by kernel_rfl⟩, ⟨⟨⟨streamStreamBroken.sound, trivial⟩, by kernel_rfl⟩, trivial⟩⟩⟩⟩ (by kernel_rfl) (by kernel_rfl)) Tryd.func6 (by kernel_rfl) law21StreamCuts.lp (l := [(true, sub [1, 1, 1, 1, 0, 1, 0, 0] law21StreamCuts.body, law21StreamCuts.nml6), (true, sub [1, 1, 1, 1, 1, 1, 1, 1, 0, 1, 0, 0] law21StreamCuts.body, law21StreamCuts.nml20)]) (by kernel_rfl) (fun n => ⟨law21StreamCuts.atl6 n, ⟨law21StreamCuts.atl20 n, trivial⟩⟩) law21StreamCuts.eq
end
end Go.Shal.Pr
