/- Prints of functions, and proofs that they are what the code computes. By an AI agent. -/
import Derived.Test.YtocfcfaeboemcaaDoorShC
import Derived.Test.YtocfcfaeboemcaaDoorProg
set_option linter.unusedVariables false
set_option maxRecDepth 100000
namespace Go.Shal.Pr
open Go Go.Shal Go.Proofs
noncomputable section
def tabCrcHalves : List Int := [0, 498536548, 997073096, 651767980, 1994146192, 1802195444, 1303535960, 1342533948, 3988292384, 4027552580, 3604390888, 3412177804, 2607071920, 2262029012, 2685067896, 3183342108]
def tabFrameFields : List Int := [0, 17, 7, 21, 5, 31, 7, 7, 7, 7, 7, 5, 21, 4, 4, 1, 4, 15]
def globs : Globs := [(1, ⟨(.arr 16 (.int .u32)), tabCrcHalves⟩), (0, ⟨(.arr 18 (.int .u8)), tabFrameFields⟩)]
abbrev kS0 : Kd := .struct [(.int .u8), (.int .u32), (.int .u32), (.int .u64), (.int .u64), (.slice (.int .u8))]
abbrev S0 : Type := Int × Int × Int × Int × Int × (List Int) × Unit
abbrev kS1 : Kd := .struct [(.int .u8), (.int .u64)]
abbrev S1 : Type := Int × Int × Unit
abbrev kO2 : Ob := (.dat (.slice (.int .u8)) (.dat (.int .i64) (.dat (.int .u8) (.dat (.int .i64) .nil))))
abbrev O2 : Type := (List Int) × Int × Int × Int × Unit
abbrev kS3 : Kd := .struct [(.slice (.int .u8)), (.int .i64), (.int .u8), (.int .i64)]
abbrev S3 : Type := (List Int) × Int × Int × Int × Unit
noncomputable def frameOf (fu : Nat) (kind : Int) : Option (Int × Bool × Unit) :=
  let t1 := decide (kind < (1 : Int))
  cond t1 (
    some ((0 : Int), false, ())) (
    let t2 := decide (kind > (17 : Int))
    cond t2 (
      some ((0 : Int), false, ())) (
      chk (ixArr 18 kind) <|
      let e3 := ixL (0 : Int) tabFrameFields kind
      some (e3, true, ())))

noncomputable def frameOf.body : Code := Tryd.f36.body.getD .skip
noncomputable def frameOf.con : Con := { ps := [(.int .u8)], rs := [(.int .u8), .bool], f := fun n x => frameOf n x.1 }
noncomputable def frameOf.env : Env := { tys := [(5, ⟨(.int .u8), 1⟩), (4, ⟨.bool, 1⟩), (91, ⟨(.arr 18 (.int .u8)), 18⟩)], elems := [], ptrs := [], cons := [], objs := [], loops := [], cuts := [], globs := globs, base := 0 }
noncomputable def frameOf.lp (n : Nat) : LP (Kd.struct frameOf.con.rs).T := fun lo κ body nm K s =>
  loops n (Kd.struct frameOf.con.rs).T lo κ body nm K s
theorem frameOf.eq (n : Nat) (x : (Kd.struct frameOf.con.ps).T) : evFunc frameOf.env Tryd.f36 frameOf.body frameOf.con.ps frameOf.con.rs (frameOf.lp n) n x = frameOf.con.f n x := by kernel_rfl
theorem frameOf.sound : Sound Tryd.prog globs 36 frameOf.con :=
  sound_by (E := frameOf.env) (c := frameOf.body) (envOk (G := globs) (lc := []) (lo := []) (envB_spec (by kernel_rfl)) rfl rfl trivial rfl trivial (by kernel_rfl) (by kernel_rfl)) Tryd.func36 (by kernel_rfl) frameOf.lp (l := []) (by kernel_rfl) (fun n => trivial) frameOf.eq
noncomputable def frameHas (fu : Nat) (l : Int) (field : Int) : Option (Bool × Unit) :=
  let t1 := bAnd .u8 l field != (0 : Int)
  some (t1, ())

noncomputable def frameHas.body : Code := Tryd.f37.body.getD .skip
noncomputable def frameHas.con : Con := { ps := [(.int .u8), (.int .u8)], rs := [.bool], f := fun n x => frameHas n x.1 x.2.1 }
noncomputable def frameHas.env : Env := { tys := [(4, ⟨.bool, 1⟩)], elems := [], ptrs := [], cons := [], objs := [], loops := [], cuts := [], globs := globs, base := 0 }
noncomputable def frameHas.lp (n : Nat) : LP (Kd.struct frameHas.con.rs).T := fun lo κ body nm K s =>
  loops n (Kd.struct frameHas.con.rs).T lo κ body nm K s
theorem frameHas.eq (n : Nat) (x : (Kd.struct frameHas.con.ps).T) : evFunc frameHas.env Tryd.f37 frameHas.body frameHas.con.ps frameHas.con.rs (frameHas.lp n) n x = frameHas.con.f n x := by kernel_rfl
theorem frameHas.sound : Sound Tryd.prog globs 37 frameHas.con :=
  sound_by (E := frameHas.env) (c := frameHas.body) (envOk (G := globs) (lc := []) (lo := []) (envB_spec (by kernel_rfl)) rfl rfl trivial rfl trivial (by kernel_rfl) (by kernel_rfl)) Tryd.func37 (by kernel_rfl) frameHas.lp (l := []) (by kernel_rfl) (fun n => trivial) frameHas.eq
noncomputable def framePlain (fu : Nat) (f : S0) : Option (Bool × Unit) :=
  (frameOf fu f.1).bind fun r1 =>
  cond r1.2.1 (
    (frameHas fu r1.1 (1 : Int)).bind fun r2 =>
    cond r2.1 (
      (frameHas fu r1.1 (2 : Int)).bind fun r3 =>
      cond r3.1 (
        (frameHas fu r1.1 (4 : Int)).bind fun r4 =>
        cond r4.1 (
          (frameHas fu r1.1 (8 : Int)).bind fun r5 =>
          cond r5.1 (
            (frameHas fu r1.1 (16 : Int)).bind fun r6 =>
            cond r6.1 (
              some (true, ())) (
              let t7 := (f.2.2.2.2.2.1.length : Int)
              some (t7 == (0 : Int), ()))) (
            cond (f.2.2.2.2.1 == (0 : Int)) (
              (frameHas fu r1.1 (16 : Int)).bind fun r8 =>
              cond r8.1 (
                some (true, ())) (
                let t9 := (f.2.2.2.2.2.1.length : Int)
                some (t9 == (0 : Int), ()))) (
              some (false, ())))) (
          cond (f.2.2.2.1 == (0 : Int)) (
            (frameHas fu r1.1 (8 : Int)).bind fun r10 =>
            cond r10.1 (
              (frameHas fu r1.1 (16 : Int)).bind fun r11 =>
              cond r11.1 (
                some (true, ())) (
                let t12 := (f.2.2.2.2.2.1.length : Int)
                some (t12 == (0 : Int), ()))) (
              cond (f.2.2.2.2.1 == (0 : Int)) (
                (frameHas fu r1.1 (16 : Int)).bind fun r13 =>
                cond r13.1 (
                  some (true, ())) (
                  let t14 := (f.2.2.2.2.2.1.length : Int)
                  some (t14 == (0 : Int), ()))) (
                some (false, ())))) (
            some (false, ())))) (
        cond (f.2.2.1 == (0 : Int)) (
          (frameHas fu r1.1 (4 : Int)).bind fun r15 =>
          cond r15.1 (
            (frameHas fu r1.1 (8 : Int)).bind fun r16 =>
            cond r16.1 (
              (frameHas fu r1.1 (16 : Int)).bind fun r17 =>
              cond r17.1 (
                some (true, ())) (
                let t18 := (f.2.2.2.2.2.1.length : Int)
                some (t18 == (0 : Int), ()))) (
              cond (f.2.2.2.2.1 == (0 : Int)) (
                (frameHas fu r1.1 (16 : Int)).bind fun r19 =>
                cond r19.1 (
                  some (true, ())) (
                  let t20 := (f.2.2.2.2.2.1.length : Int)
                  some (t20 == (0 : Int), ()))) (
                some (false, ())))) (
            cond (f.2.2.2.1 == (0 : Int)) (
              (frameHas fu r1.1 (8 : Int)).bind fun r21 =>
              cond r21.1 (
                (frameHas fu r1.1 (16 : Int)).bind fun r22 =>
                cond r22.1 (
                  some (true, ())) (
                  let t23 := (f.2.2.2.2.2.1.length : Int)
                  some (t23 == (0 : Int), ()))) (
                cond (f.2.2.2.2.1 == (0 : Int)) (
                  (frameHas fu r1.1 (16 : Int)).bind fun r24 =>
                  cond r24.1 (
                    some (true, ())) (
                    let t25 := (f.2.2.2.2.2.1.length : Int)
                    some (t25 == (0 : Int), ()))) (
                  some (false, ())))) (
              some (false, ())))) (
          some (false, ())))) (
      cond (f.2.1 == (0 : Int)) (
        (frameHas fu r1.1 (2 : Int)).bind fun r26 =>
        cond r26.1 (
          (frameHas fu r1.1 (4 : Int)).bind fun r27 =>
          cond r27.1 (
            (frameHas fu r1.1 (8 : Int)).bind fun r28 =>
            cond r28.1 (
              (frameHas fu r1.1 (16 : Int)).bind fun r29 =>
              cond r29.1 (
                some (true, ())) (
                let t30 := (f.2.2.2.2.2.1.length : Int)
                some (t30 == (0 : Int), ()))) (
              cond (f.2.2.2.2.1 == (0 : Int)) (
                (frameHas fu r1.1 (16 : Int)).bind fun r31 =>
                cond r31.1 (
                  some (true, ())) (
                  let t32 := (f.2.2.2.2.2.1.length : Int)
                  some (t32 == (0 : Int), ()))) (
                some (false, ())))) (
            cond (f.2.2.2.1 == (0 : Int)) (
              (frameHas fu r1.1 (8 : Int)).bind fun r33 =>
              cond r33.1 (
                (frameHas fu r1.1 (16 : Int)).bind fun r34 =>
                cond r34.1 (
                  some (true, ())) (
                  let t35 := (f.2.2.2.2.2.1.length : Int)
                  some (t35 == (0 : Int), ()))) (
                cond (f.2.2.2.2.1 == (0 : Int)) (
                  (frameHas fu r1.1 (16 : Int)).bind fun r36 =>
                  cond r36.1 (
                    some (true, ())) (
                    let t37 := (f.2.2.2.2.2.1.length : Int)
                    some (t37 == (0 : Int), ()))) (
                  some (false, ())))) (
              some (false, ())))) (
          cond (f.2.2.1 == (0 : Int)) (
            (frameHas fu r1.1 (4 : Int)).bind fun r38 =>
            cond r38.1 (
              (frameHas fu r1.1 (8 : Int)).bind fun r39 =>
              cond r39.1 (
                (frameHas fu r1.1 (16 : Int)).bind fun r40 =>
                cond r40.1 (
                  some (true, ())) (
                  let t41 := (f.2.2.2.2.2.1.length : Int)
                  some (t41 == (0 : Int), ()))) (
                cond (f.2.2.2.2.1 == (0 : Int)) (
                  (frameHas fu r1.1 (16 : Int)).bind fun r42 =>
                  cond r42.1 (
                    some (true, ())) (
                    let t43 := (f.2.2.2.2.2.1.length : Int)
                    some (t43 == (0 : Int), ()))) (
                  some (false, ())))) (
              cond (f.2.2.2.1 == (0 : Int)) (
                (frameHas fu r1.1 (8 : Int)).bind fun r44 =>
                cond r44.1 (
                  (frameHas fu r1.1 (16 : Int)).bind fun r45 =>
                  cond r45.1 (
                    some (true, ())) (
                    let t46 := (f.2.2.2.2.2.1.length : Int)
                    some (t46 == (0 : Int), ()))) (
                  cond (f.2.2.2.2.1 == (0 : Int)) (
                    (frameHas fu r1.1 (16 : Int)).bind fun r47 =>
                    cond r47.1 (
                      some (true, ())) (
                      let t48 := (f.2.2.2.2.2.1.length : Int)
                      some (t48 == (0 : Int), ()))) (
                    some (false, ())))) (
                some (false, ())))) (
            some (false, ())))) (
        some (false, ())))) (
    some (false, ()))

noncomputable def framePlain.body : Code := Tryd.f23.body.getD .skip
noncomputable def framePlain.con : Con := { ps := [kS0], rs := [.bool], f := fun n x => framePlain n x.1 }
noncomputable def framePlain.env : Env := { tys := [(26, ⟨kS0, 56⟩), (4, ⟨.bool, 1⟩), (5, ⟨(.int .u8), 1⟩), (24, ⟨(.slice (.int .u8)), 24⟩), (23, ⟨(.int .u64), 8⟩), (22, ⟨(.int .u32), 4⟩)], elems := [(24, 5)], ptrs := [], cons := [(36, frameOf.con), (37, frameHas.con)], objs := [], loops := [], cuts := [], globs := globs, base := 0 }
noncomputable def framePlain.lp (n : Nat) : LP (Kd.struct framePlain.con.rs).T := fun lo κ body nm K s =>
  loops n (Kd.struct framePlain.con.rs).T lo κ body nm K s
theorem framePlain.eq (n : Nat) (x : (Kd.struct framePlain.con.ps).T) : evFunc framePlain.env Tryd.f23 framePlain.body framePlain.con.ps framePlain.con.rs (framePlain.lp n) n x = framePlain.con.f n x := by kernel_rfl
theorem framePlain.sound : Sound Tryd.prog globs 23 framePlain.con :=
  sound_by (E := framePlain.env) (c := framePlain.body) (envOk (G := globs) (lc := [(36, frameOf.con), (37, frameHas.con)]) (lo := []) (envB_spec (by kernel_rfl)) rfl rfl ⟨.inl ⟨frameOf.sound, by kernel_rfl⟩, ⟨.inl ⟨frameHas.sound, by kernel_rfl⟩, trivial⟩⟩ rfl trivial (by kernel_rfl) (by kernel_rfl)) Tryd.func23 (by kernel_rfl) framePlain.lp (l := []) (by kernel_rfl) (fun n => trivial) framePlain.eq
noncomputable def bitsLen64.j7 (fu : Nat) (k1 : Int → Option (Int × Unit)) (xv : Int) (n : Int) : Option (Int × Unit) :=
  let t1 := decide (xv ≥ (256 : Int))
  cond t1 (
    let t2 := IntKind.i64.wrap (n + (8 : Int))
    let t3 := IntKind.u8.wrap (sShr .u64 xv (8 : Int))
    chk (ixOk ([0, 1, 2, 2, 3, 3, 3, 3, 4, 4, 4, 4, 4, 4, 4, 4, 5, 5, 5, 5, 5, 5, 5, 5, 5, 5, 5, 5, 5, 5, 5, 5, 6, 6, 6, 6, 6, 6, 6, 6, 6, 6, 6, 6, 6, 6, 6, 6, 6, 6, 6, 6, 6, 6, 6, 6, 6, 6, 6, 6, 6, 6, 6, 6, 7, 7, 7, 7, 7, 7, 7, 7, 7, 7, 7, 7, 7, 7, 7, 7, 7, 7, 7, 7, 7, 7, 7, 7, 7, 7, 7, 7, 7, 7, 7, 7, 7, 7, 7, 7, 7, 7, 7, 7, 7, 7, 7, 7, 7, 7, 7, 7, 7, 7, 7, 7, 7, 7, 7, 7, 7, 7, 7, 7, 7, 7, 7, 7, 8, 8, 8, 8, 8, 8, 8, 8, 8, 8, 8, 8, 8, 8, 8, 8, 8, 8, 8, 8, 8, 8, 8, 8, 8, 8, 8, 8, 8, 8, 8, 8, 8, 8, 8, 8, 8, 8, 8, 8, 8, 8, 8, 8, 8, 8, 8, 8, 8, 8, 8, 8, 8, 8, 8, 8, 8, 8, 8, 8, 8, 8, 8, 8, 8, 8, 8, 8, 8, 8, 8, 8, 8, 8, 8, 8, 8, 8, 8, 8, 8, 8, 8, 8, 8, 8, 8, 8, 8, 8, 8, 8, 8, 8, 8, 8, 8, 8, 8, 8, 8, 8, 8, 8, 8, 8, 8, 8, 8, 8, 8, 8, 8, 8, 8, 8, 8, 8, 8, 8, 8, 8, 8, 8, 8, 8, 8, 8] : List Int) t3) <|
    let t4 := ixL (0 : Int) ([0, 1, 2, 2, 3, 3, 3, 3, 4, 4, 4, 4, 4, 4, 4, 4, 5, 5, 5, 5, 5, 5, 5, 5, 5, 5, 5, 5, 5, 5, 5, 5, 6, 6, 6, 6, 6, 6, 6, 6, 6, 6, 6, 6, 6, 6, 6, 6, 6, 6, 6, 6, 6, 6, 6, 6, 6, 6, 6, 6, 6, 6, 6, 6, 7, 7, 7, 7, 7, 7, 7, 7, 7, 7, 7, 7, 7, 7, 7, 7, 7, 7, 7, 7, 7, 7, 7, 7, 7, 7, 7, 7, 7, 7, 7, 7, 7, 7, 7, 7, 7, 7, 7, 7, 7, 7, 7, 7, 7, 7, 7, 7, 7, 7, 7, 7, 7, 7, 7, 7, 7, 7, 7, 7, 7, 7, 7, 7, 8, 8, 8, 8, 8, 8, 8, 8, 8, 8, 8, 8, 8, 8, 8, 8, 8, 8, 8, 8, 8, 8, 8, 8, 8, 8, 8, 8, 8, 8, 8, 8, 8, 8, 8, 8, 8, 8, 8, 8, 8, 8, 8, 8, 8, 8, 8, 8, 8, 8, 8, 8, 8, 8, 8, 8, 8, 8, 8, 8, 8, 8, 8, 8, 8, 8, 8, 8, 8, 8, 8, 8, 8, 8, 8, 8, 8, 8, 8, 8, 8, 8, 8, 8, 8, 8, 8, 8, 8, 8, 8, 8, 8, 8, 8, 8, 8, 8, 8, 8, 8, 8, 8, 8, 8, 8, 8, 8, 8, 8, 8, 8, 8, 8, 8, 8, 8, 8, 8, 8, 8, 8, 8, 8, 8, 8, 8, 8] : List Int) t3
    let t5 := IntKind.i64.wrap (t2 + IntKind.i64.wrap t4)
    k1 t5) (
    chk (ixOk ([0, 1, 2, 2, 3, 3, 3, 3, 4, 4, 4, 4, 4, 4, 4, 4, 5, 5, 5, 5, 5, 5, 5, 5, 5, 5, 5, 5, 5, 5, 5, 5, 6, 6, 6, 6, 6, 6, 6, 6, 6, 6, 6, 6, 6, 6, 6, 6, 6, 6, 6, 6, 6, 6, 6, 6, 6, 6, 6, 6, 6, 6, 6, 6, 7, 7, 7, 7, 7, 7, 7, 7, 7, 7, 7, 7, 7, 7, 7, 7, 7, 7, 7, 7, 7, 7, 7, 7, 7, 7, 7, 7, 7, 7, 7, 7, 7, 7, 7, 7, 7, 7, 7, 7, 7, 7, 7, 7, 7, 7, 7, 7, 7, 7, 7, 7, 7, 7, 7, 7, 7, 7, 7, 7, 7, 7, 7, 7, 8, 8, 8, 8, 8, 8, 8, 8, 8, 8, 8, 8, 8, 8, 8, 8, 8, 8, 8, 8, 8, 8, 8, 8, 8, 8, 8, 8, 8, 8, 8, 8, 8, 8, 8, 8, 8, 8, 8, 8, 8, 8, 8, 8, 8, 8, 8, 8, 8, 8, 8, 8, 8, 8, 8, 8, 8, 8, 8, 8, 8, 8, 8, 8, 8, 8, 8, 8, 8, 8, 8, 8, 8, 8, 8, 8, 8, 8, 8, 8, 8, 8, 8, 8, 8, 8, 8, 8, 8, 8, 8, 8, 8, 8, 8, 8, 8, 8, 8, 8, 8, 8, 8, 8, 8, 8, 8, 8, 8, 8, 8, 8, 8, 8, 8, 8, 8, 8, 8, 8, 8, 8, 8, 8, 8, 8, 8, 8] : List Int) (IntKind.u8.wrap xv)) <|
    let t6 := ixL (0 : Int) ([0, 1, 2, 2, 3, 3, 3, 3, 4, 4, 4, 4, 4, 4, 4, 4, 5, 5, 5, 5, 5, 5, 5, 5, 5, 5, 5, 5, 5, 5, 5, 5, 6, 6, 6, 6, 6, 6, 6, 6, 6, 6, 6, 6, 6, 6, 6, 6, 6, 6, 6, 6, 6, 6, 6, 6, 6, 6, 6, 6, 6, 6, 6, 6, 7, 7, 7, 7, 7, 7, 7, 7, 7, 7, 7, 7, 7, 7, 7, 7, 7, 7, 7, 7, 7, 7, 7, 7, 7, 7, 7, 7, 7, 7, 7, 7, 7, 7, 7, 7, 7, 7, 7, 7, 7, 7, 7, 7, 7, 7, 7, 7, 7, 7, 7, 7, 7, 7, 7, 7, 7, 7, 7, 7, 7, 7, 7, 7, 8, 8, 8, 8, 8, 8, 8, 8, 8, 8, 8, 8, 8, 8, 8, 8, 8, 8, 8, 8, 8, 8, 8, 8, 8, 8, 8, 8, 8, 8, 8, 8, 8, 8, 8, 8, 8, 8, 8, 8, 8, 8, 8, 8, 8, 8, 8, 8, 8, 8, 8, 8, 8, 8, 8, 8, 8, 8, 8, 8, 8, 8, 8, 8, 8, 8, 8, 8, 8, 8, 8, 8, 8, 8, 8, 8, 8, 8, 8, 8, 8, 8, 8, 8, 8, 8, 8, 8, 8, 8, 8, 8, 8, 8, 8, 8, 8, 8, 8, 8, 8, 8, 8, 8, 8, 8, 8, 8, 8, 8, 8, 8, 8, 8, 8, 8, 8, 8, 8, 8, 8, 8, 8, 8, 8, 8, 8, 8] : List Int) (IntKind.u8.wrap xv)
    let t7 := IntKind.i64.wrap (n + IntKind.i64.wrap t6)
    k1 t7)
noncomputable def bitsLen64.j4 (fu : Nat) (k1 : Int → Option (Int × Unit)) (xv : Int) (n : Int) : Option (Int × Unit) :=
  let t1 := decide (xv ≥ (65536 : Int))
  cond t1 (
    let t2 := IntKind.i64.wrap (n + (16 : Int))
    bitsLen64.j7 fu (fun nq3 => 
        k1 nq3) (sShr .u64 xv (16 : Int)) t2) (
    bitsLen64.j7 fu (fun nq4 => 
        k1 nq4) xv n)
noncomputable def bitsLen64 (fu : Nat) (xv : Int) : Option (Int × Unit) :=
  let t1 := decide (xv ≥ (4294967296 : Int))
  cond t1 (
    bitsLen64.j4 fu (fun nq1 => 
        some (nq1, ())) (sShr .u64 xv (32 : Int)) (32 : Int)) (
    bitsLen64.j4 fu (fun nq2 => 
        some (nq2, ())) xv (0 : Int))

noncomputable def bitsLen64.body : Code := Tryd.f59.body.getD .skip
abbrev bitsLen64.shj7 : Shp := ⟨[.d (.int .u64), .u, .d (.int .i64), .u, .u, .u, .u, .u, .u, .u, .u, .u, .u, .u, .u, .u, .u, .u, .u, .u, .u, .u, .u, .u, .u], []⟩
abbrev bitsLen64.outj7e1 : Shp := ⟨[.u, .u, .d (.int .i64), .u, .u, .u, .u, .u, .u, .u, .u, .u, .u, .u, .u, .u, .u, .u, .u, .u, .u, .u, .u, .u, .u], []⟩
noncomputable def bitsLen64.nmj7 : Norm := ⟨{ keep := [0, 2], shut := [(0, (.int .u64)), (2, (.int .i64))], retag := [], heap := 0, dead := [], cshut := [], cretag := [] }, [(1, { keep := [2], shut := [(2, (.int .i64))], retag := [], heap := 0, dead := [], cshut := [], cretag := [] })]⟩
abbrev bitsLen64.shj4 : Shp := ⟨[.d (.int .u64), .u, .d (.int .i64), .u, .u, .u, .u, .u, .u, .u, .u, .u, .u, .u, .u, .u, .u, .u, .u, .u, .u, .u, .u, .u, .u], []⟩
abbrev bitsLen64.outj4e1 : Shp := ⟨[.u, .u, .d (.int .i64), .u, .u, .u, .u, .u, .u, .u, .u, .u, .u, .u, .u, .u, .u, .u, .u, .u, .u, .u, .u, .u, .u], []⟩
noncomputable def bitsLen64.nmj4 : Norm := ⟨{ keep := [0, 2], shut := [(0, (.int .u64)), (2, (.int .i64))], retag := [], heap := 0, dead := [], cshut := [], cretag := [] }, [(1, { keep := [2], shut := [(2, (.int .i64))], retag := [], heap := 0, dead := [], cshut := [], cretag := [] })]⟩
noncomputable def bitsLen64.con : Con := { ps := [(.int .u64)], rs := [(.int .i64)], f := fun n x => bitsLen64 n x.1 }
noncomputable def bitsLen64.env : Env := { tys := [(3, ⟨(.int .i64), 8⟩), (5, ⟨(.int .u8), 1⟩), (23, ⟨(.int .u64), 8⟩), (9, ⟨.str, 16⟩)], elems := [], ptrs := [], cons := [], objs := [], loops := [], cuts := [(7, bitsLen64.nmj7), (4, bitsLen64.nmj4)], globs := globs, base := 0 }
noncomputable def bitsLen64.lp (n : Nat) : LP (Kd.struct bitsLen64.con.rs).T := fun lo κ body nm K s =>
  cond (!lo && Nat.beq κ 7)
    (match bitsLen64.shj7.dec s with
    | some v => bitsLen64.j7 n (fun w0 => K .ret (bitsLen64.outj7e1.enc (w0, ()))) v.1 v.2.1
    | none => loops n (Kd.struct bitsLen64.con.rs).T lo κ body nm K s)
    (cond (!lo && Nat.beq κ 4)
    (match bitsLen64.shj4.dec s with
    | some v => bitsLen64.j4 n (fun w0 => K .ret (bitsLen64.outj4e1.enc (w0, ()))) v.1 v.2.1
    | none => loops n (Kd.struct bitsLen64.con.rs).T lo κ body nm K s)
    (loops n (Kd.struct bitsLen64.con.rs).T lo κ body nm K s))
theorem bitsLen64.atj7 (n : Nat) (s : St) (K : Ex → St → Option (Kd.struct bitsLen64.con.rs).T) : (bitsLen64.lp n) false 7 (evK bitsLen64.env (bitsLen64.lp n) n (sub [1, 1, 1] bitsLen64.body)) bitsLen64.nmj7 K s = loops n (Kd.struct bitsLen64.con.rs).T false 7 (evK bitsLen64.env (bitsLen64.lp n) n (sub [1, 1, 1] bitsLen64.body)) bitsLen64.nmj7 K s := by
  show (match bitsLen64.shj7.dec s with | some v => bitsLen64.j7 n (fun w0 => K .ret (bitsLen64.outj7e1.enc (w0, ()))) v.1 v.2.1 | none => loops n (Kd.struct bitsLen64.con.rs).T false 7 (evK bitsLen64.env (bitsLen64.lp n) n (sub [1, 1, 1] bitsLen64.body)) bitsLen64.nmj7 K s) = _
  cases h : bitsLen64.shj7.dec s with
  | none => rfl
  | some v =>
    rw [Shp.dec_enc h]
    kernel_rfl
theorem bitsLen64.atj4 (n : Nat) (s : St) (K : Ex → St → Option (Kd.struct bitsLen64.con.rs).T) : (bitsLen64.lp n) false 4 (evK bitsLen64.env (bitsLen64.lp n) n (sub [1, 1] bitsLen64.body)) bitsLen64.nmj4 K s = loops n (Kd.struct bitsLen64.con.rs).T false 4 (evK bitsLen64.env (bitsLen64.lp n) n (sub [1, 1] bitsLen64.body)) bitsLen64.nmj4 K s := by
  show (match bitsLen64.shj4.dec s with | some v => bitsLen64.j4 n (fun w0 => K .ret (bitsLen64.outj4e1.enc (w0, ()))) v.1 v.2.1 | none => loops n (Kd.struct bitsLen64.con.rs).T false 4 (evK bitsLen64.env (bitsLen64.lp n) n (sub [1, 1] bitsLen64.body)) bitsLen64.nmj4 K s) = _
  cases h : bitsLen64.shj4.dec s with
  | none => rfl
  | some v =>
    rw [Shp.dec_enc h]
    kernel_rfl
theorem bitsLen64.eq (n : Nat) (x : (Kd.struct bitsLen64.con.ps).T) : evFunc bitsLen64.env Tryd.f59 bitsLen64.body bitsLen64.con.ps bitsLen64.con.rs (bitsLen64.lp n) n x = bitsLen64.con.f n x := by kernel_rfl
theorem bitsLen64.sound : Sound Tryd.prog globs 59 bitsLen64.con :=
  sound_by (E := bitsLen64.env) (c := bitsLen64.body) (envOk (G := globs) (lc := []) (lo := []) (envB_spec (by kernel_rfl)) rfl rfl trivial rfl trivial (by kernel_rfl) (by kernel_rfl)) Tryd.func59 (by kernel_rfl) bitsLen64.lp (l := [(false, sub [1, 1, 1] bitsLen64.body, bitsLen64.nmj7), (false, sub [1, 1] bitsLen64.body, bitsLen64.nmj4)]) (by kernel_rfl) (fun n => ⟨bitsLen64.atj7 n, ⟨bitsLen64.atj4 n, trivial⟩⟩) bitsLen64.eq
noncomputable def packSize (fu : Nat) (n : Int) : Option (Int × Unit) :=
  (bitsLen64 fu n).bind fun r1 =>
  let t2 := IntKind.i64.wrap (max2 r1.1 (1 : Int) + (6 : Int))
  let t3 := IntKind.i64.wrap (Int.tdiv t2 (7 : Int))
  some (t3, ())

noncomputable def packSize.body : Code := Tryd.f54.body.getD .skip
noncomputable def packSize.con : Con := { ps := [(.int .u64)], rs := [(.int .i64)], f := fun n x => packSize n x.1 }
noncomputable def packSize.env : Env := { tys := [(3, ⟨(.int .i64), 8⟩)], elems := [], ptrs := [], cons := [(59, bitsLen64.con)], objs := [], loops := [], cuts := [], globs := globs, base := 0 }
noncomputable def packSize.lp (n : Nat) : LP (Kd.struct packSize.con.rs).T := fun lo κ body nm K s =>
  loops n (Kd.struct packSize.con.rs).T lo κ body nm K s
theorem packSize.eq (n : Nat) (x : (Kd.struct packSize.con.ps).T) : evFunc packSize.env Tryd.f54 packSize.body packSize.con.ps packSize.con.rs (packSize.lp n) n x = packSize.con.f n x := by kernel_rfl
theorem packSize.sound : Sound Tryd.prog globs 54 packSize.con :=
  sound_by (E := packSize.env) (c := packSize.body) (envOk (G := globs) (lc := [(59, bitsLen64.con)]) (lo := []) (envB_spec (by kernel_rfl)) rfl rfl ⟨.inl ⟨bitsLen64.sound, by kernel_rfl⟩, trivial⟩ rfl trivial (by kernel_rfl) (by kernel_rfl)) Tryd.func54 (by kernel_rfl) packSize.lp (l := []) (by kernel_rfl) (fun n => trivial) packSize.eq
noncomputable def packOwn (fu : Nat) (b : List Int) (room : Int) : Option (((List Int) × Unit) × (Unit)) :=
  let t1 := IntKind.i64.wrap ((b.length : Int) + room)
  chk (mkOk (0 : Int) t1 1) <|
  let t2 := List.replicate (0 : Int).toNat (0 : Int)
  chk (apOk t2 b 1) <|
  some ((t2 ++ b, ()), (()))

noncomputable def packOwn.body : Code := Tryd.f53.body.getD .skip
noncomputable def packOwn.con : OCon := { ps := [.dat (.slice (.int .u8)), .dat (.int .i64)], rs := [.own (.int .u8)], f := fun n x => packOwn n x.1 x.2.1 }
noncomputable def packOwn.env : Env := { tys := [(24, ⟨(.slice (.int .u8)), 24⟩), (5, ⟨(.int .u8), 1⟩)], elems := [(24, 5)], ptrs := [], cons := [], objs := [], loops := [], cuts := [], globs := globs, base := 0 }
noncomputable def packOwn.lp (n : Nat) : LP (RT packOwn.con.rs × BT packOwn.con.ps) := fun lo κ body nm K s =>
  loops n (RT packOwn.con.rs × BT packOwn.con.ps) lo κ body nm K s
theorem packOwn.eq (n : Nat) (x : PT packOwn.con.ps) : evFuncO packOwn.env Tryd.f53 packOwn.body packOwn.con.ps packOwn.con.rs (packOwn.lp n) n x = packOwn.con.f n x := by kernel_rfl
theorem packOwn.sound : SoundO Tryd.prog globs 53 packOwn.con :=
  sound_byO (E := packOwn.env) (c := packOwn.body) (envOk (G := globs) (lc := []) (lo := []) (envB_spec (by kernel_rfl)) rfl rfl trivial rfl trivial (by kernel_rfl) (by kernel_rfl)) Tryd.func53 (by kernel_rfl) (by kernel_rfl) (by kernel_rfl) packOwn.lp (l := []) (by kernel_rfl) (fun n => trivial) packOwn.eq
noncomputable def packPutDat.b2 (fu : Nat) (next : Int → (List Int) → Option ((List Int) × Unit)) (k2 : Int → (List Int) → Option ((List Int) × Unit)) (n : Int) (out : List Int) : Option ((List Int) × Unit) :=
  cond (decide (n ≥ (128 : Int))) (
    let t1 := bOr .u8 (IntKind.u8.wrap n) (128 : Int)
    chk (apOk out ([t1]) 1) <|
    next (sShr .u64 n (7 : Int)) (out ++ ([t1]))) (
    k2 n out)
noncomputable def packPutDat.l2 (fu : Nat) (k2 : Int → (List Int) → Option ((List Int) × Unit)) : Nat → Int → (List Int) → Option ((List Int) × Unit)
  | 0, _, _ => none
  | m + 1, n, out => packPutDat.b2 fu (packPutDat.l2 fu k2 m) k2 n out
noncomputable def packPutDat (fu : Nat) (b : List Int) (n : Int) : Option ((List Int) × Unit) :=
  (packSize fu n).bind fun r1 =>
  (packOwn fu b r1.1).bind fun r2 =>
  packPutDat.l2 fu (fun nq2 outq2 => 
      chk (apOk outq2 ([IntKind.u8.wrap nq2]) 1) <|
      let t3 := outq2 ++ ([IntKind.u8.wrap nq2])
      some (t3, ())) fu n r2.1.1

noncomputable def packPutDat.body : Code := Tryd.f38.body.getD .skip
abbrev packPutDat.shl2 : Shp := ⟨[.u, .d (.int .u64), .u, .u, .u, .o 5 (.int .u8), .u, .u, .u, .u, .u, .u, .u, .u, .u, .u, .u, .u, .u, .u, .u, .u, .u, .u, .u], []⟩
abbrev packPutDat.outl2e2 : Shp := ⟨[.u, .d (.int .u64), .u, .u, .u, .o 5 (.int .u8), .u, .u, .u, .u, .u, .u, .u, .u, .u, .u, .u, .u, .u, .u, .u, .u, .u, .u, .u], []⟩
noncomputable def packPutDat.nml2 : Norm := ⟨{ keep := [1, 5], shut := [(1, (.int .u64))], retag := [(5, 5, (.int .u8))], heap := 0, dead := [], cshut := [], cretag := [] }, [(2, { keep := [1, 5], shut := [(1, (.int .u64))], retag := [(5, 5, (.int .u8))], heap := 0, dead := [], cshut := [], cretag := [] })]⟩
noncomputable def packPutDat.con : Con := { ps := [(.slice (.int .u8)), (.int .u64)], rs := [(.slice (.int .u8))], f := fun n x => packPutDat n x.1 x.2.1 }
noncomputable def packPutDat.env : Env := { tys := [(24, ⟨(.slice (.int .u8)), 24⟩), (5, ⟨(.int .u8), 1⟩), (23, ⟨(.int .u64), 8⟩)], elems := [(24, 5)], ptrs := [], cons := [(54, packSize.con)], objs := [(53, [packOwn.con])], loops := [(2, packPutDat.nml2)], cuts := [], globs := globs, base := 0 }
noncomputable def packPutDat.lp (n : Nat) : LP (Kd.struct packPutDat.con.rs).T := fun lo κ body nm K s =>
  cond (lo && Nat.beq κ 2)
    (match packPutDat.shl2.dec s with
    | some v => packPutDat.l2 n (fun w0 w1 => K (.exit 0) (packPutDat.outl2e2.enc (w0, w1, ()))) n v.1 v.2.1
    | none => loops n (Kd.struct packPutDat.con.rs).T lo κ body nm K s)
    (loops n (Kd.struct packPutDat.con.rs).T lo κ body nm K s)
theorem packPutDat.atl2 (n : Nat) (s : St) (K : Ex → St → Option (Kd.struct packPutDat.con.rs).T) : (packPutDat.lp n) true 2 (evK packPutDat.env (packPutDat.lp n) n (sub [1, 1, 0, 0, 0] packPutDat.body)) packPutDat.nml2 K s = loops n (Kd.struct packPutDat.con.rs).T true 2 (evK packPutDat.env (packPutDat.lp n) n (sub [1, 1, 0, 0, 0] packPutDat.body)) packPutDat.nml2 K s := by
  show (match packPutDat.shl2.dec s with | some v => packPutDat.l2 n (fun w0 w1 => K (.exit 0) (packPutDat.outl2e2.enc (w0, w1, ()))) n v.1 v.2.1 | none => loops n (Kd.struct packPutDat.con.rs).T true 2 (evK packPutDat.env (packPutDat.lp n) n (sub [1, 1, 0, 0, 0] packPutDat.body)) packPutDat.nml2 K s) = _
  cases h : packPutDat.shl2.dec s with
  | none => rfl
  | some v =>
    rw [Shp.dec_enc h]
    exact (evLoop_eq (sh := packPutDat.shl2) (body := evK packPutDat.env (packPutDat.lp n) n (sub [1, 1, 0, 0, 0] packPutDat.body)) (nm := packPutDat.nml2) (K := K) (b := fun nx v => packPutDat.b2 n (fun x0 x1 => nx (x0, x1, ())) (fun w0 w1 => K (.exit 0) (packPutDat.outl2e2.enc (w0, w1, ()))) v.1 v.2.1) (l := fun m v => packPutDat.l2 n (fun w0 w1 => K (.exit 0) (packPutDat.outl2e2.enc (w0, w1, ()))) m v.1 v.2.1) (fun _ => rfl) (fun _ _ => rfl) (fun m v => by kernel_rfl) n v).symm
theorem packPutDat.eq (n : Nat) (x : (Kd.struct packPutDat.con.ps).T) : evFunc packPutDat.env Tryd.f38 packPutDat.body packPutDat.con.ps packPutDat.con.rs (packPutDat.lp n) n x = packPutDat.con.f n x := by kernel_rfl
theorem packPutDat.sound : Sound Tryd.prog globs 38 packPutDat.con :=
  sound_by (E := packPutDat.env) (c := packPutDat.body) (envOk (G := globs) (lc := [(54, packSize.con)]) (lo := [(53, [packOwn.con])]) (envB_spec (by kernel_rfl)) rfl rfl ⟨.inl ⟨packSize.sound, by kernel_rfl⟩, trivial⟩ rfl ⟨⟨⟨packOwn.sound, trivial⟩, by kernel_rfl⟩, trivial⟩ (by kernel_rfl) (by kernel_rfl)) Tryd.func38 (by kernel_rfl) packPutDat.lp (l := [(true, sub [1, 1, 0, 0, 0] packPutDat.body, packPutDat.nml2)]) (by kernel_rfl) (fun n => ⟨packPutDat.atl2 n, trivial⟩) packPutDat.eq
noncomputable def packPut.b2 (fu : Nat) (next : Int → (List Int) → Option (((List Int) × Unit) × (Unit))) (k2 : Int → (List Int) → Option (((List Int) × Unit) × (Unit))) (n : Int) (out : List Int) : Option (((List Int) × Unit) × (Unit)) :=
  cond (decide (n ≥ (128 : Int))) (
    let t1 := bOr .u8 (IntKind.u8.wrap n) (128 : Int)
    chk (apOk out ([t1]) 1) <|
    next (sShr .u64 n (7 : Int)) (out ++ ([t1]))) (
    k2 n out)
noncomputable def packPut.l2 (fu : Nat) (k2 : Int → (List Int) → Option (((List Int) × Unit) × (Unit))) : Nat → Int → (List Int) → Option (((List Int) × Unit) × (Unit))
  | 0, _, _ => none
  | m + 1, n, out => packPut.b2 fu (packPut.l2 fu k2 m) k2 n out
noncomputable def packPut (fu : Nat) (b : List Int) (n : Int) : Option (((List Int) × Unit) × (Unit)) :=
  (packSize fu n).bind fun r1 =>
  (packOwn fu b r1.1).bind fun r2 =>
  packPut.l2 fu (fun nq2 outq2 => 
      chk (apOk outq2 ([IntKind.u8.wrap nq2]) 1) <|
      let t3 := outq2 ++ ([IntKind.u8.wrap nq2])
      some ((t3, ()), (()))) fu n r2.1.1

noncomputable def packPut.body : Code := Tryd.f38.body.getD .skip
abbrev packPut.shl2 : Shp := ⟨[.u, .d (.int .u64), .u, .u, .u, .o 5 (.int .u8), .u, .u, .u, .u, .u, .u, .u, .u, .u, .u, .u, .u, .u, .u, .u, .u, .u, .u, .u], []⟩
abbrev packPut.outl2e2 : Shp := ⟨[.u, .d (.int .u64), .u, .u, .u, .o 5 (.int .u8), .u, .u, .u, .u, .u, .u, .u, .u, .u, .u, .u, .u, .u, .u, .u, .u, .u, .u, .u], []⟩
noncomputable def packPut.nml2 : Norm := ⟨{ keep := [1, 5], shut := [(1, (.int .u64))], retag := [(5, 5, (.int .u8))], heap := 0, dead := [], cshut := [], cretag := [] }, [(2, { keep := [1, 5], shut := [(1, (.int .u64))], retag := [(5, 5, (.int .u8))], heap := 0, dead := [], cshut := [], cretag := [] })]⟩
noncomputable def packPut.con : OCon := { ps := [.dat (.slice (.int .u8)), .dat (.int .u64)], rs := [.own (.int .u8)], f := fun n x => packPut n x.1 x.2.1 }
noncomputable def packPut.env : Env := { tys := [(24, ⟨(.slice (.int .u8)), 24⟩), (5, ⟨(.int .u8), 1⟩), (23, ⟨(.int .u64), 8⟩)], elems := [(24, 5)], ptrs := [], cons := [(54, packSize.con)], objs := [(53, [packOwn.con])], loops := [(2, packPut.nml2)], cuts := [], globs := globs, base := 0 }
noncomputable def packPut.lp (n : Nat) : LP (RT packPut.con.rs × BT packPut.con.ps) := fun lo κ body nm K s =>
  cond (lo && Nat.beq κ 2)
    (match packPut.shl2.dec s with
    | some v => packPut.l2 n (fun w0 w1 => K (.exit 0) (packPut.outl2e2.enc (w0, w1, ()))) n v.1 v.2.1
    | none => loops n (RT packPut.con.rs × BT packPut.con.ps) lo κ body nm K s)
    (loops n (RT packPut.con.rs × BT packPut.con.ps) lo κ body nm K s)
theorem packPut.atl2 (n : Nat) (s : St) (K : Ex → St → Option (RT packPut.con.rs × BT packPut.con.ps)) : (packPut.lp n) true 2 (evK packPut.env (packPut.lp n) n (sub [1, 1, 0, 0, 0] packPut.body)) packPut.nml2 K s = loops n (RT packPut.con.rs × BT packPut.con.ps) true 2 (evK packPut.env (packPut.lp n) n (sub [1, 1, 0, 0, 0] packPut.body)) packPut.nml2 K s := by
  show (match packPut.shl2.dec s with | some v => packPut.l2 n (fun w0 w1 => K (.exit 0) (packPut.outl2e2.enc (w0, w1, ()))) n v.1 v.2.1 | none => loops n (RT packPut.con.rs × BT packPut.con.ps) true 2 (evK packPut.env (packPut.lp n) n (sub [1, 1, 0, 0, 0] packPut.body)) packPut.nml2 K s) = _
  cases h : packPut.shl2.dec s with
  | none => rfl
  | some v =>
    rw [Shp.dec_enc h]
    exact (evLoop_eq (sh := packPut.shl2) (body := evK packPut.env (packPut.lp n) n (sub [1, 1, 0, 0, 0] packPut.body)) (nm := packPut.nml2) (K := K) (b := fun nx v => packPut.b2 n (fun x0 x1 => nx (x0, x1, ())) (fun w0 w1 => K (.exit 0) (packPut.outl2e2.enc (w0, w1, ()))) v.1 v.2.1) (l := fun m v => packPut.l2 n (fun w0 w1 => K (.exit 0) (packPut.outl2e2.enc (w0, w1, ()))) m v.1 v.2.1) (fun _ => rfl) (fun _ _ => rfl) (fun m v => by kernel_rfl) n v).symm
theorem packPut.eq (n : Nat) (x : PT packPut.con.ps) : evFuncO packPut.env Tryd.f38 packPut.body packPut.con.ps packPut.con.rs (packPut.lp n) n x = packPut.con.f n x := by kernel_rfl
theorem packPut.sound : SoundO Tryd.prog globs 38 packPut.con :=
  sound_byO (E := packPut.env) (c := packPut.body) (envOk (G := globs) (lc := [(54, packSize.con)]) (lo := [(53, [packOwn.con])]) (envB_spec (by kernel_rfl)) rfl rfl ⟨.inl ⟨packSize.sound, by kernel_rfl⟩, trivial⟩ rfl ⟨⟨⟨packOwn.sound, trivial⟩, by kernel_rfl⟩, trivial⟩ (by kernel_rfl) (by kernel_rfl)) Tryd.func38 (by kernel_rfl) (by kernel_rfl) (by kernel_rfl) packPut.lp (l := [(true, sub [1, 1, 0, 0, 0] packPut.body, packPut.nml2)]) (by kernel_rfl) (fun n => ⟨packPut.atl2 n, trivial⟩) packPut.eq
noncomputable def packPutTextDat (fu : Nat) (b : List Int) (sv : List Int) : Option ((List Int) × Unit) :=
  let t1 := IntKind.u64.wrap (sv.length : Int)
  (packPut fu b t1).bind fun r2 =>
  chk (apOk r2.1.1 sv 1) <|
  some (r2.1.1 ++ sv, ())

noncomputable def packPutTextDat.body : Code := Tryd.f39.body.getD .skip
noncomputable def packPutTextDat.con : Con := { ps := [(.slice (.int .u8)), .str], rs := [(.slice (.int .u8))], f := fun n x => packPutTextDat n x.1 x.2.1 }
noncomputable def packPutTextDat.env : Env := { tys := [(24, ⟨(.slice (.int .u8)), 24⟩), (9, ⟨.str, 16⟩), (23, ⟨(.int .u64), 8⟩), (3, ⟨(.int .i64), 8⟩), (5, ⟨(.int .u8), 1⟩)], elems := [(24, 5)], ptrs := [], cons := [], objs := [(38, [packPut.con])], loops := [], cuts := [], globs := globs, base := 0 }
noncomputable def packPutTextDat.lp (n : Nat) : LP (Kd.struct packPutTextDat.con.rs).T := fun lo κ body nm K s =>
  loops n (Kd.struct packPutTextDat.con.rs).T lo κ body nm K s
theorem packPutTextDat.eq (n : Nat) (x : (Kd.struct packPutTextDat.con.ps).T) : evFunc packPutTextDat.env Tryd.f39 packPutTextDat.body packPutTextDat.con.ps packPutTextDat.con.rs (packPutTextDat.lp n) n x = packPutTextDat.con.f n x := by kernel_rfl
theorem packPutTextDat.sound : Sound Tryd.prog globs 39 packPutTextDat.con :=
  sound_by (E := packPutTextDat.env) (c := packPutTextDat.body) (envOk (G := globs) (lc := []) (lo := [(38, [packPut.con])]) (envB_spec (by kernel_rfl)) rfl rfl trivial rfl ⟨⟨⟨packPut.sound, trivial⟩, by kernel_rfl⟩, trivial⟩ (by kernel_rfl) (by kernel_rfl)) Tryd.func39 (by kernel_rfl) packPutTextDat.lp (l := []) (by kernel_rfl) (fun n => trivial) packPutTextDat.eq
noncomputable def frameBody.b4 (fu : Nat) (next : Int → (List Int) → (List S1) → Int → Int → S0 → Option ((List Int) × Unit)) (k2 : Int → (List Int) → S0 → Option ((List Int) × Unit)) (l : Int) (b : List Int) (v : List S1) (vx2 : Int) (vx3 : Int) (b0 : S0) : Option ((List Int) × Unit) :=
  cond (decide (vx3 < vx2)) (
    chk (ixOk v vx3) <|
    let e1 := ixL ((0 : Int), (0 : Int), ()) v vx3
    (frameHas fu l e1.1).bind fun r2 =>
    cond r2.1 (
      (packPutDat fu b e1.2.1).bind fun r3 =>
      let t4 := IntKind.i64.wrap (vx3 + (1 : Int))
      next l r3.1 v vx2 t4 b0) (
      let t5 := IntKind.i64.wrap (vx3 + (1 : Int))
      next l b v vx2 t5 b0)) (
    k2 l b b0)
noncomputable def frameBody.l4 (fu : Nat) (k2 : Int → (List Int) → S0 → Option ((List Int) × Unit)) : Nat → Int → (List Int) → (List S1) → Int → Int → S0 → Option ((List Int) × Unit)
  | 0, _, _, _, _, _, _ => none
  | m + 1, l, b, v, vx2, vx3, b0 => frameBody.b4 fu (frameBody.l4 fu k2 m) k2 l b v vx2 vx3 b0
noncomputable def frameBody (fu : Nat) (f : S0) : Option ((List Int) × Unit) :=
  (frameOf fu f.1).bind fun r1 =>
  let t2 := [((1 : Int), IntKind.u64.wrap f.2.1, ()), ((2 : Int), IntKind.u64.wrap f.2.2.1, ()), ((4 : Int), f.2.2.2.1, ()), ((8 : Int), f.2.2.2.2.1, ())]
  frameBody.l4 fu (fun lq2 bq2 b0q2 => 
      (frameHas fu lq2 (16 : Int)).bind fun r3 =>
      cond r3.1 (
        (packPutTextDat fu bq2 b0q2.2.2.2.2.2.1).bind fun r4 =>
        some (r4.1, ())) (
        some (bq2, ()))) fu r1.1 ([f.1]) t2 (t2.length : Int) (0 : Int) f

noncomputable def frameBody.body : Code := Tryd.f24.body.getD .skip
abbrev frameBody.shl4 : Shp := ⟨[.u, .p 0 0, .u, .d (.int .u8), .u, .d (.slice (.int .u8)), .u, .u, .u, .u, .u, .u, .u, .u, .u, .u, .u, .u, .u, .u, .u, .u, .u, .u, .u, .u, .u, .u, .u, .u, .u, .o 31 kS1, .d (.int .i64), .d (.int .i64), .u, .u, .u, .u, .u, .u, .u, .u, .u, .u, .u, .u, .u, .u, .u, .u, .u, .u, .u, .u], [.c [.g kS0]]⟩
abbrev frameBody.outl4e2 : Shp := ⟨[.u, .p 0 0, .u, .d (.int .u8), .u, .d (.slice (.int .u8)), .u, .u, .u, .u, .u, .u, .u, .u, .u, .u, .u, .u, .u, .u, .u, .u, .u, .u, .u, .u, .u, .u, .u, .u, .u, .u, .u, .u, .u, .u, .u, .u, .u, .u, .u, .u, .u, .u, .u, .u, .u, .u, .u, .u, .u, .u, .u, .u], [.c [.g kS0]]⟩
noncomputable def frameBody.nml4 : Norm := ⟨{ keep := [1, 3, 5, 31, 32, 33], shut := [(3, (.int .u8)), (5, (.slice (.int .u8))), (32, (.int .i64)), (33, (.int .i64))], retag := [(31, 31, kS1)], heap := 1, dead := [], cshut := [(0, 0, (.int .u8)), (0, 1, (.int .u32)), (0, 2, (.int .u32)), (0, 3, (.int .u64)), (0, 4, (.int .u64)), (0, 5, (.slice (.int .u8)))], cretag := [] }, [(2, { keep := [1, 3, 5], shut := [(3, (.int .u8)), (5, (.slice (.int .u8)))], retag := [], heap := 1, dead := [], cshut := [(0, 0, (.int .u8)), (0, 1, (.int .u32)), (0, 2, (.int .u32)), (0, 3, (.int .u64)), (0, 4, (.int .u64)), (0, 5, (.slice (.int .u8)))], cretag := [] })]⟩
noncomputable def frameBody.con : Con := { ps := [kS0], rs := [(.slice (.int .u8))], f := fun n x => frameBody n x.1 }
noncomputable def frameBody.env : Env := { tys := [(26, ⟨kS0, 56⟩), (24, ⟨(.slice (.int .u8)), 24⟩), (5, ⟨(.int .u8), 1⟩), (22, ⟨(.int .u32), 4⟩), (23, ⟨(.int .u64), 8⟩), (74, ⟨kS1, 16⟩), (3, ⟨(.int .i64), 8⟩), (9, ⟨.str, 16⟩)], elems := [(24, 5), (75, 74)], ptrs := [], cons := [(36, frameOf.con), (37, frameHas.con), (38, packPutDat.con), (39, packPutTextDat.con)], objs := [], loops := [(4, frameBody.nml4)], cuts := [], globs := globs, base := 0 }
noncomputable def frameBody.lp (n : Nat) : LP (Kd.struct frameBody.con.rs).T := fun lo κ body nm K s =>
  cond (lo && Nat.beq κ 4)
    (match frameBody.shl4.dec s with
    | some v => frameBody.l4 n (fun w0 w1 w2 => K (.exit 0) (frameBody.outl4e2.enc (w0, w1, w2, ()))) n v.1 v.2.1 v.2.2.1 v.2.2.2.1 v.2.2.2.2.1 v.2.2.2.2.2.1
    | none => loops n (Kd.struct frameBody.con.rs).T lo κ body nm K s)
    (loops n (Kd.struct frameBody.con.rs).T lo κ body nm K s)
theorem frameBody.atl4 (n : Nat) (s : St) (K : Ex → St → Option (Kd.struct frameBody.con.rs).T) : (frameBody.lp n) true 4 (evK frameBody.env (frameBody.lp n) n (sub [1, 1, 1, 0, 1, 0, 0] frameBody.body)) frameBody.nml4 K s = loops n (Kd.struct frameBody.con.rs).T true 4 (evK frameBody.env (frameBody.lp n) n (sub [1, 1, 1, 0, 1, 0, 0] frameBody.body)) frameBody.nml4 K s := by
  show (match frameBody.shl4.dec s with | some v => frameBody.l4 n (fun w0 w1 w2 => K (.exit 0) (frameBody.outl4e2.enc (w0, w1, w2, ()))) n v.1 v.2.1 v.2.2.1 v.2.2.2.1 v.2.2.2.2.1 v.2.2.2.2.2.1 | none => loops n (Kd.struct frameBody.con.rs).T true 4 (evK frameBody.env (frameBody.lp n) n (sub [1, 1, 1, 0, 1, 0, 0] frameBody.body)) frameBody.nml4 K s) = _
  cases h : frameBody.shl4.dec s with
  | none => rfl
  | some v =>
    rw [Shp.dec_enc h]
    exact (evLoop_eq (sh := frameBody.shl4) (body := evK frameBody.env (frameBody.lp n) n (sub [1, 1, 1, 0, 1, 0, 0] frameBody.body)) (nm := frameBody.nml4) (K := K) (b := fun nx v => frameBody.b4 n (fun x0 x1 x2 x3 x4 x5 => nx (x0, x1, x2, x3, x4, x5, ())) (fun w0 w1 w2 => K (.exit 0) (frameBody.outl4e2.enc (w0, w1, w2, ()))) v.1 v.2.1 v.2.2.1 v.2.2.2.1 v.2.2.2.2.1 v.2.2.2.2.2.1) (l := fun m v => frameBody.l4 n (fun w0 w1 w2 => K (.exit 0) (frameBody.outl4e2.enc (w0, w1, w2, ()))) m v.1 v.2.1 v.2.2.1 v.2.2.2.1 v.2.2.2.2.1 v.2.2.2.2.2.1) (fun _ => rfl) (fun _ _ => rfl) (fun m v => by kernel_rfl) n v).symm
theorem frameBody.eq (n : Nat) (x : (Kd.struct frameBody.con.ps).T) : evFunc frameBody.env Tryd.f24 frameBody.body frameBody.con.ps frameBody.con.rs (frameBody.lp n) n x = frameBody.con.f n x := by kernel_rfl
theorem frameBody.sound : Sound Tryd.prog globs 24 frameBody.con :=
  sound_by (E := frameBody.env) (c := frameBody.body) (envOk (G := globs) (lc := [(36, frameOf.con), (37, frameHas.con), (38, packPutDat.con), (39, packPutTextDat.con)]) (lo := []) (envB_spec (by kernel_rfl)) rfl rfl ⟨.inl ⟨frameOf.sound, by kernel_rfl⟩, ⟨.inl ⟨frameHas.sound, by kernel_rfl⟩, ⟨.inl ⟨packPutDat.sound, by kernel_rfl⟩, ⟨.inl ⟨packPutTextDat.sound, by kernel_rfl⟩, trivial⟩⟩⟩⟩ rfl trivial (by kernel_rfl) (by kernel_rfl)) Tryd.func24 (by kernel_rfl) frameBody.lp (l := [(true, sub [1, 1, 1, 0, 1, 0, 0] frameBody.body, frameBody.nml4)]) (by kernel_rfl) (fun n => ⟨frameBody.atl4 n, trivial⟩) frameBody.eq
noncomputable def recSize (fu : Nat) (record : List Int) : Option (Int × Unit) :=
  let t1 := IntKind.i64.wrap ((8 : Int) + (record.length : Int))
  some (t1, ())

noncomputable def recSize.body : Code := Tryd.f40.body.getD .skip
noncomputable def recSize.con : Con := { ps := [(.slice (.int .u8))], rs := [(.int .i64)], f := fun n x => recSize n x.1 }
noncomputable def recSize.env : Env := { tys := [(3, ⟨(.int .i64), 8⟩), (5, ⟨(.int .u8), 1⟩)], elems := [(24, 5)], ptrs := [], cons := [], objs := [], loops := [], cuts := [], globs := globs, base := 0 }
noncomputable def recSize.lp (n : Nat) : LP (Kd.struct recSize.con.rs).T := fun lo κ body nm K s =>
  loops n (Kd.struct recSize.con.rs).T lo κ body nm K s
theorem recSize.eq (n : Nat) (x : (Kd.struct recSize.con.ps).T) : evFunc recSize.env Tryd.f40 recSize.body recSize.con.ps recSize.con.rs (recSize.lp n) n x = recSize.con.f n x := by kernel_rfl
theorem recSize.sound : Sound Tryd.prog globs 40 recSize.con :=
  sound_by (E := recSize.env) (c := recSize.body) (envOk (G := globs) (lc := []) (lo := []) (envB_spec (by kernel_rfl)) rfl rfl trivial rfl trivial (by kernel_rfl) (by kernel_rfl)) Tryd.func40 (by kernel_rfl) recSize.lp (l := []) (by kernel_rfl) (fun n => trivial) recSize.eq
noncomputable def crcCarry.b2 (fu : Nat) (next : Int → (List Int) → Int → Int → Option (Int × Unit)) (k2 : Int → Option (Int × Unit)) (row : Int) (v : List Int) (vx2 : Int) (vx3 : Int) : Option (Int × Unit) :=
  cond (decide (vx3 < vx2)) (
    chk (ixOk v vx3) <|
    let e1 := ixL (0 : Int) v vx3
    let t2 := bXor .u32 row (IntKind.u32.wrap e1)
    chk (ixArr 16 (bAnd .u32 t2 (15 : Int))) <|
    let e3 := ixL (0 : Int) tabCrcHalves (bAnd .u32 t2 (15 : Int))
    let t4 := bXor .u32 (sShr .u32 t2 (4 : Int)) e3
    chk (ixArr 16 (bAnd .u32 t4 (15 : Int))) <|
    let e5 := ixL (0 : Int) tabCrcHalves (bAnd .u32 t4 (15 : Int))
    let t6 := bXor .u32 (sShr .u32 t4 (4 : Int)) e5
    let t7 := IntKind.i64.wrap (vx3 + (1 : Int))
    next t6 v vx2 t7) (
    k2 row)
noncomputable def crcCarry.l2 (fu : Nat) (k2 : Int → Option (Int × Unit)) : Nat → Int → (List Int) → Int → Int → Option (Int × Unit)
  | 0, _, _, _, _ => none
  | m + 1, row, v, vx2, vx3 => crcCarry.b2 fu (crcCarry.l2 fu k2 m) k2 row v vx2 vx3
noncomputable def crcCarry (fu : Nat) (row : Int) (b : List Int) : Option (Int × Unit) :=
  crcCarry.l2 fu (fun rowq2 => 
      some (rowq2, ())) fu row b (b.length : Int) (0 : Int)

noncomputable def crcCarry.body : Code := Tryd.f55.body.getD .skip
abbrev crcCarry.shl2 : Shp := ⟨[.d (.int .u32), .u, .u, .u, .u, .u, .u, .d (.slice (.int .u8)), .d (.int .i64), .d (.int .i64), .u, .u, .u, .u, .u, .u, .u, .u, .u, .u, .u, .u, .u, .u, .u, .u, .u, .u, .u, .u, .u, .u, .u], []⟩
abbrev crcCarry.outl2e2 : Shp := ⟨[.d (.int .u32), .u, .u, .u, .u, .u, .u, .u, .u, .u, .u, .u, .u, .u, .u, .u, .u, .u, .u, .u, .u, .u, .u, .u, .u, .u, .u, .u, .u, .u, .u, .u, .u], []⟩
noncomputable def crcCarry.nml2 : Norm := ⟨{ keep := [0, 7, 8, 9], shut := [(0, (.int .u32)), (7, (.slice (.int .u8))), (8, (.int .i64)), (9, (.int .i64))], retag := [], heap := 0, dead := [], cshut := [], cretag := [] }, [(2, { keep := [0], shut := [(0, (.int .u32))], retag := [], heap := 0, dead := [], cshut := [], cretag := [] })]⟩
noncomputable def crcCarry.con : Con := { ps := [(.int .u32), (.slice (.int .u8))], rs := [(.int .u32)], f := fun n x => crcCarry n x.1 x.2.1 }
noncomputable def crcCarry.env : Env := { tys := [(22, ⟨(.int .u32), 4⟩), (5, ⟨(.int .u8), 1⟩), (3, ⟨(.int .i64), 8⟩), (99, ⟨(.arr 16 (.int .u32)), 64⟩)], elems := [(24, 5)], ptrs := [], cons := [], objs := [], loops := [(2, crcCarry.nml2)], cuts := [], globs := globs, base := 0 }
noncomputable def crcCarry.lp (n : Nat) : LP (Kd.struct crcCarry.con.rs).T := fun lo κ body nm K s =>
  cond (lo && Nat.beq κ 2)
    (match crcCarry.shl2.dec s with
    | some v => crcCarry.l2 n (fun w0 => K (.exit 0) (crcCarry.outl2e2.enc (w0, ()))) n v.1 v.2.1 v.2.2.1 v.2.2.2.1
    | none => loops n (Kd.struct crcCarry.con.rs).T lo κ body nm K s)
    (loops n (Kd.struct crcCarry.con.rs).T lo κ body nm K s)
theorem crcCarry.atl2 (n : Nat) (s : St) (K : Ex → St → Option (Kd.struct crcCarry.con.rs).T) : (crcCarry.lp n) true 2 (evK crcCarry.env (crcCarry.lp n) n (sub [1, 0, 1, 0, 0] crcCarry.body)) crcCarry.nml2 K s = loops n (Kd.struct crcCarry.con.rs).T true 2 (evK crcCarry.env (crcCarry.lp n) n (sub [1, 0, 1, 0, 0] crcCarry.body)) crcCarry.nml2 K s := by
  show (match crcCarry.shl2.dec s with | some v => crcCarry.l2 n (fun w0 => K (.exit 0) (crcCarry.outl2e2.enc (w0, ()))) n v.1 v.2.1 v.2.2.1 v.2.2.2.1 | none => loops n (Kd.struct crcCarry.con.rs).T true 2 (evK crcCarry.env (crcCarry.lp n) n (sub [1, 0, 1, 0, 0] crcCarry.body)) crcCarry.nml2 K s) = _
  cases h : crcCarry.shl2.dec s with
  | none => rfl
  | some v =>
    rw [Shp.dec_enc h]
    exact (evLoop_eq (sh := crcCarry.shl2) (body := evK crcCarry.env (crcCarry.lp n) n (sub [1, 0, 1, 0, 0] crcCarry.body)) (nm := crcCarry.nml2) (K := K) (b := fun nx v => crcCarry.b2 n (fun x0 x1 x2 x3 => nx (x0, x1, x2, x3, ())) (fun w0 => K (.exit 0) (crcCarry.outl2e2.enc (w0, ()))) v.1 v.2.1 v.2.2.1 v.2.2.2.1) (l := fun m v => crcCarry.l2 n (fun w0 => K (.exit 0) (crcCarry.outl2e2.enc (w0, ()))) m v.1 v.2.1 v.2.2.1 v.2.2.2.1) (fun _ => rfl) (fun _ _ => rfl) (fun m v => by kernel_rfl) n v).symm
theorem crcCarry.eq (n : Nat) (x : (Kd.struct crcCarry.con.ps).T) : evFunc crcCarry.env Tryd.f55 crcCarry.body crcCarry.con.ps crcCarry.con.rs (crcCarry.lp n) n x = crcCarry.con.f n x := by kernel_rfl
theorem crcCarry.sound : Sound Tryd.prog globs 55 crcCarry.con :=
  sound_by (E := crcCarry.env) (c := crcCarry.body) (envOk (G := globs) (lc := []) (lo := []) (envB_spec (by kernel_rfl)) rfl rfl trivial rfl trivial (by kernel_rfl) (by kernel_rfl)) Tryd.func55 (by kernel_rfl) crcCarry.lp (l := [(true, sub [1, 0, 1, 0, 0] crcCarry.body, crcCarry.nml2)]) (by kernel_rfl) (fun n => ⟨crcCarry.atl2 n, trivial⟩) crcCarry.eq
noncomputable def crcMore (fu : Nat) (sum : Int) (b : List Int) : Option (Int × Unit) :=
  (crcCarry fu (bNot .u32 sum) b).bind fun r1 =>
  some (bNot .u32 r1.1, ())

noncomputable def crcMore.body : Code := Tryd.f42.body.getD .skip
noncomputable def crcMore.con : Con := { ps := [(.int .u32), (.slice (.int .u8))], rs := [(.int .u32)], f := fun n x => crcMore n x.1 x.2.1 }
noncomputable def crcMore.env : Env := { tys := [(22, ⟨(.int .u32), 4⟩)], elems := [], ptrs := [], cons := [(55, crcCarry.con)], objs := [], loops := [], cuts := [], globs := globs, base := 0 }
noncomputable def crcMore.lp (n : Nat) : LP (Kd.struct crcMore.con.rs).T := fun lo κ body nm K s =>
  loops n (Kd.struct crcMore.con.rs).T lo κ body nm K s
theorem crcMore.eq (n : Nat) (x : (Kd.struct crcMore.con.ps).T) : evFunc crcMore.env Tryd.f42 crcMore.body crcMore.con.ps crcMore.con.rs (crcMore.lp n) n x = crcMore.con.f n x := by kernel_rfl
theorem crcMore.sound : Sound Tryd.prog globs 42 crcMore.con :=
  sound_by (E := crcMore.env) (c := crcMore.body) (envOk (G := globs) (lc := [(55, crcCarry.con)]) (lo := []) (envB_spec (by kernel_rfl)) rfl rfl ⟨.inl ⟨crcCarry.sound, by kernel_rfl⟩, trivial⟩ rfl trivial (by kernel_rfl) (by kernel_rfl)) Tryd.func42 (by kernel_rfl) crcMore.lp (l := []) (by kernel_rfl) (fun n => trivial) crcMore.eq
noncomputable def crcSum (fu : Nat) (b : List Int) : Option (Int × Unit) :=
  (crcMore fu (0 : Int) b).bind fun r1 =>
  some (r1.1, ())

noncomputable def crcSum.body : Code := Tryd.f43.body.getD .skip
noncomputable def crcSum.con : Con := { ps := [(.slice (.int .u8))], rs := [(.int .u32)], f := fun n x => crcSum n x.1 }
noncomputable def crcSum.env : Env := { tys := [(22, ⟨(.int .u32), 4⟩)], elems := [], ptrs := [], cons := [(42, crcMore.con)], objs := [], loops := [], cuts := [], globs := globs, base := 0 }
noncomputable def crcSum.lp (n : Nat) : LP (Kd.struct crcSum.con.rs).T := fun lo κ body nm K s =>
  loops n (Kd.struct crcSum.con.rs).T lo κ body nm K s
theorem crcSum.eq (n : Nat) (x : (Kd.struct crcSum.con.ps).T) : evFunc crcSum.env Tryd.f43 crcSum.body crcSum.con.ps crcSum.con.rs (crcSum.lp n) n x = crcSum.con.f n x := by kernel_rfl
theorem crcSum.sound : Sound Tryd.prog globs 43 crcSum.con :=
  sound_by (E := crcSum.env) (c := crcSum.body) (envOk (G := globs) (lc := [(42, crcMore.con)]) (lo := []) (envB_spec (by kernel_rfl)) rfl rfl ⟨.inl ⟨crcMore.sound, by kernel_rfl⟩, trivial⟩ rfl trivial (by kernel_rfl) (by kernel_rfl)) Tryd.func43 (by kernel_rfl) crcSum.lp (l := []) (by kernel_rfl) (fun n => trivial) crcSum.eq
noncomputable def recPutF41 (fu : Nat) (b : List Int) (n : Int) : Option (((List Int) × Unit) × (Unit)) :=
  let t1 := IntKind.u8.wrap (sShr .u32 n (24 : Int))
  let t2 := IntKind.u8.wrap (sShr .u32 n (16 : Int))
  let t3 := IntKind.u8.wrap (sShr .u32 n (8 : Int))
  let t4 := [t1, t2, t3, IntKind.u8.wrap n]
  chk (apOk b t4 1) <|
  some ((b ++ t4, ()), (()))

noncomputable def recPutF41.body : Code := Tryd.f41.body.getD .skip
noncomputable def recPutF41.con : OCon := { ps := [.own (.int .u8), .dat (.int .u32)], rs := [.own (.int .u8)], f := fun n x => recPutF41 n x.1 x.2.1 }
noncomputable def recPutF41.env : Env := { tys := [(24, ⟨(.slice (.int .u8)), 24⟩), (5, ⟨(.int .u8), 1⟩), (22, ⟨(.int .u32), 4⟩)], elems := [(24, 5)], ptrs := [], cons := [], objs := [], loops := [], cuts := [], globs := globs, base := 0 }
noncomputable def recPutF41.lp (n : Nat) : LP (RT recPutF41.con.rs × BT recPutF41.con.ps) := fun lo κ body nm K s =>
  loops n (RT recPutF41.con.rs × BT recPutF41.con.ps) lo κ body nm K s
theorem recPutF41.eq (n : Nat) (x : PT recPutF41.con.ps) : evFuncO recPutF41.env Tryd.f41 recPutF41.body recPutF41.con.ps recPutF41.con.rs (recPutF41.lp n) n x = recPutF41.con.f n x := by kernel_rfl
theorem recPutF41.sound : SoundO Tryd.prog globs 41 recPutF41.con :=
  sound_byO (E := recPutF41.env) (c := recPutF41.body) (envOk (G := globs) (lc := []) (lo := []) (envB_spec (by kernel_rfl)) rfl rfl trivial rfl trivial (by kernel_rfl) (by kernel_rfl)) Tryd.func41 (by kernel_rfl) (by kernel_rfl) (by kernel_rfl) recPutF41.lp (l := []) (by kernel_rfl) (fun n => trivial) recPutF41.eq
noncomputable def recPut (fu : Nat) (b : List Int) (record : List Int) : Option ((List Int) × Int × Unit) :=
  let t1 := decide ((record.length : Int) > (65536 : Int))
  cond t1 (
    some ([], (4 : Int), ())) (
    (recSize fu record).bind fun r2 =>
    let t3 := IntKind.i64.wrap ((b.length : Int) + r2.1)
    chk (mkRaw (b.length : Int) t3 1) <|
    chk (nOk b ((b.length : Int).toNat) && (nOk b ((b.length : Int).toNat) && (nOk b ((b.length : Int).toNat) && (nOk b ((b.length : Int).toNat) && true)))) <|
    let t4 := IntKind.u32.wrap (record.length : Int)
    (recPutF41 fu b t4).bind fun r5 =>
    chk (cutOk r5.1.1 (b.length : Int) (r5.1.1.length : Int)) <|
    let t6 := cutL r5.1.1 (b.length : Int) (r5.1.1.length : Int)
    (crcSum fu t6).bind fun r7 =>
    (crcMore fu r7.1 record).bind fun r8 =>
    (recPutF41 fu r5.1.1 r8.1).bind fun r9 =>
    chk (apOk r9.1.1 record 1) <|
    some (r9.1.1 ++ record, (0 : Int), ()))

noncomputable def recPut.body : Code := Tryd.f25.body.getD .skip
noncomputable def recPut.con : Con := { ps := [(.slice (.int .u8)), (.slice (.int .u8))], rs := [(.slice (.int .u8)), (.int .i64)], f := fun n x => recPut n x.1 x.2.1 }
noncomputable def recPut.env : Env := { tys := [(24, ⟨(.slice (.int .u8)), 24⟩), (29, ⟨(.int .i64), 8⟩), (5, ⟨(.int .u8), 1⟩), (22, ⟨(.int .u32), 4⟩), (3, ⟨(.int .i64), 8⟩)], elems := [(24, 5)], ptrs := [], cons := [(40, recSize.con), (43, crcSum.con), (42, crcMore.con)], objs := [(41, [recPutF41.con])], loops := [], cuts := [], globs := globs, base := 0, raws := [18] }
noncomputable def recPut.lp (n : Nat) : LP (Kd.struct recPut.con.rs).T := fun lo κ body nm K s =>
  loops n (Kd.struct recPut.con.rs).T lo κ body nm K s
theorem recPut.eq (n : Nat) (x : (Kd.struct recPut.con.ps).T) : evFunc recPut.env Tryd.f25 recPut.body recPut.con.ps recPut.con.rs (recPut.lp n) n x = recPut.con.f n x := by kernel_rfl
theorem recPut.sound : Sound Tryd.prog globs 25 recPut.con :=
  sound_by (E := recPut.env) (c := recPut.body) (envOk (G := globs) (lc := [(40, recSize.con), (43, crcSum.con), (42, crcMore.con)]) (lo := [(41, [recPutF41.con])]) (envB_spec (by kernel_rfl)) rfl rfl ⟨.inl ⟨recSize.sound, by kernel_rfl⟩, ⟨.inl ⟨crcSum.sound, by kernel_rfl⟩, ⟨.inl ⟨crcMore.sound, by kernel_rfl⟩, trivial⟩⟩⟩ rfl ⟨⟨⟨recPutF41.sound, trivial⟩, by kernel_rfl⟩, trivial⟩ (by kernel_rfl) (by kernel_rfl)) Tryd.func25 (by kernel_rfl) recPut.lp (l := []) (by kernel_rfl) (fun n => trivial) recPut.eq
noncomputable def framePut (fu : Nat) (f : S0) : Option ((List Int) × Int × Unit) :=
  (framePlain fu f).bind fun r1 =>
  cond (!r1.1) (
    some ([], (1 : Int), ())) (
    (frameBody fu f).bind fun r2 =>
    let t3 := decide ((r2.1.length : Int) > (8192 : Int))
    cond t3 (
      some ([], (4 : Int), ())) (
      (recPut fu [] r2.1).bind fun r4 =>
      some (r4.1, r4.2.1, ())))

noncomputable def framePut.body : Code := Tryd.f11.body.getD .skip
noncomputable def framePut.con : Con := { ps := [kS0], rs := [(.slice (.int .u8)), (.int .i64)], f := fun n x => framePut n x.1 }
noncomputable def framePut.env : Env := { tys := [(26, ⟨kS0, 56⟩), (24, ⟨(.slice (.int .u8)), 24⟩), (29, ⟨(.int .i64), 8⟩), (5, ⟨(.int .u8), 1⟩)], elems := [(24, 5)], ptrs := [], cons := [(23, framePlain.con), (24, frameBody.con), (25, recPut.con)], objs := [], loops := [], cuts := [], globs := globs, base := 0 }
noncomputable def framePut.lp (n : Nat) : LP (Kd.struct framePut.con.rs).T := fun lo κ body nm K s =>
  loops n (Kd.struct framePut.con.rs).T lo κ body nm K s
theorem framePut.eq (n : Nat) (x : (Kd.struct framePut.con.ps).T) : evFunc framePut.env Tryd.f11 framePut.body framePut.con.ps framePut.con.rs (framePut.lp n) n x = framePut.con.f n x := by kernel_rfl
theorem framePut.sound : Sound Tryd.prog globs 11 framePut.con :=
  sound_by (E := framePut.env) (c := framePut.body) (envOk (G := globs) (lc := [(23, framePlain.con), (24, frameBody.con), (25, recPut.con)]) (lo := []) (envB_spec (by kernel_rfl)) rfl rfl ⟨.inl ⟨framePlain.sound, by kernel_rfl⟩, ⟨.inl ⟨frameBody.sound, by kernel_rfl⟩, ⟨.inl ⟨recPut.sound, by kernel_rfl⟩, trivial⟩⟩⟩ rfl trivial (by kernel_rfl) (by kernel_rfl)) Tryd.func11 (by kernel_rfl) framePut.lp (l := []) (by kernel_rfl) (fun n => trivial) framePut.eq
noncomputable def law20Fixed (fu : Nat) : Option (Bool × Unit) :=
  (framePut fu ((13 : Int), (0 : Int), (0 : Int), (5 : Int), (0 : Int), [], ())).bind fun r1 =>
  cond (r1.2.1 == (0 : Int)) (
    let t2 := (r1.1.length : Int) == (10 : Int)
    cond t2 (
      chk (cutOk r1.1 (8 : Int) (r1.1.length : Int)) <|
      let t3 := cutL r1.1 (8 : Int) (r1.1.length : Int)
      let t4 := t3 == ([13, 5] : List Int)
      some (t4, ())) (
      some (false, ()))) (
    some (false, ()))

noncomputable def law20Fixed.body : Code := Tryd.f8.body.getD .skip
noncomputable def law20Fixed.con : Con := { ps := [], rs := [.bool], f := fun n x => law20Fixed n }
noncomputable def law20Fixed.env : Env := { tys := [(4, ⟨.bool, 1⟩), (26, ⟨kS0, 56⟩), (5, ⟨(.int .u8), 1⟩), (9, ⟨.str, 16⟩), (24, ⟨(.slice (.int .u8)), 24⟩)], elems := [(24, 5)], ptrs := [], cons := [(11, framePut.con)], objs := [], loops := [], cuts := [], globs := globs, base := 0 }
noncomputable def law20Fixed.lp (n : Nat) : LP (Kd.struct law20Fixed.con.rs).T := fun lo κ body nm K s =>
  loops n (Kd.struct law20Fixed.con.rs).T lo κ body nm K s
theorem law20Fixed.eq (n : Nat) (x : (Kd.struct law20Fixed.con.ps).T) : evFunc law20Fixed.env Tryd.f8 law20Fixed.body law20Fixed.con.ps law20Fixed.con.rs (law20Fixed.lp n) n x = law20Fixed.con.f n x := by kernel_rfl
theorem law20Fixed.sound : Sound Tryd.prog globs 8 law20Fixed.con :=
  sound_by (E := law20Fixed.env) (c := law20Fixed.body) (envOk (G := globs) (lc := [(11, framePut.con)]) (lo := []) (envB_spec (by kernel_rfl)) rfl rfl ⟨.inl ⟨framePut.sound, by kernel_rfl⟩, trivial⟩ rfl trivial (by kernel_rfl) (by kernel_rfl)) Tryd.func8 (by kernel_rfl) law20Fixed.lp (l := []) (by kernel_rfl) (fun n => trivial) law20Fixed.eq
noncomputable def recGetF46 (fu : Nat) (b : List Int) : Option (Int × Unit) :=
  chk (ixOk b (0 : Int)) <|
  let e1 := ixL (0 : Int) b (0 : Int)
  let t2 := sShl .u32 (IntKind.u32.wrap e1) (24 : Int)
  chk (ixOk b (1 : Int)) <|
  let e3 := ixL (0 : Int) b (1 : Int)
  let t4 := sShl .u32 (IntKind.u32.wrap e3) (16 : Int)
  chk (ixOk b (2 : Int)) <|
  let e5 := ixL (0 : Int) b (2 : Int)
  let t6 := sShl .u32 (IntKind.u32.wrap e5) (8 : Int)
  let t7 := bOr .u32 (bOr .u32 t2 t4) t6
  chk (ixOk b (3 : Int)) <|
  let e8 := ixL (0 : Int) b (3 : Int)
  let t9 := bOr .u32 t7 (IntKind.u32.wrap e8)
  some (t9, ())

noncomputable def recGetF46.body : Code := Tryd.f46.body.getD .skip
noncomputable def recGetF46.con : Con := { ps := [(.slice (.int .u8))], rs := [(.int .u32)], f := fun n x => recGetF46 n x.1 }
noncomputable def recGetF46.env : Env := { tys := [(22, ⟨(.int .u32), 4⟩), (5, ⟨(.int .u8), 1⟩)], elems := [(24, 5)], ptrs := [], cons := [], objs := [], loops := [], cuts := [], globs := globs, base := 0 }
noncomputable def recGetF46.lp (n : Nat) : LP (Kd.struct recGetF46.con.rs).T := fun lo κ body nm K s =>
  loops n (Kd.struct recGetF46.con.rs).T lo κ body nm K s
theorem recGetF46.eq (n : Nat) (x : (Kd.struct recGetF46.con.ps).T) : evFunc recGetF46.env Tryd.f46 recGetF46.body recGetF46.con.ps recGetF46.con.rs (recGetF46.lp n) n x = recGetF46.con.f n x := by kernel_rfl
theorem recGetF46.sound : Sound Tryd.prog globs 46 recGetF46.con :=
  sound_by (E := recGetF46.env) (c := recGetF46.body) (envOk (G := globs) (lc := []) (lo := []) (envB_spec (by kernel_rfl)) rfl rfl trivial rfl trivial (by kernel_rfl) (by kernel_rfl)) Tryd.func46 (by kernel_rfl) recGetF46.lp (l := []) (by kernel_rfl) (fun n => trivial) recGetF46.eq
noncomputable def slicesCloneDat (fu : Nat) (sv : List Int) : Option ((List Int) × Unit) :=
  nilQ sv (
    some ([], ())) (
    chk (apOk [] sv 1) <|
    some ([] ++ sv, ()))

noncomputable def slicesCloneDat.body : Code := Tryd.f47.body.getD .skip
noncomputable def slicesCloneDat.con : Con := { ps := [(.slice (.int .u8))], rs := [(.slice (.int .u8))], f := fun n x => slicesCloneDat n x.1 }
noncomputable def slicesCloneDat.env : Env := { tys := [(24, ⟨(.slice (.int .u8)), 24⟩), (5, ⟨(.int .u8), 1⟩)], elems := [(24, 5)], ptrs := [], cons := [], objs := [], loops := [], cuts := [], globs := globs, base := 0 }
noncomputable def slicesCloneDat.lp (n : Nat) : LP (Kd.struct slicesCloneDat.con.rs).T := fun lo κ body nm K s =>
  loops n (Kd.struct slicesCloneDat.con.rs).T lo κ body nm K s
theorem slicesCloneDat.eq (n : Nat) (x : (Kd.struct slicesCloneDat.con.ps).T) : evFunc slicesCloneDat.env Tryd.f47 slicesCloneDat.body slicesCloneDat.con.ps slicesCloneDat.con.rs (slicesCloneDat.lp n) n x = slicesCloneDat.con.f n x := by kernel_rfl
theorem slicesCloneDat.sound : Sound Tryd.prog globs 47 slicesCloneDat.con :=
  sound_by (E := slicesCloneDat.env) (c := slicesCloneDat.body) (envOk (G := globs) (lc := []) (lo := []) (envB_spec (by kernel_rfl)) rfl rfl trivial rfl trivial (by kernel_rfl) (by kernel_rfl)) Tryd.func47 (by kernel_rfl) slicesCloneDat.lp (l := []) (by kernel_rfl) (fun n => trivial) slicesCloneDat.eq
noncomputable def recGet (fu : Nat) (b : List Int) (atv : Int) : Option ((List Int) × Int × Int × Unit) :=
  cond (decide (atv < (0 : Int))) (
    some ([], (0 : Int), (3 : Int), ())) (
    let t1 := IntKind.i64.wrap ((b.length : Int) - (4 : Int))
    cond (decide (atv > t1)) (
      some ([], (0 : Int), (3 : Int), ())) (
      chk (cutOk b atv (b.length : Int)) <|
      let t2 := cutL b atv (b.length : Int)
      (recGetF46 fu t2).bind fun r3 =>
      let t4 := decide (r3.1 > (65536 : Int))
      cond t4 (
        some ([], (0 : Int), (4 : Int), ())) (
        let t5 := IntKind.i64.wrap ((8 : Int) + IntKind.i64.wrap r3.1)
        let t6 := IntKind.i64.wrap ((b.length : Int) - atv)
        cond (decide (t5 > t6)) (
          some ([], (0 : Int), (3 : Int), ())) (
          let t7 := IntKind.i64.wrap (atv + (8 : Int))
          let t8 := IntKind.i64.wrap (atv + (8 : Int))
          let t9 := IntKind.i64.wrap (t8 + IntKind.i64.wrap r3.1)
          chk (cutOk b t7 t9) <|
          let t10 := IntKind.i64.wrap (atv + (4 : Int))
          chk (cutOk b atv t10) <|
          (crcSum fu (cutL b atv t10)).bind fun r11 =>
          (crcMore fu r11.1 (cutL b t7 t9)).bind fun r12 =>
          let t13 := IntKind.i64.wrap (atv + (4 : Int))
          chk (cutOk b t13 (b.length : Int)) <|
          let t14 := cutL b t13 (b.length : Int)
          (recGetF46 fu t14).bind fun r15 =>
          cond (r12.1 != r15.1) (
            some ([], (0 : Int), (6 : Int), ())) (
            (slicesCloneDat fu (cutL b t7 t9)).bind fun r16 =>
            let t17 := IntKind.i64.wrap (atv + (8 : Int))
            let t18 := IntKind.i64.wrap (t17 + IntKind.i64.wrap r3.1)
            some (r16.1, t18, (0 : Int), ()))))))

noncomputable def recGet.body : Code := Tryd.f30.body.getD .skip
noncomputable def recGet.con : Con := { ps := [(.slice (.int .u8)), (.int .i64)], rs := [(.slice (.int .u8)), (.int .i64), (.int .i64)], f := fun n x => recGet n x.1 x.2.1 }
noncomputable def recGet.env : Env := { tys := [(24, ⟨(.slice (.int .u8)), 24⟩), (3, ⟨(.int .i64), 8⟩), (29, ⟨(.int .i64), 8⟩), (4, ⟨.bool, 1⟩), (5, ⟨(.int .u8), 1⟩), (22, ⟨(.int .u32), 4⟩)], elems := [(24, 5)], ptrs := [], cons := [(46, recGetF46.con), (43, crcSum.con), (42, crcMore.con), (47, slicesCloneDat.con)], objs := [], loops := [], cuts := [], globs := globs, base := 0 }
noncomputable def recGet.lp (n : Nat) : LP (Kd.struct recGet.con.rs).T := fun lo κ body nm K s =>
  loops n (Kd.struct recGet.con.rs).T lo κ body nm K s
theorem recGet.eq (n : Nat) (x : (Kd.struct recGet.con.ps).T) : evFunc recGet.env Tryd.f30 recGet.body recGet.con.ps recGet.con.rs (recGet.lp n) n x = recGet.con.f n x := by kernel_rfl
theorem recGet.sound : Sound Tryd.prog globs 30 recGet.con :=
  sound_by (E := recGet.env) (c := recGet.body) (envOk (G := globs) (lc := [(46, recGetF46.con), (43, crcSum.con), (42, crcMore.con), (47, slicesCloneDat.con)]) (lo := []) (envB_spec (by kernel_rfl)) rfl rfl ⟨.inl ⟨recGetF46.sound, by kernel_rfl⟩, ⟨.inl ⟨crcSum.sound, by kernel_rfl⟩, ⟨.inl ⟨crcMore.sound, by kernel_rfl⟩, ⟨.inl ⟨slicesCloneDat.sound, by kernel_rfl⟩, trivial⟩⟩⟩⟩ rfl trivial (by kernel_rfl) (by kernel_rfl)) Tryd.func30 (by kernel_rfl) recGet.lp (l := []) (by kernel_rfl) (fun n => trivial) recGet.eq
noncomputable def packGet.j50013 (fu : Nat) (k1 : Int → Int → Int → Option (Int × Int × Int × Unit)) (atv : Int) (n : Int) (i : Int) (v : Bool) : Option (Int × Int × Int × Unit) :=
  cond v (
    k1 (0 : Int) (0 : Int) (2 : Int)) (
    let t1 := IntKind.i64.wrap (atv + i)
    let t2 := IntKind.i64.wrap (t1 + (1 : Int))
    k1 n t2 (0 : Int))
noncomputable def packGet.j9 (fu : Nat) (k0 : Int → Int → (List Int) → Int → Int → Option (Int × Int × Int × Unit)) (k1 : Int → Int → Int → Option (Int × Int × Int × Unit)) (atv : Int) (n : Int) (i : Int) (c : Int) (v : List Int) (vx2 : Int) (vx3 : Int) : Option (Int × Int × Int × Unit) :=
  let t1 := IntKind.u64.wrap (bAnd .u8 c (127 : Int))
  let t2 := IntKind.i64.wrap ((7 : Int) * i)
  chk (!decide (t2 < 0)) <|
  let t3 := bOr .u64 n (sShl .u64 t1 t2)
  cond (decide (c ≥ (128 : Int))) (
    k0 atv t3 v vx2 vx3) (
    cond (c == (0 : Int)) (
      packGet.j50013 fu (fun vq5 vq5x2 vq5x3 => 
          k1 vq5 vq5x2 vq5x3) atv t3 i (decide (i > (0 : Int)))) (
      packGet.j50013 fu (fun vq6 vq6x2 vq6x3 => 
          k1 vq6 vq6x2 vq6x3) atv t3 i false))
noncomputable def packGet.b5 (fu : Nat) (next : Int → Int → (List Int) → Int → Int → Option (Int × Int × Int × Unit)) (k1 : Int → Int → Int → Option (Int × Int × Int × Unit)) (k2 : Unit → Option (Int × Int × Int × Unit)) (atv : Int) (n : Int) (v : List Int) (vx2 : Int) (vx3 : Int) : Option (Int × Int × Int × Unit) :=
  cond (decide (vx3 < vx2)) (
    chk (ixOk v vx3) <|
    let e1 := ixL (0 : Int) v vx3
    cond (vx3 == (9 : Int)) (
      cond (decide (e1 > (1 : Int))) (
        k1 (0 : Int) (0 : Int) (4 : Int)) (
        packGet.j9 fu (fun atvq11 nq11 vq11 vq11x2 vq11x3 => 
            let t2 := IntKind.i64.wrap (vq11x3 + (1 : Int))
            next atvq11 nq11 vq11 vq11x2 t2) (fun vq12 vq12x2 vq12x3 => 
            k1 vq12 vq12x2 vq12x3) atv n vx3 e1 v vx2 vx3)) (
      packGet.j9 fu (fun atvq13 nq13 vq13 vq13x2 vq13x3 => 
          let t3 := IntKind.i64.wrap (vq13x3 + (1 : Int))
          next atvq13 nq13 vq13 vq13x2 t3) (fun vq14 vq14x2 vq14x3 => 
          k1 vq14 vq14x2 vq14x3) atv n vx3 e1 v vx2 vx3)) (
    k2 ())
noncomputable def packGet.l5 (fu : Nat) (k1 : Int → Int → Int → Option (Int × Int × Int × Unit)) (k2 : Unit → Option (Int × Int × Int × Unit)) : Nat → Int → Int → (List Int) → Int → Int → Option (Int × Int × Int × Unit)
  | 0, _, _, _, _, _ => none
  | m + 1, atv, n, v, vx2, vx3 => packGet.b5 fu (packGet.l5 fu k1 k2 m) k1 k2 atv n v vx2 vx3
noncomputable def packGet (fu : Nat) (b : List Int) (atv : Int) : Option (Int × Int × Int × Unit) :=
  cond (decide (atv < (0 : Int))) (
    some ((0 : Int), (0 : Int), (3 : Int), ())) (
    let t1 := decide (atv > (b.length : Int))
    cond t1 (
      some ((0 : Int), (0 : Int), (3 : Int), ())) (
      chk (cutOk b atv (b.length : Int)) <|
      let t2 := cutL b atv (b.length : Int)
      packGet.l5 fu (fun vq3 vq3x2 vq3x3 => 
          some (vq3, vq3x2, vq3x3, ())) (fun (_ : Unit) => 
          some ((0 : Int), (0 : Int), (3 : Int), ())) fu atv (0 : Int) t2 (t2.length : Int) (0 : Int)))

noncomputable def packGet.body : Code := Tryd.f57.body.getD .skip
abbrev packGet.shj50013 : Shp := ⟨[.u, .d (.int .i64), .u, .u, .u, .u, .u, .d (.int .u64), .d (.int .i64), .u, .u, .u, .u, .u, .u, .u, .u, .u, .u, .u, .u, .u, .u, .u, .u, .u, .u, .u, .u, .u, .u, .u, .u, .u, .u, .u, .u, .u, .u, .u, .u, .u, .u, .u, .u, .u, .u, .u, .u, .d .bool, .u, .u, .u, .u, .u, .u, .u], []⟩
abbrev packGet.outj50013e1 : Shp := ⟨[.u, .u, .u, .u, .d (.int .u64), .d (.int .i64), .d (.int .i64), .u, .u, .u, .u, .u, .u, .u, .u, .u, .u, .u, .u, .u, .u, .u, .u, .u, .u, .u, .u, .u, .u, .u, .u, .u, .u, .u, .u, .u, .u, .u, .u, .u, .u, .u, .u, .u, .u, .u, .u, .u, .u, .u, .u, .u, .u, .u, .u, .u, .u], []⟩
noncomputable def packGet.nmj50013 : Norm := ⟨{ keep := [1, 7, 8, 49], shut := [(1, (.int .i64)), (7, (.int .u64)), (8, (.int .i64)), (49, .bool)], retag := [], heap := 0, dead := [], cshut := [], cretag := [] }, [(1, { keep := [4, 5, 6], shut := [(4, (.int .u64)), (5, (.int .i64)), (6, (.int .i64))], retag := [], heap := 0, dead := [], cshut := [], cretag := [] })]⟩
abbrev packGet.shj9 : Shp := ⟨[.u, .d (.int .i64), .u, .u, .u, .u, .u, .d (.int .u64), .d (.int .i64), .d (.int .u8), .u, .u, .u, .u, .u, .u, .u, .u, .u, .u, .d (.slice (.int .u8)), .d (.int .i64), .d (.int .i64), .u, .u, .u, .u, .u, .u, .u, .u, .u, .u, .u, .u, .u, .u, .u, .u, .u, .u, .u, .u, .u, .u, .u, .u, .u, .u, .u, .u, .u, .u, .u, .u, .u, .u], []⟩
abbrev packGet.outj9e0 : Shp := ⟨[.u, .d (.int .i64), .u, .u, .u, .u, .u, .d (.int .u64), .u, .u, .u, .u, .u, .u, .u, .u, .u, .u, .u, .u, .d (.slice (.int .u8)), .d (.int .i64), .d (.int .i64), .u, .u, .u, .u, .u, .u, .u, .u, .u, .u, .u, .u, .u, .u, .u, .u, .u, .u, .u, .u, .u, .u, .u, .u, .u, .u, .u, .u, .u, .u, .u, .u, .u, .u], []⟩
abbrev packGet.outj9e1 : Shp := ⟨[.u, .u, .u, .u, .d (.int .u64), .d (.int .i64), .d (.int .i64), .u, .u, .u, .u, .u, .u, .u, .u, .u, .u, .u, .u, .u, .u, .u, .u, .u, .u, .u, .u, .u, .u, .u, .u, .u, .u, .u, .u, .u, .u, .u, .u, .u, .u, .u, .u, .u, .u, .u, .u, .u, .u, .u, .u, .u, .u, .u, .u, .u, .u], []⟩
noncomputable def packGet.nmj9 : Norm := ⟨{ keep := [1, 7, 8, 9, 20, 21, 22], shut := [(1, (.int .i64)), (7, (.int .u64)), (8, (.int .i64)), (9, (.int .u8)), (20, (.slice (.int .u8))), (21, (.int .i64)), (22, (.int .i64))], retag := [], heap := 0, dead := [], cshut := [], cretag := [] }, [(0, { keep := [1, 7, 20, 21, 22], shut := [(1, (.int .i64)), (7, (.int .u64)), (20, (.slice (.int .u8))), (21, (.int .i64)), (22, (.int .i64))], retag := [], heap := 0, dead := [], cshut := [], cretag := [] }), (1, { keep := [4, 5, 6], shut := [(4, (.int .u64)), (5, (.int .i64)), (6, (.int .i64))], retag := [], heap := 0, dead := [], cshut := [], cretag := [] })]⟩
abbrev packGet.shl5 : Shp := ⟨[.u, .d (.int .i64), .u, .u, .u, .u, .u, .d (.int .u64), .u, .u, .u, .u, .u, .u, .u, .u, .u, .u, .u, .u, .d (.slice (.int .u8)), .d (.int .i64), .d (.int .i64), .u, .u, .u, .u, .u, .u, .u, .u, .u, .u, .u, .u, .u, .u, .u, .u, .u, .u, .u, .u, .u, .u, .u, .u, .u, .u, .u, .u, .u, .u, .u, .u, .u, .u], []⟩
abbrev packGet.outl5e1 : Shp := ⟨[.u, .u, .u, .u, .d (.int .u64), .d (.int .i64), .d (.int .i64), .u, .u, .u, .u, .u, .u, .u, .u, .u, .u, .u, .u, .u, .u, .u, .u, .u, .u, .u, .u, .u, .u, .u, .u, .u, .u, .u, .u, .u, .u, .u, .u, .u, .u, .u, .u, .u, .u, .u, .u, .u, .u, .u, .u, .u, .u, .u, .u, .u, .u], []⟩
abbrev packGet.outl5e2 : Shp := ⟨[.u, .u, .u, .u, .u, .u, .u, .u, .u, .u, .u, .u, .u, .u, .u, .u, .u, .u, .u, .u, .u, .u, .u, .u, .u, .u, .u, .u, .u, .u, .u, .u, .u, .u, .u, .u, .u, .u, .u, .u, .u, .u, .u, .u, .u, .u, .u, .u, .u, .u, .u, .u, .u, .u, .u, .u, .u], []⟩
noncomputable def packGet.nml5 : Norm := ⟨{ keep := [1, 7, 20, 21, 22], shut := [(1, (.int .i64)), (7, (.int .u64)), (20, (.slice (.int .u8))), (21, (.int .i64)), (22, (.int .i64))], retag := [], heap := 0, dead := [], cshut := [], cretag := [] }, [(1, { keep := [4, 5, 6], shut := [(4, (.int .u64)), (5, (.int .i64)), (6, (.int .i64))], retag := [], heap := 0, dead := [], cshut := [], cretag := [] }), (2, { keep := [], shut := [], retag := [], heap := 0, dead := [], cshut := [], cretag := [] })]⟩
noncomputable def packGet.con : Con := { ps := [(.slice (.int .u8)), (.int .i64)], rs := [(.int .u64), (.int .i64), (.int .i64)], f := fun n x => packGet n x.1 x.2.1 }
noncomputable def packGet.env : Env := { tys := [(23, ⟨(.int .u64), 8⟩), (3, ⟨(.int .i64), 8⟩), (29, ⟨(.int .i64), 8⟩), (4, ⟨.bool, 1⟩), (5, ⟨(.int .u8), 1⟩)], elems := [(24, 5)], ptrs := [], cons := [], objs := [], loops := [(5, packGet.nml5)], cuts := [(50013, packGet.nmj50013), (9, packGet.nmj9)], globs := globs, base := 0 }
noncomputable def packGet.lp (n : Nat) : LP (Kd.struct packGet.con.rs).T := fun lo κ body nm K s =>
  cond (!lo && Nat.beq κ 50013)
    (match packGet.shj50013.dec s with
    | some v => packGet.j50013 n (fun w0 w1 w2 => K .ret (packGet.outj50013e1.enc (w0, w1, w2, ()))) v.1 v.2.1 v.2.2.1 v.2.2.2.1
    | none => loops n (Kd.struct packGet.con.rs).T lo κ body nm K s)
    (cond (!lo && Nat.beq κ 9)
    (match packGet.shj9.dec s with
    | some v => packGet.j9 n (fun w0 w1 w2 w3 w4 => K .normal (packGet.outj9e0.enc (w0, w1, w2, w3, w4, ()))) (fun w0 w1 w2 => K .ret (packGet.outj9e1.enc (w0, w1, w2, ()))) v.1 v.2.1 v.2.2.1 v.2.2.2.1 v.2.2.2.2.1 v.2.2.2.2.2.1 v.2.2.2.2.2.2.1
    | none => loops n (Kd.struct packGet.con.rs).T lo κ body nm K s)
    (cond (lo && Nat.beq κ 5)
    (match packGet.shl5.dec s with
    | some v => packGet.l5 n (fun w0 w1 w2 => K .ret (packGet.outl5e1.enc (w0, w1, w2, ()))) (fun _ => K (.exit 0) (packGet.outl5e2.enc (()))) n v.1 v.2.1 v.2.2.1 v.2.2.2.1 v.2.2.2.2.1
    | none => loops n (Kd.struct packGet.con.rs).T lo κ body nm K s)
    (loops n (Kd.struct packGet.con.rs).T lo κ body nm K s)))
theorem packGet.atj50013 (n : Nat) (s : St) (K : Ex → St → Option (Kd.struct packGet.con.rs).T) : (packGet.lp n) false 50013 (evK packGet.env (packGet.lp n) n (sub [1, 1, 1, 0, 1, 0, 0, 1, 1, 0, 0, 1, 1, 1, 0, 1, 1, 1] packGet.body)) packGet.nmj50013 K s = loops n (Kd.struct packGet.con.rs).T false 50013 (evK packGet.env (packGet.lp n) n (sub [1, 1, 1, 0, 1, 0, 0, 1, 1, 0, 0, 1, 1, 1, 0, 1, 1, 1] packGet.body)) packGet.nmj50013 K s := by
  show (match packGet.shj50013.dec s with | some v => packGet.j50013 n (fun w0 w1 w2 => K .ret (packGet.outj50013e1.enc (w0, w1, w2, ()))) v.1 v.2.1 v.2.2.1 v.2.2.2.1 | none => loops n (Kd.struct packGet.con.rs).T false 50013 (evK packGet.env (packGet.lp n) n (sub [1, 1, 1, 0, 1, 0, 0, 1, 1, 0, 0, 1, 1, 1, 0, 1, 1, 1] packGet.body)) packGet.nmj50013 K s) = _
  cases h : packGet.shj50013.dec s with
  | none => rfl
  | some v =>
    rw [Shp.dec_enc h]
    kernel_rfl
theorem packGet.atj9 (n : Nat) (s : St) (K : Ex → St → Option (Kd.struct packGet.con.rs).T) : (packGet.lp n) false 9 (evK packGet.env (packGet.lp n) n (sub [1, 1, 1, 0, 1, 0, 0, 1, 1, 0, 0, 1, 1] packGet.body)) packGet.nmj9 K s = loops n (Kd.struct packGet.con.rs).T false 9 (evK packGet.env (packGet.lp n) n (sub [1, 1, 1, 0, 1, 0, 0, 1, 1, 0, 0, 1, 1] packGet.body)) packGet.nmj9 K s := by
  show (match packGet.shj9.dec s with | some v => packGet.j9 n (fun w0 w1 w2 w3 w4 => K .normal (packGet.outj9e0.enc (w0, w1, w2, w3, w4, ()))) (fun w0 w1 w2 => K .ret (packGet.outj9e1.enc (w0, w1, w2, ()))) v.1 v.2.1 v.2.2.1 v.2.2.2.1 v.2.2.2.2.1 v.2.2.2.2.2.1 v.2.2.2.2.2.2.1 | none => loops n (Kd.struct packGet.con.rs).T false 9 (evK packGet.env (packGet.lp n) n (sub [1, 1, 1, 0, 1, 0, 0, 1, 1, 0, 0, 1, 1] packGet.body)) packGet.nmj9 K s) = _
  cases h : packGet.shj9.dec s with
  | none => rfl
  | some v =>
    rw [Shp.dec_enc h]
    kernel_rfl
theorem packGet.atl5 (n : Nat) (s : St) (K : Ex → St → Option (Kd.struct packGet.con.rs).T) : (packGet.lp n) true 5 (evK packGet.env (packGet.lp n) n (sub [1, 1, 1, 0, 1, 0, 0] packGet.body)) packGet.nml5 K s = loops n (Kd.struct packGet.con.rs).T true 5 (evK packGet.env (packGet.lp n) n (sub [1, 1, 1, 0, 1, 0, 0] packGet.body)) packGet.nml5 K s := by
  show (match packGet.shl5.dec s with | some v => packGet.l5 n (fun w0 w1 w2 => K .ret (packGet.outl5e1.enc (w0, w1, w2, ()))) (fun _ => K (.exit 0) (packGet.outl5e2.enc (()))) n v.1 v.2.1 v.2.2.1 v.2.2.2.1 v.2.2.2.2.1 | none => loops n (Kd.struct packGet.con.rs).T true 5 (evK packGet.env (packGet.lp n) n (sub [1, 1, 1, 0, 1, 0, 0] packGet.body)) packGet.nml5 K s) = _
  cases h : packGet.shl5.dec s with
  | none => rfl
  | some v =>
    rw [Shp.dec_enc h]
    exact (evLoop_eq (sh := packGet.shl5) (body := evK packGet.env (packGet.lp n) n (sub [1, 1, 1, 0, 1, 0, 0] packGet.body)) (nm := packGet.nml5) (K := K) (b := fun nx v => packGet.b5 n (fun x0 x1 x2 x3 x4 => nx (x0, x1, x2, x3, x4, ())) (fun w0 w1 w2 => K .ret (packGet.outl5e1.enc (w0, w1, w2, ()))) (fun _ => K (.exit 0) (packGet.outl5e2.enc (()))) v.1 v.2.1 v.2.2.1 v.2.2.2.1 v.2.2.2.2.1) (l := fun m v => packGet.l5 n (fun w0 w1 w2 => K .ret (packGet.outl5e1.enc (w0, w1, w2, ()))) (fun _ => K (.exit 0) (packGet.outl5e2.enc (()))) m v.1 v.2.1 v.2.2.1 v.2.2.2.1 v.2.2.2.2.1) (fun _ => rfl) (fun _ _ => rfl) (fun m v => by kernel_rfl) n v).symm
theorem packGet.eq (n : Nat) (x : (Kd.struct packGet.con.ps).T) : evFunc packGet.env Tryd.f57 packGet.body packGet.con.ps packGet.con.rs (packGet.lp n) n x = packGet.con.f n x := by kernel_rfl
theorem packGet.sound : Sound Tryd.prog globs 57 packGet.con :=
  sound_by (E := packGet.env) (c := packGet.body) (envOk (G := globs) (lc := []) (lo := []) (envB_spec (by kernel_rfl)) rfl rfl trivial rfl trivial (by kernel_rfl) (by kernel_rfl)) Tryd.func57 (by kernel_rfl) packGet.lp (l := [(false, sub [1, 1, 1, 0, 1, 0, 0, 1, 1, 0, 0, 1, 1, 1, 0, 1, 1, 1] packGet.body, packGet.nmj50013), (false, sub [1, 1, 1, 0, 1, 0, 0, 1, 1, 0, 0, 1, 1] packGet.body, packGet.nmj9), (true, sub [1, 1, 1, 0, 1, 0, 0] packGet.body, packGet.nml5)]) (by kernel_rfl) (fun n => ⟨packGet.atj50013 n, ⟨packGet.atj9 n, ⟨packGet.atl5 n, trivial⟩⟩⟩) packGet.eq
noncomputable def frameReaderNumber.j6 (fu : Nat) (k1 : Int → (List Int) → Int → Int → Int → Option ((Int × Unit) × (O2 × Unit))) (n : Int) (endv : Int) (ev : Int) (c0 : List Int) (c0x2 : Int) (c0x3 : Int) (c0x4 : Int) : Option ((Int × Unit) × (O2 × Unit)) :=
  k1 n c0 endv c0x3 ev
noncomputable def frameReaderNumber (fu : Nat) (rv : O2) (field : Int) (most : Int) : Option ((Int × Unit) × (O2 × Unit)) :=
  cond (rv.2.2.2.1 != (0 : Int)) (
    some (((0 : Int), ()), (rv, ()))) (
    (frameHas fu rv.2.2.1 field).bind fun r1 =>
    cond (!r1.1) (
      some (((0 : Int), ()), (rv, ()))) (
      (packGet fu rv.1 rv.2.1).bind fun r2 =>
      cond (r2.2.2.1 == (0 : Int)) (
        cond (decide (r2.1 > most)) (
          frameReaderNumber.j6 fu (fun vq1 c0q1 c0q1x2 c0q1x3 c0q1x4 => 
              some ((vq1, ()), ((c0q1, c0q1x2, c0q1x3, c0q1x4, ()), ()))) r2.1 r2.2.1 (5 : Int) rv.1 rv.2.1 rv.2.2.1 rv.2.2.2.1) (
          frameReaderNumber.j6 fu (fun vq2 c0q2 c0q2x2 c0q2x3 c0q2x4 => 
              some ((vq2, ()), ((c0q2, c0q2x2, c0q2x3, c0q2x4, ()), ()))) r2.1 r2.2.1 r2.2.2.1 rv.1 rv.2.1 rv.2.2.1 rv.2.2.2.1)) (
        frameReaderNumber.j6 fu (fun vq3 c0q3 c0q3x2 c0q3x3 c0q3x4 => 
            some ((vq3, ()), ((c0q3, c0q3x2, c0q3x3, c0q3x4, ()), ()))) r2.1 r2.2.1 r2.2.2.1 rv.1 rv.2.1 rv.2.2.1 rv.2.2.2.1)))

noncomputable def frameReaderNumber.body : Code := Tryd.f48.body.getD .skip
abbrev frameReaderNumber.shj6 : Shp := ⟨[.p 0 0, .u, .u, .u, .u, .u, .u, .d (.int .u64), .d (.int .i64), .d (.int .i64), .u, .u, .u, .u, .u, .u, .u, .u, .u, .u, .u, .u, .u, .u, .u, .u, .u, .u, .u, .u, .u, .u, .u, .u, .u, .u, .u, .u, .u, .u, .u, .u, .u, .u, .u, .u, .u, .u, .u, .u, .u, .u, .u], [.c [.d (.slice (.int .u8)), .d (.int .i64), .d (.int .u8), .d (.int .i64)]]⟩
abbrev frameReaderNumber.outj6e1 : Shp := ⟨[.u, .u, .u, .u, .u, .u, .d (.int .u64), .u, .u, .u, .u, .u, .u, .u, .u, .u, .u, .u, .u, .u, .u, .u, .u, .u, .u, .u, .u, .u, .u, .u, .u, .u, .u, .u, .u, .u, .u, .u, .u, .u, .u, .u, .u, .u, .u, .u, .u, .u, .u, .u, .u, .u, .u], [.c [.d (.slice (.int .u8)), .d (.int .i64), .d (.int .u8), .d (.int .i64)]]⟩
noncomputable def frameReaderNumber.nmj6 : Norm := ⟨{ keep := [0, 7, 8, 9], shut := [(7, (.int .u64)), (8, (.int .i64)), (9, (.int .i64))], retag := [], heap := 1, dead := [], cshut := [(0, 0, (.slice (.int .u8))), (0, 1, (.int .i64)), (0, 2, (.int .u8)), (0, 3, (.int .i64))], cretag := [] }, [(1, { keep := [6], shut := [(6, (.int .u64))], retag := [], heap := 1, dead := [], cshut := [(0, 0, (.slice (.int .u8))), (0, 1, (.int .i64)), (0, 2, (.int .u8)), (0, 3, (.int .i64))], cretag := [] })]⟩
noncomputable def frameReaderNumber.con : OCon := { ps := [.obj kO2, .dat (.int .u8), .dat (.int .u64)], rs := [.dat (.int .u64)], f := fun n x => frameReaderNumber n x.1 x.2.1 x.2.2.1 }
noncomputable def frameReaderNumber.env : Env := { tys := [(23, ⟨(.int .u64), 8⟩), (84, ⟨kS3, 48⟩), (29, ⟨(.int .i64), 8⟩), (4, ⟨.bool, 1⟩), (5, ⟨(.int .u8), 1⟩), (24, ⟨(.slice (.int .u8)), 24⟩), (3, ⟨(.int .i64), 8⟩)], elems := [], ptrs := [], cons := [(37, frameHas.con), (57, packGet.con)], objs := [], loops := [], cuts := [(6, frameReaderNumber.nmj6)], globs := globs, base := 1 }
noncomputable def frameReaderNumber.lp (n : Nat) : LP (RT frameReaderNumber.con.rs × BT frameReaderNumber.con.ps) := fun lo κ body nm K s =>
  cond (!lo && Nat.beq κ 6)
    (match frameReaderNumber.shj6.dec s with
    | some v => frameReaderNumber.j6 n (fun w0 w1 w2 w3 w4 => K .ret (frameReaderNumber.outj6e1.enc (w0, w1, w2, w3, w4, ()))) v.1 v.2.1 v.2.2.1 v.2.2.2.1 v.2.2.2.2.1 v.2.2.2.2.2.1 v.2.2.2.2.2.2.1
    | none => loops n (RT frameReaderNumber.con.rs × BT frameReaderNumber.con.ps) lo κ body nm K s)
    (loops n (RT frameReaderNumber.con.rs × BT frameReaderNumber.con.ps) lo κ body nm K s)
theorem frameReaderNumber.atj6 (n : Nat) (s : St) (K : Ex → St → Option (RT frameReaderNumber.con.rs × BT frameReaderNumber.con.ps)) : (frameReaderNumber.lp n) false 6 (evK frameReaderNumber.env (frameReaderNumber.lp n) n (sub [1, 1, 1, 1] frameReaderNumber.body)) frameReaderNumber.nmj6 K s = loops n (RT frameReaderNumber.con.rs × BT frameReaderNumber.con.ps) false 6 (evK frameReaderNumber.env (frameReaderNumber.lp n) n (sub [1, 1, 1, 1] frameReaderNumber.body)) frameReaderNumber.nmj6 K s := by
  show (match frameReaderNumber.shj6.dec s with | some v => frameReaderNumber.j6 n (fun w0 w1 w2 w3 w4 => K .ret (frameReaderNumber.outj6e1.enc (w0, w1, w2, w3, w4, ()))) v.1 v.2.1 v.2.2.1 v.2.2.2.1 v.2.2.2.2.1 v.2.2.2.2.2.1 v.2.2.2.2.2.2.1 | none => loops n (RT frameReaderNumber.con.rs × BT frameReaderNumber.con.ps) false 6 (evK frameReaderNumber.env (frameReaderNumber.lp n) n (sub [1, 1, 1, 1] frameReaderNumber.body)) frameReaderNumber.nmj6 K s) = _
  cases h : frameReaderNumber.shj6.dec s with
  | none => rfl
  | some v =>
    rw [Shp.dec_enc h]
    kernel_rfl
theorem frameReaderNumber.eq (n : Nat) (x : PT frameReaderNumber.con.ps) : evFuncO frameReaderNumber.env Tryd.f48 frameReaderNumber.body frameReaderNumber.con.ps frameReaderNumber.con.rs (frameReaderNumber.lp n) n x = frameReaderNumber.con.f n x := by kernel_rfl
theorem frameReaderNumber.sound : SoundO Tryd.prog globs 48 frameReaderNumber.con :=
  sound_byO (E := frameReaderNumber.env) (c := frameReaderNumber.body) (envOk (G := globs) (lc := [(37, frameHas.con), (57, packGet.con)]) (lo := []) (envB_spec (by kernel_rfl)) rfl rfl ⟨.inl ⟨frameHas.sound, by kernel_rfl⟩, ⟨.inl ⟨packGet.sound, by kernel_rfl⟩, trivial⟩⟩ rfl trivial (by kernel_rfl) (by kernel_rfl)) Tryd.func48 (by kernel_rfl) (by kernel_rfl) (by kernel_rfl) frameReaderNumber.lp (l := [(false, sub [1, 1, 1, 1] frameReaderNumber.body, frameReaderNumber.nmj6)]) (by kernel_rfl) (fun n => ⟨frameReaderNumber.atj6 n, trivial⟩) frameReaderNumber.eq
noncomputable def packGetText (fu : Nat) (b : List Int) (atv : Int) (most : Int) : Option ((List Int) × Int × Int × Unit) :=
  (packGet fu b atv).bind fun r1 =>
  cond (r1.2.2.1 != (0 : Int)) (
    some (([] : List Int), (0 : Int), r1.2.2.1, ())) (
    let t2 := IntKind.u64.wrap (max2 most (0 : Int))
    cond (decide (r1.1 > t2)) (
      some (([] : List Int), (0 : Int), (4 : Int), ())) (
      let t3 := IntKind.i64.wrap ((b.length : Int) - r1.2.1)
      let t4 := decide (r1.1 > IntKind.u64.wrap t3)
      cond t4 (
        some (([] : List Int), (0 : Int), (3 : Int), ())) (
        let t5 := IntKind.i64.wrap (r1.2.1 + IntKind.i64.wrap r1.1)
        chk (cutOk b r1.2.1 t5) <|
        let t6 := IntKind.i64.wrap (r1.2.1 + IntKind.i64.wrap r1.1)
        some (cutL b r1.2.1 t5, t6, (0 : Int), ()))))

noncomputable def packGetText.body : Code := Tryd.f58.body.getD .skip
noncomputable def packGetText.con : Con := { ps := [(.slice (.int .u8)), (.int .i64), (.int .i64)], rs := [.str, (.int .i64), (.int .i64)], f := fun n x => packGetText n x.1 x.2.1 x.2.2.1 }
noncomputable def packGetText.env : Env := { tys := [(9, ⟨.str, 16⟩), (3, ⟨(.int .i64), 8⟩), (29, ⟨(.int .i64), 8⟩), (23, ⟨(.int .u64), 8⟩), (5, ⟨(.int .u8), 1⟩), (24, ⟨(.slice (.int .u8)), 24⟩)], elems := [(24, 5)], ptrs := [], cons := [(57, packGet.con)], objs := [], loops := [], cuts := [], globs := globs, base := 0 }
noncomputable def packGetText.lp (n : Nat) : LP (Kd.struct packGetText.con.rs).T := fun lo κ body nm K s =>
  loops n (Kd.struct packGetText.con.rs).T lo κ body nm K s
theorem packGetText.eq (n : Nat) (x : (Kd.struct packGetText.con.ps).T) : evFunc packGetText.env Tryd.f58 packGetText.body packGetText.con.ps packGetText.con.rs (packGetText.lp n) n x = packGetText.con.f n x := by kernel_rfl
theorem packGetText.sound : Sound Tryd.prog globs 58 packGetText.con :=
  sound_by (E := packGetText.env) (c := packGetText.body) (envOk (G := globs) (lc := [(57, packGet.con)]) (lo := []) (envB_spec (by kernel_rfl)) rfl rfl ⟨.inl ⟨packGet.sound, by kernel_rfl⟩, trivial⟩ rfl trivial (by kernel_rfl) (by kernel_rfl)) Tryd.func58 (by kernel_rfl) packGetText.lp (l := []) (by kernel_rfl) (fun n => trivial) packGetText.eq
noncomputable def frameReaderText (fu : Nat) (rv : O2) : Option (((List Int) × Unit) × (O2 × Unit)) :=
  cond (rv.2.2.2.1 != (0 : Int)) (
    some (([], ()), (rv, ()))) (
    (frameHas fu rv.2.2.1 (16 : Int)).bind fun r1 =>
    cond (!r1.1) (
      some (([], ()), (rv, ()))) (
      (packGetText fu rv.1 rv.2.1 (8192 : Int)).bind fun r2 =>
      some ((r2.1, ()), ((rv.1, r2.2.1, rv.2.2.1, r2.2.2.1, ()), ()))))

noncomputable def frameReaderText.body : Code := Tryd.f49.body.getD .skip
noncomputable def frameReaderText.con : OCon := { ps := [.obj kO2], rs := [.dat (.slice (.int .u8))], f := fun n x => frameReaderText n x.1 }
noncomputable def frameReaderText.env : Env := { tys := [(24, ⟨(.slice (.int .u8)), 24⟩), (84, ⟨kS3, 48⟩), (29, ⟨(.int .i64), 8⟩), (4, ⟨.bool, 1⟩), (5, ⟨(.int .u8), 1⟩), (3, ⟨(.int .i64), 8⟩), (9, ⟨.str, 16⟩)], elems := [(24, 5)], ptrs := [], cons := [(37, frameHas.con), (58, packGetText.con)], objs := [], loops := [], cuts := [], globs := globs, base := 1 }
noncomputable def frameReaderText.lp (n : Nat) : LP (RT frameReaderText.con.rs × BT frameReaderText.con.ps) := fun lo κ body nm K s =>
  loops n (RT frameReaderText.con.rs × BT frameReaderText.con.ps) lo κ body nm K s
theorem frameReaderText.eq (n : Nat) (x : PT frameReaderText.con.ps) : evFuncO frameReaderText.env Tryd.f49 frameReaderText.body frameReaderText.con.ps frameReaderText.con.rs (frameReaderText.lp n) n x = frameReaderText.con.f n x := by kernel_rfl
theorem frameReaderText.sound : SoundO Tryd.prog globs 49 frameReaderText.con :=
  sound_byO (E := frameReaderText.env) (c := frameReaderText.body) (envOk (G := globs) (lc := [(37, frameHas.con), (58, packGetText.con)]) (lo := []) (envB_spec (by kernel_rfl)) rfl rfl ⟨.inl ⟨frameHas.sound, by kernel_rfl⟩, ⟨.inl ⟨packGetText.sound, by kernel_rfl⟩, trivial⟩⟩ rfl trivial (by kernel_rfl) (by kernel_rfl)) Tryd.func49 (by kernel_rfl) (by kernel_rfl) (by kernel_rfl) frameReaderText.lp (l := []) (by kernel_rfl) (fun n => trivial) frameReaderText.eq
noncomputable def frameBodyF31.j17 (fu : Nat) (k1 : Int → Int → Int → Int → Int → Int → (List Int) → Option (S0 × Int × Unit)) (c0 : Int) (c0x2 : Int) (c0x3 : Int) (c0x4 : Int) (c0x5 : Int) (c0x6 : List Int) (c1 : List Int) (c1x2 : Int) (c1x3 : Int) (c1x4 : Int) (b2 : S0) : Option (S0 × Int × Unit) :=
  cond (c1x4 != (0 : Int)) (
    k1 c1x4 (0 : Int) (0 : Int) (0 : Int) (0 : Int) (0 : Int) []) (
    k1 (0 : Int) b2.1 b2.2.1 b2.2.2.1 b2.2.2.2.1 b2.2.2.2.2.1 b2.2.2.2.2.2.1)
noncomputable def frameBodyF31 (fu : Nat) (b : List Int) : Option (S0 × Int × Unit) :=
  let t1 := (b.length : Int) == (0 : Int)
  cond t1 (
    some (((0 : Int), (0 : Int), (0 : Int), (0 : Int), (0 : Int), [], ()), (3 : Int), ())) (
    let t2 := decide ((b.length : Int) > (8192 : Int))
    cond t2 (
      some (((0 : Int), (0 : Int), (0 : Int), (0 : Int), (0 : Int), [], ()), (4 : Int), ())) (
      chk (ixOk b (0 : Int)) <|
      let e3 := ixL (0 : Int) b (0 : Int)
      (frameOf fu e3).bind fun r4 =>
      cond (!r4.2.1) (
        some (((0 : Int), (0 : Int), (0 : Int), (0 : Int), (0 : Int), [], ()), (11 : Int), ())) (
        chk (ixOk b (0 : Int)) <|
        let e5 := ixL (0 : Int) b (0 : Int)
        (frameReaderNumber fu (b, (1 : Int), r4.1, (0 : Int), ()) (1 : Int) (4294967295 : Int)).bind fun r6 =>
        (frameReaderNumber fu r6.2.1 (2 : Int) (4294967295 : Int)).bind fun r7 =>
        (frameReaderNumber fu r7.2.1 (4 : Int) (18446744073709551615 : Int)).bind fun r8 =>
        (frameReaderNumber fu r8.2.1 (8 : Int) (18446744073709551615 : Int)).bind fun r9 =>
        (frameReaderText fu r9.2.1).bind fun r10 =>
        let t11 := r10.2.1.2.2.2.1 == (0 : Int)
        cond t11 (
          let t12 := decide (r10.2.1.2.1 < (b.length : Int))
          cond t12 (
            frameBodyF31.j17 fu (fun vq1 c0q1 c0q1x2 c0q1x3 c0q1x4 c0q1x5 c0q1x6 => 
                some ((c0q1, c0q1x2, c0q1x3, c0q1x4, c0q1x5, c0q1x6, ()), vq1, ())) (0 : Int) (0 : Int) (0 : Int) (0 : Int) (0 : Int) [] r10.2.1.1 r10.2.1.2.1 r10.2.1.2.2.1 (2 : Int) (e5, IntKind.u32.wrap r6.1.1, IntKind.u32.wrap r7.1.1, r8.1.1, r9.1.1, r10.1.1, ())) (
            frameBodyF31.j17 fu (fun vq2 c0q2 c0q2x2 c0q2x3 c0q2x4 c0q2x5 c0q2x6 => 
                some ((c0q2, c0q2x2, c0q2x3, c0q2x4, c0q2x5, c0q2x6, ()), vq2, ())) (0 : Int) (0 : Int) (0 : Int) (0 : Int) (0 : Int) [] r10.2.1.1 r10.2.1.2.1 r10.2.1.2.2.1 r10.2.1.2.2.2.1 (e5, IntKind.u32.wrap r6.1.1, IntKind.u32.wrap r7.1.1, r8.1.1, r9.1.1, r10.1.1, ()))) (
          frameBodyF31.j17 fu (fun vq3 c0q3 c0q3x2 c0q3x3 c0q3x4 c0q3x5 c0q3x6 => 
              some ((c0q3, c0q3x2, c0q3x3, c0q3x4, c0q3x5, c0q3x6, ()), vq3, ())) (0 : Int) (0 : Int) (0 : Int) (0 : Int) (0 : Int) [] r10.2.1.1 r10.2.1.2.1 r10.2.1.2.2.1 r10.2.1.2.2.2.1 (e5, IntKind.u32.wrap r6.1.1, IntKind.u32.wrap r7.1.1, r8.1.1, r9.1.1, r10.1.1, ())))))

noncomputable def frameBodyF31.body : Code := Tryd.f31.body.getD .skip
abbrev frameBodyF31.shj17 : Shp := ⟨[.u, .u, .p 0 0, .u, .u, .u, .p 1 0, .p 2 0, .u, .u, .u, .u, .u, .u, .u, .u, .u, .u, .u, .u, .u, .u, .u, .u, .u, .u, .u, .u, .u, .u, .u, .u, .u, .u, .u, .u, .u, .u, .u, .u, .u, .u, .u, .u, .u, .u, .u, .u, .u, .u, .u, .u, .u, .u, .u, .u, .u, .u, .u, .u, .u, .u, .u, .u, .u, .u, .u, .u, .u, .u, .u, .u, .u, .u, .u, .u, .u, .u, .u, .u, .u], [.c [.d (.int .u8), .d (.int .u32), .d (.int .u32), .d (.int .u64), .d (.int .u64), .o 1005 (.int .u8)], .c [.d (.slice (.int .u8)), .d (.int .i64), .d (.int .u8), .d (.int .i64)], .c [.g kS0]]⟩
abbrev frameBodyF31.outj17e1 : Shp := ⟨[.u, .u, .p 0 0, .d (.int .i64), .u, .u, .u, .u, .u, .u, .u, .u, .u, .u, .u, .u, .u, .u, .u, .u, .u, .u, .u, .u, .u, .u, .u, .u, .u, .u, .u, .u, .u, .u, .u, .u, .u, .u, .u, .u, .u, .u, .u, .u, .u, .u, .u, .u, .u, .u, .u, .u, .u, .u, .u, .u, .u, .u, .u, .u, .u, .u, .u, .u, .u, .u, .u, .u, .u, .u, .u, .u, .u, .u, .u, .u, .u, .u, .u, .u, .u], [.c [.d (.int .u8), .d (.int .u32), .d (.int .u32), .d (.int .u64), .d (.int .u64), .d (.slice (.int .u8))]]⟩
noncomputable def frameBodyF31.nmj17 : Norm := ⟨{ keep := [2, 6, 7], shut := [], retag := [], heap := 3, dead := [], cshut := [(0, 0, (.int .u8)), (0, 1, (.int .u32)), (0, 2, (.int .u32)), (0, 3, (.int .u64)), (0, 4, (.int .u64)), (1, 0, (.slice (.int .u8))), (1, 1, (.int .i64)), (1, 2, (.int .u8)), (1, 3, (.int .i64)), (2, 0, (.int .u8)), (2, 1, (.int .u32)), (2, 2, (.int .u32)), (2, 3, (.int .u64)), (2, 4, (.int .u64)), (2, 5, (.slice (.int .u8)))], cretag := [(0, 5, 1005, (.int .u8))] }, [(1, { keep := [2, 3], shut := [(3, (.int .i64))], retag := [], heap := 1, dead := [], cshut := [(0, 0, (.int .u8)), (0, 1, (.int .u32)), (0, 2, (.int .u32)), (0, 3, (.int .u64)), (0, 4, (.int .u64)), (0, 5, (.slice (.int .u8)))], cretag := [] })]⟩
noncomputable def frameBodyF31.con : Con := { ps := [(.slice (.int .u8))], rs := [kS0, (.int .i64)], f := fun n x => frameBodyF31 n x.1 }
noncomputable def frameBodyF31.env : Env := { tys := [(26, ⟨kS0, 56⟩), (29, ⟨(.int .i64), 8⟩), (5, ⟨(.int .u8), 1⟩), (84, ⟨kS3, 48⟩), (22, ⟨(.int .u32), 4⟩), (23, ⟨(.int .u64), 8⟩), (24, ⟨(.slice (.int .u8)), 24⟩), (3, ⟨(.int .i64), 8⟩), (4, ⟨.bool, 1⟩)], elems := [(24, 5)], ptrs := [], cons := [(36, frameOf.con)], objs := [(48, [frameReaderNumber.con]), (49, [frameReaderText.con])], loops := [], cuts := [(17, frameBodyF31.nmj17)], globs := globs, base := 0 }
noncomputable def frameBodyF31.lp (n : Nat) : LP (Kd.struct frameBodyF31.con.rs).T := fun lo κ body nm K s =>
  cond (!lo && Nat.beq κ 17)
    (match frameBodyF31.shj17.dec s with
    | some v => frameBodyF31.j17 n (fun w0 w1 w2 w3 w4 w5 w6 => K .ret (frameBodyF31.outj17e1.enc (w0, w1, w2, w3, w4, w5, w6, ()))) v.1 v.2.1 v.2.2.1 v.2.2.2.1 v.2.2.2.2.1 v.2.2.2.2.2.1 v.2.2.2.2.2.2.1 v.2.2.2.2.2.2.2.1 v.2.2.2.2.2.2.2.2.1 v.2.2.2.2.2.2.2.2.2.1 v.2.2.2.2.2.2.2.2.2.2.1
    | none => loops n (Kd.struct frameBodyF31.con.rs).T lo κ body nm K s)
    (loops n (Kd.struct frameBodyF31.con.rs).T lo κ body nm K s)
theorem frameBodyF31.atj17 (n : Nat) (s : St) (K : Ex → St → Option (Kd.struct frameBodyF31.con.rs).T) : (frameBodyF31.lp n) false 17 (evK frameBodyF31.env (frameBodyF31.lp n) n (sub [1, 1, 1, 1, 1, 1, 1, 1, 1, 1, 1, 1] frameBodyF31.body)) frameBodyF31.nmj17 K s = loops n (Kd.struct frameBodyF31.con.rs).T false 17 (evK frameBodyF31.env (frameBodyF31.lp n) n (sub [1, 1, 1, 1, 1, 1, 1, 1, 1, 1, 1, 1] frameBodyF31.body)) frameBodyF31.nmj17 K s := by
  show (match frameBodyF31.shj17.dec s with | some v => frameBodyF31.j17 n (fun w0 w1 w2 w3 w4 w5 w6 => K .ret (frameBodyF31.outj17e1.enc (w0, w1, w2, w3, w4, w5, w6, ()))) v.1 v.2.1 v.2.2.1 v.2.2.2.1 v.2.2.2.2.1 v.2.2.2.2.2.1 v.2.2.2.2.2.2.1 v.2.2.2.2.2.2.2.1 v.2.2.2.2.2.2.2.2.1 v.2.2.2.2.2.2.2.2.2.1 v.2.2.2.2.2.2.2.2.2.2.1 | none => loops n (Kd.struct frameBodyF31.con.rs).T false 17 (evK frameBodyF31.env (frameBodyF31.lp n) n (sub [1, 1, 1, 1, 1, 1, 1, 1, 1, 1, 1, 1] frameBodyF31.body)) frameBodyF31.nmj17 K s) = _
  cases h : frameBodyF31.shj17.dec s with
  | none => rfl
  | some v =>
    rw [Shp.dec_enc h]
    kernel_rfl
theorem frameBodyF31.eq (n : Nat) (x : (Kd.struct frameBodyF31.con.ps).T) : evFunc frameBodyF31.env Tryd.f31 frameBodyF31.body frameBodyF31.con.ps frameBodyF31.con.rs (frameBodyF31.lp n) n x = frameBodyF31.con.f n x := by kernel_rfl
theorem frameBodyF31.sound : Sound Tryd.prog globs 31 frameBodyF31.con :=
  sound_by (E := frameBodyF31.env) (c := frameBodyF31.body) (envOk (G := globs) (lc := [(36, frameOf.con)]) (lo := [(48, [frameReaderNumber.con]), (49, [frameReaderText.con])]) (envB_spec (by kernel_rfl)) rfl rfl ⟨.inl ⟨frameOf.sound, by kernel_rfl⟩, trivial⟩ rfl ⟨⟨⟨frameReaderNumber.sound, trivial⟩, by kernel_rfl⟩, ⟨⟨⟨frameReaderText.sound, trivial⟩, by kernel_rfl⟩, trivial⟩⟩ (by kernel_rfl) (by kernel_rfl)) Tryd.func31 (by kernel_rfl) frameBodyF31.lp (l := [(false, sub [1, 1, 1, 1, 1, 1, 1, 1, 1, 1, 1, 1] frameBodyF31.body, frameBodyF31.nmj17)]) (by kernel_rfl) (fun n => ⟨frameBodyF31.atj17 n, trivial⟩) frameBodyF31.eq
noncomputable def frameGet (fu : Nat) (b : List Int) : Option (S0 × Int × Unit) :=
  (recGet fu b (0 : Int)).bind fun r1 =>
  cond (r1.2.2.1 != (0 : Int)) (
    some (((0 : Int), (0 : Int), (0 : Int), (0 : Int), (0 : Int), [], ()), r1.2.2.1, ())) (
    let t2 := decide (r1.2.1 < (b.length : Int))
    cond t2 (
      some (((0 : Int), (0 : Int), (0 : Int), (0 : Int), (0 : Int), [], ()), (2 : Int), ())) (
      (frameBodyF31 fu r1.1).bind fun r3 =>
      some (r3.1, r3.2.1, ())))

noncomputable def frameGet.body : Code := Tryd.f14.body.getD .skip
noncomputable def frameGet.con : Con := { ps := [(.slice (.int .u8))], rs := [kS0, (.int .i64)], f := fun n x => frameGet n x.1 }
noncomputable def frameGet.env : Env := { tys := [(26, ⟨kS0, 56⟩), (29, ⟨(.int .i64), 8⟩), (5, ⟨(.int .u8), 1⟩)], elems := [(24, 5)], ptrs := [], cons := [(30, recGet.con), (31, frameBodyF31.con)], objs := [], loops := [], cuts := [], globs := globs, base := 0 }
noncomputable def frameGet.lp (n : Nat) : LP (Kd.struct frameGet.con.rs).T := fun lo κ body nm K s =>
  loops n (Kd.struct frameGet.con.rs).T lo κ body nm K s
theorem frameGet.eq (n : Nat) (x : (Kd.struct frameGet.con.ps).T) : evFunc frameGet.env Tryd.f14 frameGet.body frameGet.con.ps frameGet.con.rs (frameGet.lp n) n x = frameGet.con.f n x := by kernel_rfl
theorem frameGet.sound : Sound Tryd.prog globs 14 frameGet.con :=
  sound_by (E := frameGet.env) (c := frameGet.body) (envOk (G := globs) (lc := [(30, recGet.con), (31, frameBodyF31.con)]) (lo := []) (envB_spec (by kernel_rfl)) rfl rfl ⟨.inl ⟨recGet.sound, by kernel_rfl⟩, ⟨.inl ⟨frameBodyF31.sound, by kernel_rfl⟩, trivial⟩⟩ rfl trivial (by kernel_rfl) (by kernel_rfl)) Tryd.func14 (by kernel_rfl) frameGet.lp (l := []) (by kernel_rfl) (fun n => trivial) frameGet.eq
noncomputable def ref08Four (fu : Nat) (n : Int) : Option ((List Int) × Unit) :=
  let t1 := IntKind.u32.wrap (Int.tdiv n (16777216 : Int))
  let t2 := IntKind.u32.wrap (Int.tdiv n (65536 : Int))
  let t3 := IntKind.u8.wrap (Int.tmod t2 (256 : Int))
  let t4 := IntKind.u32.wrap (Int.tdiv n (256 : Int))
  let t5 := IntKind.u8.wrap (Int.tmod t4 (256 : Int))
  let t6 := IntKind.u8.wrap (Int.tmod n (256 : Int))
  let t7 := [IntKind.u8.wrap t1, t3, t5, t6]
  some (t7, ())

noncomputable def ref08Four.body : Code := Tryd.f44.body.getD .skip
noncomputable def ref08Four.con : Con := { ps := [(.int .u32)], rs := [(.slice (.int .u8))], f := fun n x => ref08Four n x.1 }
noncomputable def ref08Four.env : Env := { tys := [(24, ⟨(.slice (.int .u8)), 24⟩), (5, ⟨(.int .u8), 1⟩), (22, ⟨(.int .u32), 4⟩)], elems := [(24, 5)], ptrs := [], cons := [], objs := [], loops := [], cuts := [], globs := globs, base := 0 }
noncomputable def ref08Four.lp (n : Nat) : LP (Kd.struct ref08Four.con.rs).T := fun lo κ body nm K s =>
  loops n (Kd.struct ref08Four.con.rs).T lo κ body nm K s
theorem ref08Four.eq (n : Nat) (x : (Kd.struct ref08Four.con.ps).T) : evFunc ref08Four.env Tryd.f44 ref08Four.body ref08Four.con.ps ref08Four.con.rs (ref08Four.lp n) n x = ref08Four.con.f n x := by kernel_rfl
theorem ref08Four.sound : Sound Tryd.prog globs 44 ref08Four.con :=
  sound_by (E := ref08Four.env) (c := ref08Four.body) (envOk (G := globs) (lc := []) (lo := []) (envB_spec (by kernel_rfl)) rfl rfl trivial rfl trivial (by kernel_rfl) (by kernel_rfl)) Tryd.func44 (by kernel_rfl) ref08Four.lp (l := []) (by kernel_rfl) (fun n => trivial) ref08Four.eq
noncomputable def ref01Row.b6 (fu : Nat) (next : Int → (List Int) → Int → Int → Int → Option (Int × Unit)) (k4 : Int → (List Int) → Int → Int → Option (Int × Unit)) (row : Int) (b : List Int) (kv : Int) (v : Int) (vx2 : Int) : Option (Int × Unit) :=
  cond (decide (kv < (8 : Int))) (
    let t1 := Int.tmod row (2 : Int) == (1 : Int)
    let t2 := IntKind.u32.wrap (Int.tdiv row (2 : Int))
    cond t1 (
      let t3 := bXor .u32 t2 (3988292384 : Int)
      let t4 := IntKind.i64.wrap (kv + (1 : Int))
      next t3 b t4 v vx2) (
      let t5 := IntKind.i64.wrap (kv + (1 : Int))
      next t2 b t5 v vx2)) (
    k4 row b v vx2)
noncomputable def ref01Row.l6 (fu : Nat) (k4 : Int → (List Int) → Int → Int → Option (Int × Unit)) : Nat → Int → (List Int) → Int → Int → Int → Option (Int × Unit)
  | 0, _, _, _, _, _ => none
  | m + 1, row, b, kv, v, vx2 => ref01Row.b6 fu (ref01Row.l6 fu k4 m) k4 row b kv v vx2
noncomputable def ref01Row.b2 (fu : Nat) (next : Int → (List Int) → Int → Int → Option (Int × Unit)) (k2 : Int → Option (Int × Unit)) (row : Int) (b : List Int) (v : Int) (vx2 : Int) : Option (Int × Unit) :=
  cond (decide (vx2 < v)) (
    chk (ixOk b vx2) <|
    let e1 := ixL (0 : Int) b vx2
    let t2 := bXor .u32 row (IntKind.u32.wrap e1)
    ref01Row.l6 fu (fun rowq4 bq4 vq4 vq4x2 => 
        let t3 := IntKind.i64.wrap (vq4x2 + (1 : Int))
        next rowq4 bq4 vq4 t3) fu t2 b (0 : Int) v vx2) (
    k2 row)
noncomputable def ref01Row.l2 (fu : Nat) (k2 : Int → Option (Int × Unit)) : Nat → Int → (List Int) → Int → Int → Option (Int × Unit)
  | 0, _, _, _, _ => none
  | m + 1, row, b, v, vx2 => ref01Row.b2 fu (ref01Row.l2 fu k2 m) k2 row b v vx2
noncomputable def ref01Row (fu : Nat) (row : Int) (b : List Int) : Option (Int × Unit) :=
  ref01Row.l2 fu (fun rowq2 => 
      some (rowq2, ())) fu row b (b.length : Int) (0 : Int)

noncomputable def ref01Row.body : Code := Tryd.f56.body.getD .skip
abbrev ref01Row.shl6 : Shp := ⟨[.d (.int .u32), .d (.slice (.int .u8)), .u, .u, .u, .u, .d (.int .i64), .u, .u, .d (.int .i64), .d (.int .i64), .u, .u, .u, .u, .u, .u, .u, .u, .u, .u, .u, .u, .u, .u, .u, .u, .u, .u, .u, .u, .u, .u, .u], []⟩
abbrev ref01Row.outl6e4 : Shp := ⟨[.d (.int .u32), .d (.slice (.int .u8)), .u, .u, .u, .u, .u, .u, .u, .d (.int .i64), .d (.int .i64), .u, .u, .u, .u, .u, .u, .u, .u, .u, .u, .u, .u, .u, .u, .u, .u, .u, .u, .u, .u, .u, .u, .u], []⟩
noncomputable def ref01Row.nml6 : Norm := ⟨{ keep := [0, 1, 6, 9, 10], shut := [(0, (.int .u32)), (1, (.slice (.int .u8))), (6, (.int .i64)), (9, (.int .i64)), (10, (.int .i64))], retag := [], heap := 0, dead := [], cshut := [], cretag := [] }, [(4, { keep := [0, 1, 9, 10], shut := [(0, (.int .u32)), (1, (.slice (.int .u8))), (9, (.int .i64)), (10, (.int .i64))], retag := [], heap := 0, dead := [], cshut := [], cretag := [] })]⟩
abbrev ref01Row.shl2 : Shp := ⟨[.d (.int .u32), .d (.slice (.int .u8)), .u, .u, .u, .u, .u, .u, .u, .d (.int .i64), .d (.int .i64), .u, .u, .u, .u, .u, .u, .u, .u, .u, .u, .u, .u, .u, .u, .u, .u, .u, .u, .u, .u, .u, .u, .u], []⟩
abbrev ref01Row.outl2e2 : Shp := ⟨[.d (.int .u32), .u, .u, .u, .u, .u, .u, .u, .u, .u, .u, .u, .u, .u, .u, .u, .u, .u, .u, .u, .u, .u, .u, .u, .u, .u, .u, .u, .u, .u, .u, .u, .u, .u], []⟩
noncomputable def ref01Row.nml2 : Norm := ⟨{ keep := [0, 1, 9, 10], shut := [(0, (.int .u32)), (1, (.slice (.int .u8))), (9, (.int .i64)), (10, (.int .i64))], retag := [], heap := 0, dead := [], cshut := [], cretag := [] }, [(2, { keep := [0], shut := [(0, (.int .u32))], retag := [], heap := 0, dead := [], cshut := [], cretag := [] })]⟩
noncomputable def ref01Row.con : Con := { ps := [(.int .u32), (.slice (.int .u8))], rs := [(.int .u32)], f := fun n x => ref01Row n x.1 x.2.1 }
noncomputable def ref01Row.env : Env := { tys := [(22, ⟨(.int .u32), 4⟩), (5, ⟨(.int .u8), 1⟩), (3, ⟨(.int .i64), 8⟩)], elems := [(24, 5)], ptrs := [], cons := [], objs := [], loops := [(6, ref01Row.nml6), (2, ref01Row.nml2)], cuts := [], globs := globs, base := 0 }
noncomputable def ref01Row.lp (n : Nat) : LP (Kd.struct ref01Row.con.rs).T := fun lo κ body nm K s =>
  cond (lo && Nat.beq κ 6)
    (match ref01Row.shl6.dec s with
    | some v => ref01Row.l6 n (fun w0 w1 w2 w3 => K (.exit 2) (ref01Row.outl6e4.enc (w0, w1, w2, w3, ()))) n v.1 v.2.1 v.2.2.1 v.2.2.2.1 v.2.2.2.2.1
    | none => loops n (Kd.struct ref01Row.con.rs).T lo κ body nm K s)
    (cond (lo && Nat.beq κ 2)
    (match ref01Row.shl2.dec s with
    | some v => ref01Row.l2 n (fun w0 => K (.exit 0) (ref01Row.outl2e2.enc (w0, ()))) n v.1 v.2.1 v.2.2.1 v.2.2.2.1
    | none => loops n (Kd.struct ref01Row.con.rs).T lo κ body nm K s)
    (loops n (Kd.struct ref01Row.con.rs).T lo κ body nm K s))
theorem ref01Row.atl6 (n : Nat) (s : St) (K : Ex → St → Option (Kd.struct ref01Row.con.rs).T) : (ref01Row.lp n) true 6 (evK ref01Row.env (ref01Row.lp n) n (sub [1, 0, 1, 0, 0, 1, 1, 0, 0, 1, 1, 1, 0, 0] ref01Row.body)) ref01Row.nml6 K s = loops n (Kd.struct ref01Row.con.rs).T true 6 (evK ref01Row.env (ref01Row.lp n) n (sub [1, 0, 1, 0, 0, 1, 1, 0, 0, 1, 1, 1, 0, 0] ref01Row.body)) ref01Row.nml6 K s := by
  show (match ref01Row.shl6.dec s with | some v => ref01Row.l6 n (fun w0 w1 w2 w3 => K (.exit 2) (ref01Row.outl6e4.enc (w0, w1, w2, w3, ()))) n v.1 v.2.1 v.2.2.1 v.2.2.2.1 v.2.2.2.2.1 | none => loops n (Kd.struct ref01Row.con.rs).T true 6 (evK ref01Row.env (ref01Row.lp n) n (sub [1, 0, 1, 0, 0, 1, 1, 0, 0, 1, 1, 1, 0, 0] ref01Row.body)) ref01Row.nml6 K s) = _
  cases h : ref01Row.shl6.dec s with
  | none => rfl
  | some v =>
    rw [Shp.dec_enc h]
    exact (evLoop_eq (sh := ref01Row.shl6) (body := evK ref01Row.env (ref01Row.lp n) n (sub [1, 0, 1, 0, 0, 1, 1, 0, 0, 1, 1, 1, 0, 0] ref01Row.body)) (nm := ref01Row.nml6) (K := K) (b := fun nx v => ref01Row.b6 n (fun x0 x1 x2 x3 x4 => nx (x0, x1, x2, x3, x4, ())) (fun w0 w1 w2 w3 => K (.exit 2) (ref01Row.outl6e4.enc (w0, w1, w2, w3, ()))) v.1 v.2.1 v.2.2.1 v.2.2.2.1 v.2.2.2.2.1) (l := fun m v => ref01Row.l6 n (fun w0 w1 w2 w3 => K (.exit 2) (ref01Row.outl6e4.enc (w0, w1, w2, w3, ()))) m v.1 v.2.1 v.2.2.1 v.2.2.2.1 v.2.2.2.2.1) (fun _ => rfl) (fun _ _ => rfl) (fun m v => by kernel_rfl) n v).symm
theorem ref01Row.atl2 (n : Nat) (s : St) (K : Ex → St → Option (Kd.struct ref01Row.con.rs).T) : (ref01Row.lp n) true 2 (evK ref01Row.env (ref01Row.lp n) n (sub [1, 0, 1, 0, 0] ref01Row.body)) ref01Row.nml2 K s = loops n (Kd.struct ref01Row.con.rs).T true 2 (evK ref01Row.env (ref01Row.lp n) n (sub [1, 0, 1, 0, 0] ref01Row.body)) ref01Row.nml2 K s := by
  show (match ref01Row.shl2.dec s with | some v => ref01Row.l2 n (fun w0 => K (.exit 0) (ref01Row.outl2e2.enc (w0, ()))) n v.1 v.2.1 v.2.2.1 v.2.2.2.1 | none => loops n (Kd.struct ref01Row.con.rs).T true 2 (evK ref01Row.env (ref01Row.lp n) n (sub [1, 0, 1, 0, 0] ref01Row.body)) ref01Row.nml2 K s) = _
  cases h : ref01Row.shl2.dec s with
  | none => rfl
  | some v =>
    rw [Shp.dec_enc h]
    exact (evLoop_eq (sh := ref01Row.shl2) (body := evK ref01Row.env (ref01Row.lp n) n (sub [1, 0, 1, 0, 0] ref01Row.body)) (nm := ref01Row.nml2) (K := K) (b := fun nx v => ref01Row.b2 n (fun x0 x1 x2 x3 => nx (x0, x1, x2, x3, ())) (fun w0 => K (.exit 0) (ref01Row.outl2e2.enc (w0, ()))) v.1 v.2.1 v.2.2.1 v.2.2.2.1) (l := fun m v => ref01Row.l2 n (fun w0 => K (.exit 0) (ref01Row.outl2e2.enc (w0, ()))) m v.1 v.2.1 v.2.2.1 v.2.2.2.1) (fun _ => rfl) (fun _ _ => rfl) (fun m v => by kernel_rfl) n v).symm
theorem ref01Row.eq (n : Nat) (x : (Kd.struct ref01Row.con.ps).T) : evFunc ref01Row.env Tryd.f56 ref01Row.body ref01Row.con.ps ref01Row.con.rs (ref01Row.lp n) n x = ref01Row.con.f n x := by kernel_rfl
theorem ref01Row.sound : Sound Tryd.prog globs 56 ref01Row.con :=
  sound_by (E := ref01Row.env) (c := ref01Row.body) (envOk (G := globs) (lc := []) (lo := []) (envB_spec (by kernel_rfl)) rfl rfl trivial rfl trivial (by kernel_rfl) (by kernel_rfl)) Tryd.func56 (by kernel_rfl) ref01Row.lp (l := [(true, sub [1, 0, 1, 0, 0, 1, 1, 0, 0, 1, 1, 1, 0, 0] ref01Row.body, ref01Row.nml6), (true, sub [1, 0, 1, 0, 0] ref01Row.body, ref01Row.nml2)]) (by kernel_rfl) (fun n => ⟨ref01Row.atl6 n, ⟨ref01Row.atl2 n, trivial⟩⟩) ref01Row.eq
noncomputable def ref01Sum (fu : Nat) (b : List Int) : Option (Int × Unit) :=
  (ref01Row fu (4294967295 : Int) b).bind fun r1 =>
  let t2 := bXor .u32 r1.1 (4294967295 : Int)
  some (t2, ())

noncomputable def ref01Sum.body : Code := Tryd.f45.body.getD .skip
noncomputable def ref01Sum.con : Con := { ps := [(.slice (.int .u8))], rs := [(.int .u32)], f := fun n x => ref01Sum n x.1 }
noncomputable def ref01Sum.env : Env := { tys := [(22, ⟨(.int .u32), 4⟩)], elems := [], ptrs := [], cons := [(56, ref01Row.con)], objs := [], loops := [], cuts := [], globs := globs, base := 0 }
noncomputable def ref01Sum.lp (n : Nat) : LP (Kd.struct ref01Sum.con.rs).T := fun lo κ body nm K s =>
  loops n (Kd.struct ref01Sum.con.rs).T lo κ body nm K s
theorem ref01Sum.eq (n : Nat) (x : (Kd.struct ref01Sum.con.ps).T) : evFunc ref01Sum.env Tryd.f45 ref01Sum.body ref01Sum.con.ps ref01Sum.con.rs (ref01Sum.lp n) n x = ref01Sum.con.f n x := by kernel_rfl
theorem ref01Sum.sound : Sound Tryd.prog globs 45 ref01Sum.con :=
  sound_by (E := ref01Sum.env) (c := ref01Sum.body) (envOk (G := globs) (lc := [(56, ref01Row.con)]) (lo := []) (envB_spec (by kernel_rfl)) rfl rfl ⟨.inl ⟨ref01Row.sound, by kernel_rfl⟩, trivial⟩ rfl trivial (by kernel_rfl) (by kernel_rfl)) Tryd.func45 (by kernel_rfl) ref01Sum.lp (l := []) (by kernel_rfl) (fun n => trivial) ref01Sum.eq
noncomputable def ref08Put (fu : Nat) (b : List Int) (record : List Int) : Option ((List Int) × Int × Unit) :=
  let t1 := decide ((record.length : Int) > (65536 : Int))
  cond t1 (
    some ([], (4 : Int), ())) (
    let t2 := IntKind.u32.wrap (record.length : Int)
    (ref08Four fu t2).bind fun r3 =>
    chk (apOk [] r3.1 1) <|
    chk (apOk ([] ++ r3.1) record 1) <|
    chk (apOk [] b 1) <|
    chk (apOk ([] ++ b) r3.1 1) <|
    (ref01Sum fu (([] ++ r3.1) ++ record)).bind fun r4 =>
    (ref08Four fu r4.1).bind fun r5 =>
    chk (apOk (([] ++ b) ++ r3.1) r5.1 1) <|
    let t6 := (([] ++ b) ++ r3.1) ++ r5.1
    chk (apOk t6 record 1) <|
    some (t6 ++ record, (0 : Int), ()))

noncomputable def ref08Put.body : Code := Tryd.f29.body.getD .skip
noncomputable def ref08Put.con : Con := { ps := [(.slice (.int .u8)), (.slice (.int .u8))], rs := [(.slice (.int .u8)), (.int .i64)], f := fun n x => ref08Put n x.1 x.2.1 }
noncomputable def ref08Put.env : Env := { tys := [(24, ⟨(.slice (.int .u8)), 24⟩), (3, ⟨(.int .i64), 8⟩), (5, ⟨(.int .u8), 1⟩), (22, ⟨(.int .u32), 4⟩)], elems := [(24, 5)], ptrs := [], cons := [(44, ref08Four.con), (45, ref01Sum.con)], objs := [], loops := [], cuts := [], globs := globs, base := 0 }
noncomputable def ref08Put.lp (n : Nat) : LP (Kd.struct ref08Put.con.rs).T := fun lo κ body nm K s =>
  loops n (Kd.struct ref08Put.con.rs).T lo κ body nm K s
theorem ref08Put.eq (n : Nat) (x : (Kd.struct ref08Put.con.ps).T) : evFunc ref08Put.env Tryd.f29 ref08Put.body ref08Put.con.ps ref08Put.con.rs (ref08Put.lp n) n x = ref08Put.con.f n x := by kernel_rfl
theorem ref08Put.sound : Sound Tryd.prog globs 29 ref08Put.con :=
  sound_by (E := ref08Put.env) (c := ref08Put.body) (envOk (G := globs) (lc := [(44, ref08Four.con), (45, ref01Sum.con)]) (lo := []) (envB_spec (by kernel_rfl)) rfl rfl ⟨.inl ⟨ref08Four.sound, by kernel_rfl⟩, ⟨.inl ⟨ref01Sum.sound, by kernel_rfl⟩, trivial⟩⟩ rfl trivial (by kernel_rfl) (by kernel_rfl)) Tryd.func29 (by kernel_rfl) ref08Put.lp (l := []) (by kernel_rfl) (fun n => trivial) ref08Put.eq
noncomputable def ref08Get.b6 (fu : Nat) (next : (List Int) → Int → (List Int) → Int → Int → Option ((List Int) × Int × Int × Unit)) (k2 : (List Int) → Int → (List Int) → Int → Option ((List Int) × Int × Int × Unit)) (b : List Int) (atv : Int) (nonev : List Int) (n : Int) (i : Int) : Option ((List Int) × Int × Int × Unit) :=
  cond (decide (i < (4 : Int))) (
    let t1 := IntKind.i64.wrap (n * (256 : Int))
    let t2 := IntKind.i64.wrap (atv + i)
    chk (ixOk b t2) <|
    let e3 := ixL (0 : Int) b t2
    let t4 := IntKind.i64.wrap (t1 + IntKind.i64.wrap e3)
    let t5 := IntKind.i64.wrap (i + (1 : Int))
    next b atv nonev t4 t5) (
    k2 b atv nonev n)
noncomputable def ref08Get.l6 (fu : Nat) (k2 : (List Int) → Int → (List Int) → Int → Option ((List Int) × Int × Int × Unit)) : Nat → (List Int) → Int → (List Int) → Int → Int → Option ((List Int) × Int × Int × Unit)
  | 0, _, _, _, _, _ => none
  | m + 1, b, atv, nonev, n, i => ref08Get.b6 fu (ref08Get.l6 fu k2 m) k2 b atv nonev n i
noncomputable def ref08Get (fu : Nat) (b : List Int) (atv : Int) : Option ((List Int) × Int × Int × Unit) :=
  cond (decide (atv < (0 : Int))) (
    some ([], (0 : Int), (3 : Int), ())) (
    let t1 := decide (atv > (b.length : Int))
    cond t1 (
      some ([], (0 : Int), (3 : Int), ())) (
      let t2 := IntKind.i64.wrap ((b.length : Int) - atv)
      cond (decide (t2 < (4 : Int))) (
        some ([], (0 : Int), (3 : Int), ())) (
        ref08Get.l6 fu (fun bq2 atvq2 nonevq2 nq2 => 
            let t3 := decide (nq2 > (65536 : Int))
            cond t3 (
              some (nonevq2, (0 : Int), (4 : Int), ())) (
              let t4 := IntKind.i64.wrap ((bq2.length : Int) - atvq2)
              let t5 := IntKind.i64.wrap ((8 : Int) + nq2)
              cond (decide (t4 < t5)) (
                some (nonevq2, (0 : Int), (3 : Int), ())) (
                let t6 := IntKind.i64.wrap (atvq2 + (8 : Int))
                let t7 := IntKind.i64.wrap (atvq2 + (8 : Int))
                let t8 := IntKind.i64.wrap (t7 + nq2)
                chk (cutOk bq2 t6 t8) <|
                chk (apOk [] (cutL bq2 t6 t8) 1) <|
                (ref08Put fu [] ([] ++ (cutL bq2 t6 t8))).bind fun r9 =>
                let t10 := IntKind.i64.wrap (atvq2 + (8 : Int))
                let t11 := IntKind.i64.wrap (t10 + nq2)
                chk (cutOk bq2 atvq2 t11) <|
                let t12 := r9.1 != (cutL bq2 atvq2 t11)
                cond t12 (
                  some (nonevq2, (0 : Int), (6 : Int), ())) (
                  let t13 := IntKind.i64.wrap (atvq2 + (8 : Int))
                  let t14 := IntKind.i64.wrap (t13 + nq2)
                  some ([] ++ (cutL bq2 t6 t8), t14, (0 : Int), ()))))) fu b atv [] (0 : Int) (0 : Int))))

noncomputable def ref08Get.body : Code := Tryd.f32.body.getD .skip
abbrev ref08Get.shl6 : Shp := ⟨[.d (.slice (.int .u8)), .d (.int .i64), .u, .u, .u, .u, .u, .o 7 (.int .u8), .d (.int .i64), .d (.int .i64), .u, .u, .u, .u, .u, .u, .u, .u, .u, .u, .u, .u, .u, .u, .u, .u, .u, .u, .u, .u, .u, .u, .u, .u, .u, .u, .u, .u, .u, .u, .u, .u, .u, .u, .u, .u, .u, .u, .u, .u, .u, .u, .u, .u, .u, .u, .u, .u, .u, .u, .u, .u, .u, .u, .u, .u, .u, .u, .u, .u, .u, .u, .u, .u, .u, .u, .u, .u, .u, .u, .u, .u, .u, .u, .u, .u, .u, .u, .u], []⟩
abbrev ref08Get.outl6e2 : Shp := ⟨[.d (.slice (.int .u8)), .d (.int .i64), .u, .u, .u, .u, .u, .o 7 (.int .u8), .d (.int .i64), .u, .u, .u, .u, .u, .u, .u, .u, .u, .u, .u, .u, .u, .u, .u, .u, .u, .u, .u, .u, .u, .u, .u, .u, .u, .u, .u, .u, .u, .u, .u, .u, .u, .u, .u, .u, .u, .u, .u, .u, .u, .u, .u, .u, .u, .u, .u, .u, .u, .u, .u, .u, .u, .u, .u, .u, .u, .u, .u, .u, .u, .u, .u, .u, .u, .u, .u, .u, .u, .u, .u, .u, .u, .u, .u, .u, .u, .u, .u, .u], []⟩
noncomputable def ref08Get.nml6 : Norm := ⟨{ keep := [0, 1, 7, 8, 9], shut := [(0, (.slice (.int .u8))), (1, (.int .i64)), (8, (.int .i64)), (9, (.int .i64))], retag := [(7, 7, (.int .u8))], heap := 0, dead := [], cshut := [], cretag := [] }, [(2, { keep := [0, 1, 7, 8], shut := [(0, (.slice (.int .u8))), (1, (.int .i64)), (8, (.int .i64))], retag := [(7, 7, (.int .u8))], heap := 0, dead := [], cshut := [], cretag := [] })]⟩
noncomputable def ref08Get.con : Con := { ps := [(.slice (.int .u8)), (.int .i64)], rs := [(.slice (.int .u8)), (.int .i64), (.int .i64)], f := fun n x => ref08Get n x.1 x.2.1 }
noncomputable def ref08Get.env : Env := { tys := [(24, ⟨(.slice (.int .u8)), 24⟩), (3, ⟨(.int .i64), 8⟩), (5, ⟨(.int .u8), 1⟩), (4, ⟨.bool, 1⟩), (9, ⟨.str, 16⟩)], elems := [(24, 5)], ptrs := [], cons := [(29, ref08Put.con)], objs := [], loops := [(6, ref08Get.nml6)], cuts := [], globs := globs, base := 0 }
noncomputable def ref08Get.lp (n : Nat) : LP (Kd.struct ref08Get.con.rs).T := fun lo κ body nm K s =>
  cond (lo && Nat.beq κ 6)
    (match ref08Get.shl6.dec s with
    | some v => ref08Get.l6 n (fun w0 w1 w2 w3 => K (.exit 0) (ref08Get.outl6e2.enc (w0, w1, w2, w3, ()))) n v.1 v.2.1 v.2.2.1 v.2.2.2.1 v.2.2.2.2.1
    | none => loops n (Kd.struct ref08Get.con.rs).T lo κ body nm K s)
    (loops n (Kd.struct ref08Get.con.rs).T lo κ body nm K s)
theorem ref08Get.atl6 (n : Nat) (s : St) (K : Ex → St → Option (Kd.struct ref08Get.con.rs).T) : (ref08Get.lp n) true 6 (evK ref08Get.env (ref08Get.lp n) n (sub [1, 1, 1, 1, 0, 1, 0, 0] ref08Get.body)) ref08Get.nml6 K s = loops n (Kd.struct ref08Get.con.rs).T true 6 (evK ref08Get.env (ref08Get.lp n) n (sub [1, 1, 1, 1, 0, 1, 0, 0] ref08Get.body)) ref08Get.nml6 K s := by
  show (match ref08Get.shl6.dec s with | some v => ref08Get.l6 n (fun w0 w1 w2 w3 => K (.exit 0) (ref08Get.outl6e2.enc (w0, w1, w2, w3, ()))) n v.1 v.2.1 v.2.2.1 v.2.2.2.1 v.2.2.2.2.1 | none => loops n (Kd.struct ref08Get.con.rs).T true 6 (evK ref08Get.env (ref08Get.lp n) n (sub [1, 1, 1, 1, 0, 1, 0, 0] ref08Get.body)) ref08Get.nml6 K s) = _
  cases h : ref08Get.shl6.dec s with
  | none => rfl
  | some v =>
    rw [Shp.dec_enc h]
    exact (evLoop_eq (sh := ref08Get.shl6) (body := evK ref08Get.env (ref08Get.lp n) n (sub [1, 1, 1, 1, 0, 1, 0, 0] ref08Get.body)) (nm := ref08Get.nml6) (K := K) (b := fun nx v => ref08Get.b6 n (fun x0 x1 x2 x3 x4 => nx (x0, x1, x2, x3, x4, ())) (fun w0 w1 w2 w3 => K (.exit 0) (ref08Get.outl6e2.enc (w0, w1, w2, w3, ()))) v.1 v.2.1 v.2.2.1 v.2.2.2.1 v.2.2.2.2.1) (l := fun m v => ref08Get.l6 n (fun w0 w1 w2 w3 => K (.exit 0) (ref08Get.outl6e2.enc (w0, w1, w2, w3, ()))) m v.1 v.2.1 v.2.2.1 v.2.2.2.1 v.2.2.2.2.1) (fun _ => rfl) (fun _ _ => rfl) (fun m v => by kernel_rfl) n v).symm
theorem ref08Get.eq (n : Nat) (x : (Kd.struct ref08Get.con.ps).T) : evFunc ref08Get.env Tryd.f32 ref08Get.body ref08Get.con.ps ref08Get.con.rs (ref08Get.lp n) n x = ref08Get.con.f n x := by kernel_rfl
theorem ref08Get.sound : Sound Tryd.prog globs 32 ref08Get.con :=
  sound_by (E := ref08Get.env) (c := ref08Get.body) (envOk (G := globs) (lc := [(29, ref08Put.con)]) (lo := []) (envB_spec (by kernel_rfl)) rfl rfl ⟨.inl ⟨ref08Put.sound, by kernel_rfl⟩, trivial⟩ rfl trivial (by kernel_rfl) (by kernel_rfl)) Tryd.func32 (by kernel_rfl) ref08Get.lp (l := [(true, sub [1, 1, 1, 1, 0, 1, 0, 0] ref08Get.body, ref08Get.nml6)]) (by kernel_rfl) (fun n => ⟨ref08Get.atl6 n, trivial⟩) ref08Get.eq
noncomputable def ref20Fields.j28022 (fu : Nat) (k0 : Unit → Option ((List Bool) × Bool × Unit)) (k1 : (List Bool) → Bool → Option ((List Bool) × Bool × Unit)) (v : Int) (vx2 : Bool) : Option ((List Bool) × Bool × Unit) :=
  cond vx2 (
    let t1 := [false, false, true, false, false]
    k1 t1 true) (
    cond (v == (15 : Int)) (
      let t2 := [true, false, false, false, false]
      k1 t2 true) (
      cond (v == (17 : Int)) (
        let t3 := [true, true, true, true, false]
        k1 t3 true) (
        k0 ())))
noncomputable def ref20Fields.j21016 (fu : Nat) (k0 : Unit → Option ((List Bool) × Bool × Unit)) (k1 : (List Bool) → Bool → Option ((List Bool) × Bool × Unit)) (v : Int) (vx2 : Bool) : Option ((List Bool) × Bool × Unit) :=
  cond vx2 (
    let t1 := [true, false, true, false, false]
    k1 t1 true) (
    cond (v == (5 : Int)) (
      let t2 := [true, true, true, true, true]
      k1 t2 true) (
      cond (v == (13 : Int)) (
        ref20Fields.j28022 fu (fun (_ : Unit) => 
            k0 ()) (fun vq20 vq20x2 => 
            k1 vq20 vq20x2) v (v == (13 : Int))) (
        cond (v == (14 : Int)) (
          ref20Fields.j28022 fu (fun (_ : Unit) => 
              k0 ()) (fun vq22 vq22x2 => 
              k1 vq22 vq22x2) v (v == (14 : Int))) (
          ref20Fields.j28022 fu (fun (_ : Unit) => 
              k0 ()) (fun vq24 vq24x2 => 
              k1 vq24 vq24x2) v (v == (16 : Int))))))
noncomputable def ref20Fields.j17013 (fu : Nat) (k0 : Unit → Option ((List Bool) × Bool × Unit)) (k1 : (List Bool) → Bool → Option ((List Bool) × Bool × Unit)) (v : Int) (vx2 : Bool) : Option ((List Bool) × Bool × Unit) :=
  cond vx2 (
    let t1 := [true, false, true, false, true]
    k1 t1 true) (
    cond (v == (4 : Int)) (
      ref20Fields.j21016 fu (fun (_ : Unit) => 
          k0 ()) (fun vq26 vq26x2 => 
          k1 vq26 vq26x2) v (v == (4 : Int))) (
      ref20Fields.j21016 fu (fun (_ : Unit) => 
          k0 ()) (fun vq28 vq28x2 => 
          k1 vq28 vq28x2) v (v == (11 : Int))))
noncomputable def ref20Fields.j9010 (fu : Nat) (k0 : Unit → Option ((List Bool) × Bool × Unit)) (k1 : (List Bool) → Bool → Option ((List Bool) × Bool × Unit)) (v : Int) (vx2 : Bool) : Option ((List Bool) × Bool × Unit) :=
  cond vx2 (
    let t1 := [true, true, true, false, false]
    k1 t1 true) (
    cond (v == (3 : Int)) (
      ref20Fields.j17013 fu (fun (_ : Unit) => 
          k0 ()) (fun vq30 vq30x2 => 
          k1 vq30 vq30x2) v (v == (3 : Int))) (
      ref20Fields.j17013 fu (fun (_ : Unit) => 
          k0 ()) (fun vq32 vq32x2 => 
          k1 vq32 vq32x2) v (v == (12 : Int))))
noncomputable def ref20Fields.j27 (fu : Nat) (k1 : (List Bool) → Bool → Option ((List Bool) × Bool × Unit)) : Option ((List Bool) × Bool × Unit) :=
  k1 [] false
noncomputable def ref20Fields (fu : Nat) (kind : Int) : Option ((List Bool) × Bool × Unit) :=
  cond (kind == (1 : Int)) (
    let t1 := [true, false, false, false, true]
    some (t1, true, ())) (
    cond (kind == (2 : Int)) (
      ref20Fields.j9010 fu (fun (_ : Unit) => 
          ref20Fields.j27 fu (fun vq2 vq2x2 => 
              some (vq2, vq2x2, ()))) (fun vq3 vq3x2 => 
          some (vq3, vq3x2, ())) kind (kind == (2 : Int))) (
      cond (kind == (6 : Int)) (
        ref20Fields.j9010 fu (fun (_ : Unit) => 
            ref20Fields.j27 fu (fun vq5 vq5x2 => 
                some (vq5, vq5x2, ()))) (fun vq6 vq6x2 => 
            some (vq6, vq6x2, ())) kind (kind == (6 : Int))) (
        cond (kind == (7 : Int)) (
          ref20Fields.j9010 fu (fun (_ : Unit) => 
              ref20Fields.j27 fu (fun vq8 vq8x2 => 
                  some (vq8, vq8x2, ()))) (fun vq9 vq9x2 => 
              some (vq9, vq9x2, ())) kind (kind == (7 : Int))) (
          cond (kind == (8 : Int)) (
            ref20Fields.j9010 fu (fun (_ : Unit) => 
                ref20Fields.j27 fu (fun vq11 vq11x2 => 
                    some (vq11, vq11x2, ()))) (fun vq12 vq12x2 => 
                some (vq12, vq12x2, ())) kind (kind == (8 : Int))) (
            cond (kind == (9 : Int)) (
              ref20Fields.j9010 fu (fun (_ : Unit) => 
                  ref20Fields.j27 fu (fun vq14 vq14x2 => 
                      some (vq14, vq14x2, ()))) (fun vq15 vq15x2 => 
                  some (vq15, vq15x2, ())) kind (kind == (9 : Int))) (
              ref20Fields.j9010 fu (fun (_ : Unit) => 
                  ref20Fields.j27 fu (fun vq17 vq17x2 => 
                      some (vq17, vq17x2, ()))) (fun vq18 vq18x2 => 
                  some (vq18, vq18x2, ())) kind (kind == (10 : Int))))))))

noncomputable def ref20Fields.body : Code := Tryd.f26.body.getD .skip
abbrev ref20Fields.shj28022 : Shp := ⟨[.u, .u, .u, .u, .d (.int .u8), .u, .u, .u, .u, .u, .u, .u, .u, .u, .u, .u, .u, .u, .u, .u, .u, .u, .u, .u, .u, .u, .u, .d .bool, .u, .u, .u, .u, .u, .u, .u, .u, .u, .u, .u], []⟩
abbrev ref20Fields.outj28022e0 : Shp := ⟨[.u, .u, .u, .u, .u, .u, .u, .u, .u, .u, .u, .u, .u, .u, .u, .u, .u, .u, .u, .u, .u, .u, .u, .u, .u, .u, .u, .u, .u, .u, .u, .u, .u, .u, .u, .u, .u, .u, .u], []⟩
abbrev ref20Fields.outj28022e1 : Shp := ⟨[.u, .u, .o 2 .bool, .d .bool, .u, .u, .u, .u, .u, .u, .u, .u, .u, .u, .u, .u, .u, .u, .u, .u, .u, .u, .u, .u, .u, .u, .u, .u, .u, .u, .u, .u, .u, .u, .u, .u, .u, .u, .u], []⟩
noncomputable def ref20Fields.nmj28022 : Norm := ⟨{ keep := [4, 27], shut := [(4, (.int .u8)), (27, .bool)], retag := [], heap := 0, dead := [], cshut := [], cretag := [] }, [(0, { keep := [], shut := [], retag := [], heap := 0, dead := [], cshut := [], cretag := [] }), (1, { keep := [2, 3], shut := [(3, .bool)], retag := [(2, 2, .bool)], heap := 0, dead := [], cshut := [], cretag := [] })]⟩
abbrev ref20Fields.shj21016 : Shp := ⟨[.u, .u, .u, .u, .d (.int .u8), .u, .u, .u, .u, .u, .u, .u, .u, .u, .u, .u, .u, .u, .u, .u, .d .bool, .u, .u, .u, .u, .u, .u, .u, .u, .u, .u, .u, .u, .u, .u, .u, .u, .u, .u], []⟩
abbrev ref20Fields.outj21016e0 : Shp := ⟨[.u, .u, .u, .u, .u, .u, .u, .u, .u, .u, .u, .u, .u, .u, .u, .u, .u, .u, .u, .u, .u, .u, .u, .u, .u, .u, .u, .u, .u, .u, .u, .u, .u, .u, .u, .u, .u, .u, .u], []⟩
abbrev ref20Fields.outj21016e1 : Shp := ⟨[.u, .u, .o 2 .bool, .d .bool, .u, .u, .u, .u, .u, .u, .u, .u, .u, .u, .u, .u, .u, .u, .u, .u, .u, .u, .u, .u, .u, .u, .u, .u, .u, .u, .u, .u, .u, .u, .u, .u, .u, .u, .u], []⟩
noncomputable def ref20Fields.nmj21016 : Norm := ⟨{ keep := [4, 20], shut := [(4, (.int .u8)), (20, .bool)], retag := [], heap := 0, dead := [], cshut := [], cretag := [] }, [(0, { keep := [], shut := [], retag := [], heap := 0, dead := [], cshut := [], cretag := [] }), (1, { keep := [2, 3], shut := [(3, .bool)], retag := [(2, 2, .bool)], heap := 0, dead := [], cshut := [], cretag := [] })]⟩
abbrev ref20Fields.shj17013 : Shp := ⟨[.u, .u, .u, .u, .d (.int .u8), .u, .u, .u, .u, .u, .u, .u, .u, .u, .u, .u, .d .bool, .u, .u, .u, .u, .u, .u, .u, .u, .u, .u, .u, .u, .u, .u, .u, .u, .u, .u, .u, .u, .u, .u], []⟩
abbrev ref20Fields.outj17013e0 : Shp := ⟨[.u, .u, .u, .u, .u, .u, .u, .u, .u, .u, .u, .u, .u, .u, .u, .u, .u, .u, .u, .u, .u, .u, .u, .u, .u, .u, .u, .u, .u, .u, .u, .u, .u, .u, .u, .u, .u, .u, .u], []⟩
abbrev ref20Fields.outj17013e1 : Shp := ⟨[.u, .u, .o 2 .bool, .d .bool, .u, .u, .u, .u, .u, .u, .u, .u, .u, .u, .u, .u, .u, .u, .u, .u, .u, .u, .u, .u, .u, .u, .u, .u, .u, .u, .u, .u, .u, .u, .u, .u, .u, .u, .u], []⟩
noncomputable def ref20Fields.nmj17013 : Norm := ⟨{ keep := [4, 16], shut := [(4, (.int .u8)), (16, .bool)], retag := [], heap := 0, dead := [], cshut := [], cretag := [] }, [(0, { keep := [], shut := [], retag := [], heap := 0, dead := [], cshut := [], cretag := [] }), (1, { keep := [2, 3], shut := [(3, .bool)], retag := [(2, 2, .bool)], heap := 0, dead := [], cshut := [], cretag := [] })]⟩
abbrev ref20Fields.shj9010 : Shp := ⟨[.u, .u, .u, .u, .d (.int .u8), .u, .u, .u, .d .bool, .u, .u, .u, .u, .u, .u, .u, .u, .u, .u, .u, .u, .u, .u, .u, .u, .u, .u, .u, .u, .u, .u, .u, .u, .u, .u, .u, .u, .u, .u], []⟩
abbrev ref20Fields.outj9010e0 : Shp := ⟨[.u, .u, .u, .u, .u, .u, .u, .u, .u, .u, .u, .u, .u, .u, .u, .u, .u, .u, .u, .u, .u, .u, .u, .u, .u, .u, .u, .u, .u, .u, .u, .u, .u, .u, .u, .u, .u, .u, .u], []⟩
abbrev ref20Fields.outj9010e1 : Shp := ⟨[.u, .u, .o 2 .bool, .d .bool, .u, .u, .u, .u, .u, .u, .u, .u, .u, .u, .u, .u, .u, .u, .u, .u, .u, .u, .u, .u, .u, .u, .u, .u, .u, .u, .u, .u, .u, .u, .u, .u, .u, .u, .u], []⟩
noncomputable def ref20Fields.nmj9010 : Norm := ⟨{ keep := [4, 8], shut := [(4, (.int .u8)), (8, .bool)], retag := [], heap := 0, dead := [], cshut := [], cretag := [] }, [(0, { keep := [], shut := [], retag := [], heap := 0, dead := [], cshut := [], cretag := [] }), (1, { keep := [2, 3], shut := [(3, .bool)], retag := [(2, 2, .bool)], heap := 0, dead := [], cshut := [], cretag := [] })]⟩
abbrev ref20Fields.shj27 : Shp := ⟨[.u, .u, .u, .u, .u, .u, .u, .u, .u, .u, .u, .u, .u, .u, .u, .u, .u, .u, .u, .u, .u, .u, .u, .u, .u, .u, .u, .u, .u, .u, .u, .u, .u, .u, .u, .u, .u, .u, .u], []⟩
abbrev ref20Fields.outj27e1 : Shp := ⟨[.u, .u, .o 2 .bool, .d .bool, .u, .u, .u, .u, .u, .u, .u, .u, .u, .u, .u, .u, .u, .u, .u, .u, .u, .u, .u, .u, .u, .u, .u, .u, .u, .u, .u, .u, .u, .u, .u, .u, .u, .u, .u], []⟩
noncomputable def ref20Fields.nmj27 : Norm := ⟨{ keep := [], shut := [], retag := [], heap := 0, dead := [], cshut := [], cretag := [] }, [(1, { keep := [2, 3], shut := [(3, .bool)], retag := [(2, 2, .bool)], heap := 0, dead := [], cshut := [], cretag := [] })]⟩
noncomputable def ref20Fields.con : Con := { ps := [(.int .u8)], rs := [(.slice .bool), .bool], f := fun n x => ref20Fields n x.1 }
noncomputable def ref20Fields.env : Env := { tys := [(55, ⟨(.slice .bool), 24⟩), (4, ⟨.bool, 1⟩)], elems := [(55, 4)], ptrs := [], cons := [], objs := [], loops := [], cuts := [(28022, ref20Fields.nmj28022), (21016, ref20Fields.nmj21016), (17013, ref20Fields.nmj17013), (9010, ref20Fields.nmj9010), (27, ref20Fields.nmj27)], globs := globs, base := 0 }
noncomputable def ref20Fields.lp (n : Nat) : LP (Kd.struct ref20Fields.con.rs).T := fun lo κ body nm K s =>
  cond (!lo && Nat.beq κ 28022)
    (match ref20Fields.shj28022.dec s with
    | some v => ref20Fields.j28022 n (fun _ => K .normal (ref20Fields.outj28022e0.enc (()))) (fun w0 w1 => K .ret (ref20Fields.outj28022e1.enc (w0, w1, ()))) v.1 v.2.1
    | none => loops n (Kd.struct ref20Fields.con.rs).T lo κ body nm K s)
    (cond (!lo && Nat.beq κ 21016)
    (match ref20Fields.shj21016.dec s with
    | some v => ref20Fields.j21016 n (fun _ => K .normal (ref20Fields.outj21016e0.enc (()))) (fun w0 w1 => K .ret (ref20Fields.outj21016e1.enc (w0, w1, ()))) v.1 v.2.1
    | none => loops n (Kd.struct ref20Fields.con.rs).T lo κ body nm K s)
    (cond (!lo && Nat.beq κ 17013)
    (match ref20Fields.shj17013.dec s with
    | some v => ref20Fields.j17013 n (fun _ => K .normal (ref20Fields.outj17013e0.enc (()))) (fun w0 w1 => K .ret (ref20Fields.outj17013e1.enc (w0, w1, ()))) v.1 v.2.1
    | none => loops n (Kd.struct ref20Fields.con.rs).T lo κ body nm K s)
    (cond (!lo && Nat.beq κ 9010)
    (match ref20Fields.shj9010.dec s with
    | some v => ref20Fields.j9010 n (fun _ => K .normal (ref20Fields.outj9010e0.enc (()))) (fun w0 w1 => K .ret (ref20Fields.outj9010e1.enc (w0, w1, ()))) v.1 v.2.1
    | none => loops n (Kd.struct ref20Fields.con.rs).T lo κ body nm K s)
    (cond (!lo && Nat.beq κ 27)
    (match ref20Fields.shj27.dec s with
    | some v => ref20Fields.j27 n (fun w0 w1 => K .ret (ref20Fields.outj27e1.enc (w0, w1, ())))
    | none => loops n (Kd.struct ref20Fields.con.rs).T lo κ body nm K s)
    (loops n (Kd.struct ref20Fields.con.rs).T lo κ body nm K s)))))
theorem ref20Fields.atj28022 (n : Nat) (s : St) (K : Ex → St → Option (Kd.struct ref20Fields.con.rs).T) : (ref20Fields.lp n) false 28022 (evK ref20Fields.env (ref20Fields.lp n) n (sub [1, 0, 1, 0, 1, 1, 1, 1, 1, 1, 1, 1, 1, 1, 1] ref20Fields.body)) ref20Fields.nmj28022 K s = loops n (Kd.struct ref20Fields.con.rs).T false 28022 (evK ref20Fields.env (ref20Fields.lp n) n (sub [1, 0, 1, 0, 1, 1, 1, 1, 1, 1, 1, 1, 1, 1, 1] ref20Fields.body)) ref20Fields.nmj28022 K s := by
  show (match ref20Fields.shj28022.dec s with | some v => ref20Fields.j28022 n (fun _ => K .normal (ref20Fields.outj28022e0.enc (()))) (fun w0 w1 => K .ret (ref20Fields.outj28022e1.enc (w0, w1, ()))) v.1 v.2.1 | none => loops n (Kd.struct ref20Fields.con.rs).T false 28022 (evK ref20Fields.env (ref20Fields.lp n) n (sub [1, 0, 1, 0, 1, 1, 1, 1, 1, 1, 1, 1, 1, 1, 1] ref20Fields.body)) ref20Fields.nmj28022 K s) = _
  cases h : ref20Fields.shj28022.dec s with
  | none => rfl
  | some v =>
    rw [Shp.dec_enc h]
    kernel_rfl
theorem ref20Fields.atj21016 (n : Nat) (s : St) (K : Ex → St → Option (Kd.struct ref20Fields.con.rs).T) : (ref20Fields.lp n) false 21016 (evK ref20Fields.env (ref20Fields.lp n) n (sub [1, 0, 1, 0, 1, 1, 1, 1, 1, 1, 1] ref20Fields.body)) ref20Fields.nmj21016 K s = loops n (Kd.struct ref20Fields.con.rs).T false 21016 (evK ref20Fields.env (ref20Fields.lp n) n (sub [1, 0, 1, 0, 1, 1, 1, 1, 1, 1, 1] ref20Fields.body)) ref20Fields.nmj21016 K s := by
  show (match ref20Fields.shj21016.dec s with | some v => ref20Fields.j21016 n (fun _ => K .normal (ref20Fields.outj21016e0.enc (()))) (fun w0 w1 => K .ret (ref20Fields.outj21016e1.enc (w0, w1, ()))) v.1 v.2.1 | none => loops n (Kd.struct ref20Fields.con.rs).T false 21016 (evK ref20Fields.env (ref20Fields.lp n) n (sub [1, 0, 1, 0, 1, 1, 1, 1, 1, 1, 1] ref20Fields.body)) ref20Fields.nmj21016 K s) = _
  cases h : ref20Fields.shj21016.dec s with
  | none => rfl
  | some v =>
    rw [Shp.dec_enc h]
    kernel_rfl
theorem ref20Fields.atj17013 (n : Nat) (s : St) (K : Ex → St → Option (Kd.struct ref20Fields.con.rs).T) : (ref20Fields.lp n) false 17013 (evK ref20Fields.env (ref20Fields.lp n) n (sub [1, 0, 1, 0, 1, 1, 1, 1, 1] ref20Fields.body)) ref20Fields.nmj17013 K s = loops n (Kd.struct ref20Fields.con.rs).T false 17013 (evK ref20Fields.env (ref20Fields.lp n) n (sub [1, 0, 1, 0, 1, 1, 1, 1, 1] ref20Fields.body)) ref20Fields.nmj17013 K s := by
  show (match ref20Fields.shj17013.dec s with | some v => ref20Fields.j17013 n (fun _ => K .normal (ref20Fields.outj17013e0.enc (()))) (fun w0 w1 => K .ret (ref20Fields.outj17013e1.enc (w0, w1, ()))) v.1 v.2.1 | none => loops n (Kd.struct ref20Fields.con.rs).T false 17013 (evK ref20Fields.env (ref20Fields.lp n) n (sub [1, 0, 1, 0, 1, 1, 1, 1, 1] ref20Fields.body)) ref20Fields.nmj17013 K s) = _
  cases h : ref20Fields.shj17013.dec s with
  | none => rfl
  | some v =>
    rw [Shp.dec_enc h]
    kernel_rfl
theorem ref20Fields.atj9010 (n : Nat) (s : St) (K : Ex → St → Option (Kd.struct ref20Fields.con.rs).T) : (ref20Fields.lp n) false 9010 (evK ref20Fields.env (ref20Fields.lp n) n (sub [1, 0, 1, 0, 1, 1, 1] ref20Fields.body)) ref20Fields.nmj9010 K s = loops n (Kd.struct ref20Fields.con.rs).T false 9010 (evK ref20Fields.env (ref20Fields.lp n) n (sub [1, 0, 1, 0, 1, 1, 1] ref20Fields.body)) ref20Fields.nmj9010 K s := by
  show (match ref20Fields.shj9010.dec s with | some v => ref20Fields.j9010 n (fun _ => K .normal (ref20Fields.outj9010e0.enc (()))) (fun w0 w1 => K .ret (ref20Fields.outj9010e1.enc (w0, w1, ()))) v.1 v.2.1 | none => loops n (Kd.struct ref20Fields.con.rs).T false 9010 (evK ref20Fields.env (ref20Fields.lp n) n (sub [1, 0, 1, 0, 1, 1, 1] ref20Fields.body)) ref20Fields.nmj9010 K s) = _
  cases h : ref20Fields.shj9010.dec s with
  | none => rfl
  | some v =>
    rw [Shp.dec_enc h]
    kernel_rfl
theorem ref20Fields.atj27 (n : Nat) (s : St) (K : Ex → St → Option (Kd.struct ref20Fields.con.rs).T) : (ref20Fields.lp n) false 27 (evK ref20Fields.env (ref20Fields.lp n) n (sub [1, 1] ref20Fields.body)) ref20Fields.nmj27 K s = loops n (Kd.struct ref20Fields.con.rs).T false 27 (evK ref20Fields.env (ref20Fields.lp n) n (sub [1, 1] ref20Fields.body)) ref20Fields.nmj27 K s := by
  show (match ref20Fields.shj27.dec s with | some v => ref20Fields.j27 n (fun w0 w1 => K .ret (ref20Fields.outj27e1.enc (w0, w1, ()))) | none => loops n (Kd.struct ref20Fields.con.rs).T false 27 (evK ref20Fields.env (ref20Fields.lp n) n (sub [1, 1] ref20Fields.body)) ref20Fields.nmj27 K s) = _
  cases h : ref20Fields.shj27.dec s with
  | none => rfl
  | some v =>
    rw [Shp.dec_enc h]
    kernel_rfl
theorem ref20Fields.eq (n : Nat) (x : (Kd.struct ref20Fields.con.ps).T) : evFunc ref20Fields.env Tryd.f26 ref20Fields.body ref20Fields.con.ps ref20Fields.con.rs (ref20Fields.lp n) n x = ref20Fields.con.f n x := by kernel_rfl
theorem ref20Fields.sound : Sound Tryd.prog globs 26 ref20Fields.con :=
  sound_by (E := ref20Fields.env) (c := ref20Fields.body) (envOk (G := globs) (lc := []) (lo := []) (envB_spec (by kernel_rfl)) rfl rfl trivial rfl trivial (by kernel_rfl) (by kernel_rfl)) Tryd.func26 (by kernel_rfl) ref20Fields.lp (l := [(false, sub [1, 0, 1, 0, 1, 1, 1, 1, 1, 1, 1, 1, 1, 1, 1] ref20Fields.body, ref20Fields.nmj28022), (false, sub [1, 0, 1, 0, 1, 1, 1, 1, 1, 1, 1] ref20Fields.body, ref20Fields.nmj21016), (false, sub [1, 0, 1, 0, 1, 1, 1, 1, 1] ref20Fields.body, ref20Fields.nmj17013), (false, sub [1, 0, 1, 0, 1, 1, 1] ref20Fields.body, ref20Fields.nmj9010), (false, sub [1, 1] ref20Fields.body, ref20Fields.nmj27)]) (by kernel_rfl) (fun n => ⟨ref20Fields.atj28022 n, ⟨ref20Fields.atj21016 n, ⟨ref20Fields.atj17013 n, ⟨ref20Fields.atj9010 n, ⟨ref20Fields.atj27 n, trivial⟩⟩⟩⟩⟩) ref20Fields.eq
noncomputable def ref03Get.j11 (fu : Nat) (k0 : (List Int) → Int → Int → Int → Int → Option (Int × Int × Int × Unit)) (k1 : Int → Int → Int → Option (Int × Int × Int × Unit)) (b : List Int) (atv : Int) (n : Int) (times : Int) (i : Int) (c : Int) : Option (Int × Int × Int × Unit) :=
  let t1 := IntKind.u64.wrap (Int.tmod c (128 : Int))
  let t2 := IntKind.u64.wrap (t1 * times)
  let t3 := IntKind.u64.wrap (n + t2)
  let t4 := IntKind.i64.wrap (i + (1 : Int))
  cond (decide (c < (128 : Int))) (
    cond (c == (0 : Int)) (
      cond (decide (t4 > (1 : Int))) (
        k1 (0 : Int) (0 : Int) (2 : Int)) (
        let t5 := IntKind.i64.wrap (atv + t4)
        k1 t3 t5 (0 : Int))) (
      let t6 := IntKind.i64.wrap (atv + t4)
      k1 t3 t6 (0 : Int))) (
    let t7 := IntKind.u64.wrap (times * (128 : Int))
    k0 b atv t3 t7 t4)
noncomputable def ref03Get.b6 (fu : Nat) (next : (List Int) → Int → Int → Int → Int → Option (Int × Int × Int × Unit)) (k1 : Int → Int → Int → Option (Int × Int × Int × Unit)) (b : List Int) (atv : Int) (n : Int) (times : Int) (i : Int) : Option (Int × Int × Int × Unit) :=
  let t1 := IntKind.i64.wrap (atv + i)
  let t2 := decide (t1 ≥ (b.length : Int))
  cond t2 (
    k1 (0 : Int) (0 : Int) (3 : Int)) (
    let t3 := IntKind.i64.wrap (atv + i)
    chk (ixOk b t3) <|
    let e4 := ixL (0 : Int) b t3
    cond (i == (9 : Int)) (
      cond (decide (e4 > (1 : Int))) (
        k1 (0 : Int) (0 : Int) (4 : Int)) (
        ref03Get.j11 fu (fun bq2 atvq2 nq2 timesq2 iq2 => 
            next bq2 atvq2 nq2 timesq2 iq2) (fun vq3 vq3x2 vq3x3 => 
            k1 vq3 vq3x2 vq3x3) b atv n times i e4)) (
      ref03Get.j11 fu (fun bq4 atvq4 nq4 timesq4 iq4 => 
          next bq4 atvq4 nq4 timesq4 iq4) (fun vq5 vq5x2 vq5x3 => 
          k1 vq5 vq5x2 vq5x3) b atv n times i e4))
noncomputable def ref03Get.l6 (fu : Nat) (k1 : Int → Int → Int → Option (Int × Int × Int × Unit)) : Nat → (List Int) → Int → Int → Int → Int → Option (Int × Int × Int × Unit)
  | 0, _, _, _, _, _ => none
  | m + 1, b, atv, n, times, i => ref03Get.b6 fu (ref03Get.l6 fu k1 m) k1 b atv n times i
noncomputable def ref03Get (fu : Nat) (b : List Int) (atv : Int) : Option (Int × Int × Int × Unit) :=
  cond (decide (atv < (0 : Int))) (
    some ((0 : Int), (0 : Int), (3 : Int), ())) (
    let t1 := decide (atv > (b.length : Int))
    cond t1 (
      some ((0 : Int), (0 : Int), (3 : Int), ())) (
      ref03Get.l6 fu (fun vq1 vq1x2 vq1x3 => 
          some (vq1, vq1x2, vq1x3, ())) fu b atv (0 : Int) (1 : Int) (0 : Int)))

noncomputable def ref03Get.body : Code := Tryd.f50.body.getD .skip
abbrev ref03Get.shj11 : Shp := ⟨[.d (.slice (.int .u8)), .d (.int .i64), .u, .u, .u, .u, .u, .d (.int .u64), .d (.int .u64), .d (.int .i64), .d (.int .u8), .u, .u, .u, .u, .u, .u, .u, .u, .u, .u, .u, .u, .u, .u, .u, .u, .u, .u, .u, .u, .u, .u, .u, .u, .u, .u, .u, .u, .u, .u, .u, .u, .u, .u, .u, .u, .u, .u, .u, .u, .u, .u, .u, .u, .u, .u, .u, .u, .u], []⟩
abbrev ref03Get.outj11e0 : Shp := ⟨[.d (.slice (.int .u8)), .d (.int .i64), .u, .u, .u, .u, .u, .d (.int .u64), .d (.int .u64), .d (.int .i64), .u, .u, .u, .u, .u, .u, .u, .u, .u, .u, .u, .u, .u, .u, .u, .u, .u, .u, .u, .u, .u, .u, .u, .u, .u, .u, .u, .u, .u, .u, .u, .u, .u, .u, .u, .u, .u, .u, .u, .u, .u, .u, .u, .u, .u, .u, .u, .u, .u, .u], []⟩
abbrev ref03Get.outj11e1 : Shp := ⟨[.u, .u, .u, .u, .d (.int .u64), .d (.int .i64), .d (.int .i64), .u, .u, .u, .u, .u, .u, .u, .u, .u, .u, .u, .u, .u, .u, .u, .u, .u, .u, .u, .u, .u, .u, .u, .u, .u, .u, .u, .u, .u, .u, .u, .u, .u, .u, .u, .u, .u, .u, .u, .u, .u, .u, .u, .u, .u, .u, .u, .u, .u, .u, .u, .u, .u], []⟩
noncomputable def ref03Get.nmj11 : Norm := ⟨{ keep := [0, 1, 7, 8, 9, 10], shut := [(0, (.slice (.int .u8))), (1, (.int .i64)), (7, (.int .u64)), (8, (.int .u64)), (9, (.int .i64)), (10, (.int .u8))], retag := [], heap := 0, dead := [], cshut := [], cretag := [] }, [(0, { keep := [0, 1, 7, 8, 9], shut := [(0, (.slice (.int .u8))), (1, (.int .i64)), (7, (.int .u64)), (8, (.int .u64)), (9, (.int .i64))], retag := [], heap := 0, dead := [], cshut := [], cretag := [] }), (1, { keep := [4, 5, 6], shut := [(4, (.int .u64)), (5, (.int .i64)), (6, (.int .i64))], retag := [], heap := 0, dead := [], cshut := [], cretag := [] })]⟩
abbrev ref03Get.shl6 : Shp := ⟨[.d (.slice (.int .u8)), .d (.int .i64), .u, .u, .u, .u, .u, .d (.int .u64), .d (.int .u64), .d (.int .i64), .u, .u, .u, .u, .u, .u, .u, .u, .u, .u, .u, .u, .u, .u, .u, .u, .u, .u, .u, .u, .u, .u, .u, .u, .u, .u, .u, .u, .u, .u, .u, .u, .u, .u, .u, .u, .u, .u, .u, .u, .u, .u, .u, .u, .u, .u, .u, .u, .u, .u], []⟩
abbrev ref03Get.outl6e1 : Shp := ⟨[.u, .u, .u, .u, .d (.int .u64), .d (.int .i64), .d (.int .i64), .u, .u, .u, .u, .u, .u, .u, .u, .u, .u, .u, .u, .u, .u, .u, .u, .u, .u, .u, .u, .u, .u, .u, .u, .u, .u, .u, .u, .u, .u, .u, .u, .u, .u, .u, .u, .u, .u, .u, .u, .u, .u, .u, .u, .u, .u, .u, .u, .u, .u, .u, .u, .u], []⟩
noncomputable def ref03Get.nml6 : Norm := ⟨{ keep := [0, 1, 7, 8, 9], shut := [(0, (.slice (.int .u8))), (1, (.int .i64)), (7, (.int .u64)), (8, (.int .u64)), (9, (.int .i64))], retag := [], heap := 0, dead := [], cshut := [], cretag := [] }, [(1, { keep := [4, 5, 6], shut := [(4, (.int .u64)), (5, (.int .i64)), (6, (.int .i64))], retag := [], heap := 0, dead := [], cshut := [], cretag := [] })]⟩
noncomputable def ref03Get.con : Con := { ps := [(.slice (.int .u8)), (.int .i64)], rs := [(.int .u64), (.int .i64), (.int .i64)], f := fun n x => ref03Get n x.1 x.2.1 }
noncomputable def ref03Get.env : Env := { tys := [(23, ⟨(.int .u64), 8⟩), (3, ⟨(.int .i64), 8⟩), (4, ⟨.bool, 1⟩), (5, ⟨(.int .u8), 1⟩)], elems := [(24, 5)], ptrs := [], cons := [], objs := [], loops := [(6, ref03Get.nml6)], cuts := [(11, ref03Get.nmj11)], globs := globs, base := 0 }
noncomputable def ref03Get.lp (n : Nat) : LP (Kd.struct ref03Get.con.rs).T := fun lo κ body nm K s =>
  cond (!lo && Nat.beq κ 11)
    (match ref03Get.shj11.dec s with
    | some v => ref03Get.j11 n (fun w0 w1 w2 w3 w4 => K .normal (ref03Get.outj11e0.enc (w0, w1, w2, w3, w4, ()))) (fun w0 w1 w2 => K .ret (ref03Get.outj11e1.enc (w0, w1, w2, ()))) v.1 v.2.1 v.2.2.1 v.2.2.2.1 v.2.2.2.2.1 v.2.2.2.2.2.1
    | none => loops n (Kd.struct ref03Get.con.rs).T lo κ body nm K s)
    (cond (lo && Nat.beq κ 6)
    (match ref03Get.shl6.dec s with
    | some v => ref03Get.l6 n (fun w0 w1 w2 => K .ret (ref03Get.outl6e1.enc (w0, w1, w2, ()))) n v.1 v.2.1 v.2.2.1 v.2.2.2.1 v.2.2.2.2.1
    | none => loops n (Kd.struct ref03Get.con.rs).T lo κ body nm K s)
    (loops n (Kd.struct ref03Get.con.rs).T lo κ body nm K s))
theorem ref03Get.atj11 (n : Nat) (s : St) (K : Ex → St → Option (Kd.struct ref03Get.con.rs).T) : (ref03Get.lp n) false 11 (evK ref03Get.env (ref03Get.lp n) n (sub [1, 1, 1, 1, 1, 0, 0, 0, 1, 1, 1] ref03Get.body)) ref03Get.nmj11 K s = loops n (Kd.struct ref03Get.con.rs).T false 11 (evK ref03Get.env (ref03Get.lp n) n (sub [1, 1, 1, 1, 1, 0, 0, 0, 1, 1, 1] ref03Get.body)) ref03Get.nmj11 K s := by
  show (match ref03Get.shj11.dec s with | some v => ref03Get.j11 n (fun w0 w1 w2 w3 w4 => K .normal (ref03Get.outj11e0.enc (w0, w1, w2, w3, w4, ()))) (fun w0 w1 w2 => K .ret (ref03Get.outj11e1.enc (w0, w1, w2, ()))) v.1 v.2.1 v.2.2.1 v.2.2.2.1 v.2.2.2.2.1 v.2.2.2.2.2.1 | none => loops n (Kd.struct ref03Get.con.rs).T false 11 (evK ref03Get.env (ref03Get.lp n) n (sub [1, 1, 1, 1, 1, 0, 0, 0, 1, 1, 1] ref03Get.body)) ref03Get.nmj11 K s) = _
  cases h : ref03Get.shj11.dec s with
  | none => rfl
  | some v =>
    rw [Shp.dec_enc h]
    kernel_rfl
theorem ref03Get.atl6 (n : Nat) (s : St) (K : Ex → St → Option (Kd.struct ref03Get.con.rs).T) : (ref03Get.lp n) true 6 (evK ref03Get.env (ref03Get.lp n) n (sub [1, 1, 1, 1, 1, 0, 0] ref03Get.body)) ref03Get.nml6 K s = loops n (Kd.struct ref03Get.con.rs).T true 6 (evK ref03Get.env (ref03Get.lp n) n (sub [1, 1, 1, 1, 1, 0, 0] ref03Get.body)) ref03Get.nml6 K s := by
  show (match ref03Get.shl6.dec s with | some v => ref03Get.l6 n (fun w0 w1 w2 => K .ret (ref03Get.outl6e1.enc (w0, w1, w2, ()))) n v.1 v.2.1 v.2.2.1 v.2.2.2.1 v.2.2.2.2.1 | none => loops n (Kd.struct ref03Get.con.rs).T true 6 (evK ref03Get.env (ref03Get.lp n) n (sub [1, 1, 1, 1, 1, 0, 0] ref03Get.body)) ref03Get.nml6 K s) = _
  cases h : ref03Get.shl6.dec s with
  | none => rfl
  | some v =>
    rw [Shp.dec_enc h]
    exact (evLoop_eq (sh := ref03Get.shl6) (body := evK ref03Get.env (ref03Get.lp n) n (sub [1, 1, 1, 1, 1, 0, 0] ref03Get.body)) (nm := ref03Get.nml6) (K := K) (b := fun nx v => ref03Get.b6 n (fun x0 x1 x2 x3 x4 => nx (x0, x1, x2, x3, x4, ())) (fun w0 w1 w2 => K .ret (ref03Get.outl6e1.enc (w0, w1, w2, ()))) v.1 v.2.1 v.2.2.1 v.2.2.2.1 v.2.2.2.2.1) (l := fun m v => ref03Get.l6 n (fun w0 w1 w2 => K .ret (ref03Get.outl6e1.enc (w0, w1, w2, ()))) m v.1 v.2.1 v.2.2.1 v.2.2.2.1 v.2.2.2.2.1) (fun _ => rfl) (fun _ _ => rfl) (fun m v => by kernel_rfl) n v).symm
theorem ref03Get.eq (n : Nat) (x : (Kd.struct ref03Get.con.ps).T) : evFunc ref03Get.env Tryd.f50 ref03Get.body ref03Get.con.ps ref03Get.con.rs (ref03Get.lp n) n x = ref03Get.con.f n x := by kernel_rfl
theorem ref03Get.sound : Sound Tryd.prog globs 50 ref03Get.con :=
  sound_by (E := ref03Get.env) (c := ref03Get.body) (envOk (G := globs) (lc := []) (lo := []) (envB_spec (by kernel_rfl)) rfl rfl trivial rfl trivial (by kernel_rfl) (by kernel_rfl)) Tryd.func50 (by kernel_rfl) ref03Get.lp (l := [(false, sub [1, 1, 1, 1, 1, 0, 0, 0, 1, 1, 1] ref03Get.body, ref03Get.nmj11), (true, sub [1, 1, 1, 1, 1, 0, 0] ref03Get.body, ref03Get.nml6)]) (by kernel_rfl) (fun n => ⟨ref03Get.atj11 n, ⟨ref03Get.atl6 n, trivial⟩⟩) ref03Get.eq
noncomputable def ref03GetText.j6 (fu : Nat) (k1 : (List Int) → Int → Int → Option ((List Int) × Int × Int × Unit)) (b : List Int) (most : Int) (n : Int) (endv : Int) : Option ((List Int) × Int × Int × Unit) :=
  let t1 := decide (n > IntKind.u64.wrap most)
  cond t1 (
    k1 ([] : List Int) (0 : Int) (4 : Int)) (
    let t2 := IntKind.u64.wrap (b.length : Int)
    cond (decide (n > t2)) (
      k1 ([] : List Int) (0 : Int) (3 : Int)) (
      let t3 := IntKind.i64.wrap ((b.length : Int) - endv)
      let t4 := decide (IntKind.i64.wrap n > t3)
      cond t4 (
        k1 ([] : List Int) (0 : Int) (3 : Int)) (
        let t5 := IntKind.i64.wrap (endv + IntKind.i64.wrap n)
        chk (cutOk b endv t5) <|
        let t6 := IntKind.i64.wrap (endv + IntKind.i64.wrap n)
        k1 (cutL b endv t5) t6 (0 : Int))))
noncomputable def ref03GetText (fu : Nat) (b : List Int) (atv : Int) (most : Int) : Option ((List Int) × Int × Int × Unit) :=
  (ref03Get fu b atv).bind fun r1 =>
  cond (r1.2.2.1 != (0 : Int)) (
    some (([] : List Int), (0 : Int), r1.2.2.1, ())) (
    let t2 := decide (most < (0 : Int))
    cond t2 (
      ref03GetText.j6 fu (fun vq1 vq1x2 vq1x3 => 
          some (vq1, vq1x2, vq1x3, ())) b (0 : Int) r1.1 r1.2.1) (
      ref03GetText.j6 fu (fun vq2 vq2x2 vq2x3 => 
          some (vq2, vq2x2, vq2x3, ())) b most r1.1 r1.2.1))

noncomputable def ref03GetText.body : Code := Tryd.f51.body.getD .skip
abbrev ref03GetText.shj6 : Shp := ⟨[.d (.slice (.int .u8)), .u, .d (.int .i64), .u, .u, .u, .u, .u, .u, .d (.int .u64), .d (.int .i64), .u, .u, .u, .u, .u, .u, .u, .u, .u, .u, .u, .u, .u, .u, .u, .u, .u, .u, .u, .u, .u, .u, .u, .u, .u, .u, .u, .u, .u, .u, .u, .u, .u, .u, .u, .u, .u, .u, .u, .u, .u, .u, .u], []⟩
abbrev ref03GetText.outj6e1 : Shp := ⟨[.u, .u, .u, .u, .u, .u, .d .str, .d (.int .i64), .d (.int .i64), .u, .u, .u, .u, .u, .u, .u, .u, .u, .u, .u, .u, .u, .u, .u, .u, .u, .u, .u, .u, .u, .u, .u, .u, .u, .u, .u, .u, .u, .u, .u, .u, .u, .u, .u, .u, .u, .u, .u, .u, .u, .u, .u, .u, .u], []⟩
noncomputable def ref03GetText.nmj6 : Norm := ⟨{ keep := [0, 2, 9, 10], shut := [(0, (.slice (.int .u8))), (2, (.int .i64)), (9, (.int .u64)), (10, (.int .i64))], retag := [], heap := 0, dead := [], cshut := [], cretag := [] }, [(1, { keep := [6, 7, 8], shut := [(6, .str), (7, (.int .i64)), (8, (.int .i64))], retag := [], heap := 0, dead := [], cshut := [], cretag := [] })]⟩
noncomputable def ref03GetText.con : Con := { ps := [(.slice (.int .u8)), (.int .i64), (.int .i64)], rs := [.str, (.int .i64), (.int .i64)], f := fun n x => ref03GetText n x.1 x.2.1 x.2.2.1 }
noncomputable def ref03GetText.env : Env := { tys := [(9, ⟨.str, 16⟩), (3, ⟨(.int .i64), 8⟩), (23, ⟨(.int .u64), 8⟩), (5, ⟨(.int .u8), 1⟩), (4, ⟨.bool, 1⟩), (24, ⟨(.slice (.int .u8)), 24⟩)], elems := [(24, 5)], ptrs := [], cons := [(50, ref03Get.con)], objs := [], loops := [], cuts := [(6, ref03GetText.nmj6)], globs := globs, base := 0 }
noncomputable def ref03GetText.lp (n : Nat) : LP (Kd.struct ref03GetText.con.rs).T := fun lo κ body nm K s =>
  cond (!lo && Nat.beq κ 6)
    (match ref03GetText.shj6.dec s with
    | some v => ref03GetText.j6 n (fun w0 w1 w2 => K .ret (ref03GetText.outj6e1.enc (w0, w1, w2, ()))) v.1 v.2.1 v.2.2.1 v.2.2.2.1
    | none => loops n (Kd.struct ref03GetText.con.rs).T lo κ body nm K s)
    (loops n (Kd.struct ref03GetText.con.rs).T lo κ body nm K s)
theorem ref03GetText.atj6 (n : Nat) (s : St) (K : Ex → St → Option (Kd.struct ref03GetText.con.rs).T) : (ref03GetText.lp n) false 6 (evK ref03GetText.env (ref03GetText.lp n) n (sub [1, 1, 1, 1] ref03GetText.body)) ref03GetText.nmj6 K s = loops n (Kd.struct ref03GetText.con.rs).T false 6 (evK ref03GetText.env (ref03GetText.lp n) n (sub [1, 1, 1, 1] ref03GetText.body)) ref03GetText.nmj6 K s := by
  show (match ref03GetText.shj6.dec s with | some v => ref03GetText.j6 n (fun w0 w1 w2 => K .ret (ref03GetText.outj6e1.enc (w0, w1, w2, ()))) v.1 v.2.1 v.2.2.1 v.2.2.2.1 | none => loops n (Kd.struct ref03GetText.con.rs).T false 6 (evK ref03GetText.env (ref03GetText.lp n) n (sub [1, 1, 1, 1] ref03GetText.body)) ref03GetText.nmj6 K s) = _
  cases h : ref03GetText.shj6.dec s with
  | none => rfl
  | some v =>
    rw [Shp.dec_enc h]
    kernel_rfl
theorem ref03GetText.eq (n : Nat) (x : (Kd.struct ref03GetText.con.ps).T) : evFunc ref03GetText.env Tryd.f51 ref03GetText.body ref03GetText.con.ps ref03GetText.con.rs (ref03GetText.lp n) n x = ref03GetText.con.f n x := by kernel_rfl
theorem ref03GetText.sound : Sound Tryd.prog globs 51 ref03GetText.con :=
  sound_by (E := ref03GetText.env) (c := ref03GetText.body) (envOk (G := globs) (lc := [(50, ref03Get.con)]) (lo := []) (envB_spec (by kernel_rfl)) rfl rfl ⟨.inl ⟨ref03Get.sound, by kernel_rfl⟩, trivial⟩ rfl trivial (by kernel_rfl) (by kernel_rfl)) Tryd.func51 (by kernel_rfl) ref03GetText.lp (l := [(false, sub [1, 1, 1, 1] ref03GetText.body, ref03GetText.nmj6)]) (by kernel_rfl) (fun n => ⟨ref03GetText.atj6 n, trivial⟩) ref03GetText.eq
noncomputable def ref20Body.b12 (fu : Nat) (next : (List Int) → (List Bool) → Int → Int → Int → Int → Int → Int → Int → Int → (List Int) → Int → Int → Int → Int → Int → (List Int) → (List Int) → Option (S0 × Int × Unit)) (k1 : Int → Int → Int → Int → Int → Int → (List Int) → Option (S0 × Int × Unit)) (k2 : (List Int) → (List Bool) → Int → Int → Int → Int → Int → Int → (List Int) → Int → Int → Int → Int → Int → (List Int) → (List Int) → Option (S0 × Int × Unit)) (b : List Int) (has : List Bool) (atv : Int) (v : Int) (vx2 : Int) (c0 : Int) (c0x2 : Int) (c0x3 : Int) (c0x4 : Int) (c0x5 : Int) (c0x6 : List Int) (c1 : Int) (c1x2 : Int) (c1x3 : Int) (c1x4 : Int) (c1x5 : Int) (c1x6 : List Int) (c2 : List Int) : Option (S0 × Int × Unit) :=
  cond (decide (vx2 < v)) (
    chk (ixOk has vx2) <|
    let e1 := ixL false has vx2
    cond (!e1) (
      let t2 := IntKind.i64.wrap (vx2 + (1 : Int))
      next b has atv v t2 c0 c0x2 c0x3 c0x4 c0x5 c0x6 c1 c1x2 c1x3 c1x4 c1x5 c1x6 c2) (
      (ref03Get fu b atv).bind fun r3 =>
      cond (r3.2.2.1 != (0 : Int)) (
        k1 r3.2.2.1 c1 c1x2 c1x3 c1x4 c1x5 c1x6) (
        cond (decide (vx2 < (2 : Int))) (
          let t4 := decide (r3.1 > (4294967295 : Int))
          cond t4 (
            k1 (5 : Int) c1 c1x2 c1x3 c1x4 c1x5 c1x6) (
            chk (ixArr 4 vx2) <|
            chk (nOk c2 4) <|
            let w5 := stL c2 vx2 r3.1
            let t6 := IntKind.i64.wrap (vx2 + (1 : Int))
            next b has r3.2.1 v t6 c0 c0x2 c0x3 c0x4 c0x5 c0x6 c1 c1x2 c1x3 c1x4 c1x5 c1x6 w5)) (
          chk (ixArr 4 vx2) <|
          chk (nOk c2 4) <|
          let w7 := stL c2 vx2 r3.1
          let t8 := IntKind.i64.wrap (vx2 + (1 : Int))
          next b has r3.2.1 v t8 c0 c0x2 c0x3 c0x4 c0x5 c0x6 c1 c1x2 c1x3 c1x4 c1x5 c1x6 w7)))) (
    k2 b has atv c0 c0x2 c0x3 c0x4 c0x5 c0x6 c1 c1x2 c1x3 c1x4 c1x5 c1x6 c2)
noncomputable def ref20Body.l12 (fu : Nat) (k1 : Int → Int → Int → Int → Int → Int → (List Int) → Option (S0 × Int × Unit)) (k2 : (List Int) → (List Bool) → Int → Int → Int → Int → Int → Int → (List Int) → Int → Int → Int → Int → Int → (List Int) → (List Int) → Option (S0 × Int × Unit)) : Nat → (List Int) → (List Bool) → Int → Int → Int → Int → Int → Int → Int → Int → (List Int) → Int → Int → Int → Int → Int → (List Int) → (List Int) → Option (S0 × Int × Unit)
  | 0, _, _, _, _, _, _, _, _, _, _, _, _, _, _, _, _, _, _ => none
  | m + 1, b, has, atv, v, vx2, c0, c0x2, c0x3, c0x4, c0x5, c0x6, c1, c1x2, c1x3, c1x4, c1x5, c1x6, c2 => ref20Body.b12 fu (ref20Body.l12 fu k1 k2 m) k1 k2 b has atv v vx2 c0 c0x2 c0x3 c0x4 c0x5 c0x6 c1 c1x2 c1x3 c1x4 c1x5 c1x6 c2
noncomputable def ref20Body.j31 (fu : Nat) (k1 : Int → Int → Int → Int → Int → Int → (List Int) → Option (S0 × Int × Unit)) (b : List Int) (atv : Int) (c0 : Int) (c0x2 : Int) (c0x3 : Int) (c0x4 : Int) (c0x5 : Int) (c0x6 : List Int) (c1 : Int) (c1x2 : Int) (c1x3 : Int) (c1x4 : Int) (c1x5 : Int) (c1x6 : List Int) (c2 : List Int) (c3 : Int) (c3x2 : Int) (c3x3 : Int) (c3x4 : Int) (c3x5 : Int) (c3x6 : List Int) : Option (S0 × Int × Unit) :=
  let t1 := decide (atv < (b.length : Int))
  cond t1 (
    k1 (2 : Int) c1 c1x2 c1x3 c1x4 c1x5 c1x6) (
    k1 (0 : Int) c3 c3x2 c3x3 c3x4 c3x5 c3x6)
noncomputable def ref20Body (fu : Nat) (b : List Int) : Option (S0 × Int × Unit) :=
  let t1 := (b.length : Int) == (0 : Int)
  cond t1 (
    some (((0 : Int), (0 : Int), (0 : Int), (0 : Int), (0 : Int), [], ()), (3 : Int), ())) (
    let t2 := decide ((b.length : Int) > (8192 : Int))
    cond t2 (
      some (((0 : Int), (0 : Int), (0 : Int), (0 : Int), (0 : Int), [], ()), (4 : Int), ())) (
      chk (ixOk b (0 : Int)) <|
      let e3 := ixL (0 : Int) b (0 : Int)
      (ref20Fields fu e3).bind fun r4 =>
      cond (!r4.2.1) (
        some (((0 : Int), (0 : Int), (0 : Int), (0 : Int), (0 : Int), [], ()), (11 : Int), ())) (
        ref20Body.l12 fu (fun vq3 c0q3 c0q3x2 c0q3x3 c0q3x4 c0q3x5 c0q3x6 => 
            some ((c0q3, c0q3x2, c0q3x3, c0q3x4, c0q3x5, c0q3x6, ()), vq3, ())) (fun bq4 hasq4 atvq4 c0q4 c0q4x2 c0q4x3 c0q4x4 c0q4x5 c0q4x6 c1q4 c1q4x2 c1q4x3 c1q4x4 c1q4x5 c1q4x6 c2q4 => 
            chk (ixOk bq4 (0 : Int)) <|
            let e5 := ixL (0 : Int) bq4 (0 : Int)
            chk (ixArr 4 (0 : Int)) <|
            chk (nOk c2q4 4) <|
            let t6 := ixL (0 : Int) c2q4 (0 : Int)
            chk (ixArr 4 (1 : Int)) <|
            chk (nOk c2q4 4) <|
            let t7 := ixL (0 : Int) c2q4 (1 : Int)
            chk (ixArr 4 (2 : Int)) <|
            chk (nOk c2q4 4) <|
            let t8 := ixL (0 : Int) c2q4 (2 : Int)
            chk (ixArr 4 (3 : Int)) <|
            chk (nOk c2q4 4) <|
            let t9 := ixL (0 : Int) c2q4 (3 : Int)
            chk (ixOk hasq4 (4 : Int)) <|
            let e10 := ixL false hasq4 (4 : Int)
            cond e10 (
              (ref03GetText fu bq4 atvq4 (8192 : Int)).bind fun r11 =>
              cond (r11.2.2.1 != (0 : Int)) (
                some ((c1q4, c1q4x2, c1q4x3, c1q4x4, c1q4x5, c1q4x6, ()), r11.2.2.1, ())) (
                chk (apOk [] r11.1 1) <|
                ref20Body.j31 fu (fun vq5 c0q5 c0q5x2 c0q5x3 c0q5x4 c0q5x5 c0q5x6 => 
                    some ((c0q5, c0q5x2, c0q5x3, c0q5x4, c0q5x5, c0q5x6, ()), vq5, ())) bq4 r11.2.1 c0q4 c0q4x2 c0q4x3 c0q4x4 c0q4x5 c0q4x6 c1q4 c1q4x2 c1q4x3 c1q4x4 c1q4x5 c1q4x6 c2q4 e5 (IntKind.u32.wrap t6) (IntKind.u32.wrap t7) t8 t9 ([] ++ r11.1))) (
              ref20Body.j31 fu (fun vq6 c0q6 c0q6x2 c0q6x3 c0q6x4 c0q6x5 c0q6x6 => 
                  some ((c0q6, c0q6x2, c0q6x3, c0q6x4, c0q6x5, c0q6x6, ()), vq6, ())) bq4 atvq4 c0q4 c0q4x2 c0q4x3 c0q4x4 c0q4x5 c0q4x6 c1q4 c1q4x2 c1q4x3 c1q4x4 c1q4x5 c1q4x6 c2q4 e5 (IntKind.u32.wrap t6) (IntKind.u32.wrap t7) t8 t9 [])) fu b r4.1 (1 : Int) (4 : Int) (0 : Int) (0 : Int) (0 : Int) (0 : Int) (0 : Int) (0 : Int) [] (0 : Int) (0 : Int) (0 : Int) (0 : Int) (0 : Int) [] ([(0 : Int), (0 : Int), (0 : Int), (0 : Int)]))))

noncomputable def ref20Body.body : Code := Tryd.f33.body.getD .skip
abbrev ref20Body.shl12 : Shp := ⟨[.d (.slice (.int .u8)), .u, .p 0 0, .u, .p 1 0, .d (.slice .bool), .u, .s 2 (.int .u64) 4, .d (.int .i64), .u, .u, .u, .u, .u, .u, .u, .u, .u, .u, .u, .u, .u, .u, .u, .u, .u, .u, .u, .u, .u, .u, .u, .u, .u, .u, .u, .u, .u, .u, .d (.int .i64), .d (.int .i64), .u, .u, .u, .u, .u, .u, .u, .u, .u, .u, .u, .u, .u, .u, .u, .u, .u, .u, .u, .u, .u, .u, .u, .u, .u, .u, .u, .u, .u, .u, .u, .u, .u, .u, .u, .u, .u, .u, .u, .u, .u, .u, .u, .u, .u, .u, .u, .u, .u, .u, .u, .u, .u, .u, .u, .u, .u, .u, .u, .u, .u, .u, .u, .u, .u, .u, .u, .u, .u, .u, .u, .u, .u, .u, .u], [.c [.d (.int .u8), .d (.int .u32), .d (.int .u32), .d (.int .u64), .d (.int .u64), .o 1005 (.int .u8)], .c [.d (.int .u8), .d (.int .u32), .d (.int .u32), .d (.int .u64), .d (.int .u64), .o 1055 (.int .u8)], .a (.int .u64)]⟩
abbrev ref20Body.outl12e1 : Shp := ⟨[.u, .u, .p 0 0, .d (.int .i64), .u, .u, .u, .u, .u, .u, .u, .u, .u, .u, .u, .u, .u, .u, .u, .u, .u, .u, .u, .u, .u, .u, .u, .u, .u, .u, .u, .u, .u, .u, .u, .u, .u, .u, .u, .u, .u, .u, .u, .u, .u, .u, .u, .u, .u, .u, .u, .u, .u, .u, .u, .u, .u, .u, .u, .u, .u, .u, .u, .u, .u, .u, .u, .u, .u, .u, .u, .u, .u, .u, .u, .u, .u, .u, .u, .u, .u, .u, .u, .u, .u, .u, .u, .u, .u, .u, .u, .u, .u, .u, .u, .u, .u, .u, .u, .u, .u, .u, .u, .u, .u, .u, .u, .u, .u, .u, .u, .u, .u, .u, .u, .u], [.c [.d (.int .u8), .d (.int .u32), .d (.int .u32), .d (.int .u64), .d (.int .u64), .d (.slice (.int .u8))]]⟩
abbrev ref20Body.outl12e2 : Shp := ⟨[.d (.slice (.int .u8)), .u, .p 0 0, .u, .p 1 0, .d (.slice .bool), .u, .s 2 (.int .u64) 4, .d (.int .i64), .u, .u, .u, .u, .u, .u, .u, .u, .u, .u, .u, .u, .u, .u, .u, .u, .u, .u, .u, .u, .u, .u, .u, .u, .u, .u, .u, .u, .u, .u, .u, .u, .u, .u, .u, .u, .u, .u, .u, .u, .u, .u, .u, .u, .u, .u, .u, .u, .u, .u, .u, .u, .u, .u, .u, .u, .u, .u, .u, .u, .u, .u, .u, .u, .u, .u, .u, .u, .u, .u, .u, .u, .u, .u, .u, .u, .u, .u, .u, .u, .u, .u, .u, .u, .u, .u, .u, .u, .u, .u, .u, .u, .u, .u, .u, .u, .u, .u, .u, .u, .u, .u, .u, .u, .u, .u, .u], [.c [.d (.int .u8), .d (.int .u32), .d (.int .u32), .d (.int .u64), .d (.int .u64), .o 1005 (.int .u8)], .c [.d (.int .u8), .d (.int .u32), .d (.int .u32), .d (.int .u64), .d (.int .u64), .o 1055 (.int .u8)], .a (.int .u64)]⟩
noncomputable def ref20Body.nml12 : Norm := ⟨{ keep := [0, 2, 4, 5, 7, 8, 39, 40], shut := [(0, (.slice (.int .u8))), (5, (.slice .bool)), (8, (.int .i64)), (39, (.int .i64)), (40, (.int .i64))], retag := [], heap := 3, dead := [], cshut := [(0, 0, (.int .u8)), (0, 1, (.int .u32)), (0, 2, (.int .u32)), (0, 3, (.int .u64)), (0, 4, (.int .u64)), (1, 0, (.int .u8)), (1, 1, (.int .u32)), (1, 2, (.int .u32)), (1, 3, (.int .u64)), (1, 4, (.int .u64))], cretag := [(0, 5, 1005, (.int .u8)), (1, 5, 1055, (.int .u8))] }, [(1, { keep := [2, 3], shut := [(3, (.int .i64))], retag := [], heap := 1, dead := [], cshut := [(0, 0, (.int .u8)), (0, 1, (.int .u32)), (0, 2, (.int .u32)), (0, 3, (.int .u64)), (0, 4, (.int .u64)), (0, 5, (.slice (.int .u8)))], cretag := [] }), (2, { keep := [0, 2, 4, 5, 7, 8], shut := [(0, (.slice (.int .u8))), (5, (.slice .bool)), (8, (.int .i64))], retag := [], heap := 3, dead := [], cshut := [(0, 0, (.int .u8)), (0, 1, (.int .u32)), (0, 2, (.int .u32)), (0, 3, (.int .u64)), (0, 4, (.int .u64)), (1, 0, (.int .u8)), (1, 1, (.int .u32)), (1, 2, (.int .u32)), (1, 3, (.int .u64)), (1, 4, (.int .u64))], cretag := [(0, 5, 1005, (.int .u8)), (1, 5, 1055, (.int .u8))] })]⟩
abbrev ref20Body.shj31 : Shp := ⟨[.d (.slice (.int .u8)), .u, .p 0 0, .u, .p 1 0, .u, .u, .u, .d (.int .i64), .u, .u, .u, .u, .p 3 0, .u, .u, .u, .u, .u, .u, .u, .u, .u, .u, .u, .u, .u, .u, .u, .u, .u, .u, .u, .u, .u, .u, .u, .u, .u, .u, .u, .u, .u, .u, .u, .u, .u, .u, .u, .u, .u, .u, .u, .u, .u, .u, .u, .u, .u, .u, .u, .u, .u, .u, .u, .u, .u, .u, .u, .u, .u, .u, .u, .u, .u, .u, .u, .u, .u, .u, .u, .u, .u, .u, .u, .u, .u, .u, .u, .u, .u, .u, .u, .u, .u, .u, .u, .u, .u, .u, .u, .u, .u, .u, .u, .u, .u, .u, .u, .u, .u, .u, .u, .u, .u, .u], [.c [.d (.int .u8), .d (.int .u32), .d (.int .u32), .d (.int .u64), .d (.int .u64), .o 1005 (.int .u8)], .c [.d (.int .u8), .d (.int .u32), .d (.int .u32), .d (.int .u64), .d (.int .u64), .o 1055 (.int .u8)], .a (.int .u64), .c [.d (.int .u8), .d (.int .u32), .d (.int .u32), .d (.int .u64), .d (.int .u64), .o 1155 (.int .u8)]]⟩
abbrev ref20Body.outj31e1 : Shp := ⟨[.u, .u, .p 0 0, .d (.int .i64), .u, .u, .u, .u, .u, .u, .u, .u, .u, .u, .u, .u, .u, .u, .u, .u, .u, .u, .u, .u, .u, .u, .u, .u, .u, .u, .u, .u, .u, .u, .u, .u, .u, .u, .u, .u, .u, .u, .u, .u, .u, .u, .u, .u, .u, .u, .u, .u, .u, .u, .u, .u, .u, .u, .u, .u, .u, .u, .u, .u, .u, .u, .u, .u, .u, .u, .u, .u, .u, .u, .u, .u, .u, .u, .u, .u, .u, .u, .u, .u, .u, .u, .u, .u, .u, .u, .u, .u, .u, .u, .u, .u, .u, .u, .u, .u, .u, .u, .u, .u, .u, .u, .u, .u, .u, .u, .u, .u, .u, .u, .u, .u], [.c [.d (.int .u8), .d (.int .u32), .d (.int .u32), .d (.int .u64), .d (.int .u64), .d (.slice (.int .u8))]]⟩
noncomputable def ref20Body.nmj31 : Norm := ⟨{ keep := [0, 2, 4, 8, 13], shut := [(0, (.slice (.int .u8))), (8, (.int .i64))], retag := [], heap := 4, dead := [], cshut := [(0, 0, (.int .u8)), (0, 1, (.int .u32)), (0, 2, (.int .u32)), (0, 3, (.int .u64)), (0, 4, (.int .u64)), (1, 0, (.int .u8)), (1, 1, (.int .u32)), (1, 2, (.int .u32)), (1, 3, (.int .u64)), (1, 4, (.int .u64)), (3, 0, (.int .u8)), (3, 1, (.int .u32)), (3, 2, (.int .u32)), (3, 3, (.int .u64)), (3, 4, (.int .u64))], cretag := [(0, 5, 1005, (.int .u8)), (1, 5, 1055, (.int .u8)), (3, 5, 1155, (.int .u8))] }, [(1, { keep := [2, 3], shut := [(3, (.int .i64))], retag := [], heap := 1, dead := [], cshut := [(0, 0, (.int .u8)), (0, 1, (.int .u32)), (0, 2, (.int .u32)), (0, 3, (.int .u64)), (0, 4, (.int .u64)), (0, 5, (.slice (.int .u8)))], cretag := [] })]⟩
noncomputable def ref20Body.con : Con := { ps := [(.slice (.int .u8))], rs := [kS0, (.int .i64)], f := fun n x => ref20Body n x.1 }
noncomputable def ref20Body.env : Env := { tys := [(26, ⟨kS0, 56⟩), (3, ⟨(.int .i64), 8⟩), (5, ⟨(.int .u8), 1⟩), (23, ⟨(.int .u64), 8⟩), (4, ⟨.bool, 1⟩), (22, ⟨(.int .u32), 4⟩), (9, ⟨.str, 16⟩), (24, ⟨(.slice (.int .u8)), 24⟩)], elems := [(24, 5), (58, 23), (55, 4)], ptrs := [], cons := [(26, ref20Fields.con), (50, ref03Get.con), (51, ref03GetText.con)], objs := [], loops := [(12, ref20Body.nml12)], cuts := [(31, ref20Body.nmj31)], globs := globs, base := 0, muts := [37] }
noncomputable def ref20Body.lp (n : Nat) : LP (Kd.struct ref20Body.con.rs).T := fun lo κ body nm K s =>
  cond (lo && Nat.beq κ 12)
    (match ref20Body.shl12.dec s with
    | some v => ref20Body.l12 n (fun w0 w1 w2 w3 w4 w5 w6 => K .ret (ref20Body.outl12e1.enc (w0, w1, w2, w3, w4, w5, w6, ()))) (fun w0 w1 w2 w3 w4 w5 w6 w7 w8 w9 w10 w11 w12 w13 w14 w15 => K (.exit 0) (ref20Body.outl12e2.enc (w0, w1, w2, w3, w4, w5, w6, w7, w8, w9, w10, w11, w12, w13, w14, w15, ()))) n v.1 v.2.1 v.2.2.1 v.2.2.2.1 v.2.2.2.2.1 v.2.2.2.2.2.1 v.2.2.2.2.2.2.1 v.2.2.2.2.2.2.2.1 v.2.2.2.2.2.2.2.2.1 v.2.2.2.2.2.2.2.2.2.1 v.2.2.2.2.2.2.2.2.2.2.1 v.2.2.2.2.2.2.2.2.2.2.2.1 v.2.2.2.2.2.2.2.2.2.2.2.2.1 v.2.2.2.2.2.2.2.2.2.2.2.2.2.1 v.2.2.2.2.2.2.2.2.2.2.2.2.2.2.1 v.2.2.2.2.2.2.2.2.2.2.2.2.2.2.2.1 v.2.2.2.2.2.2.2.2.2.2.2.2.2.2.2.2.1 v.2.2.2.2.2.2.2.2.2.2.2.2.2.2.2.2.2.1
    | none => loops n (Kd.struct ref20Body.con.rs).T lo κ body nm K s)
    (cond (!lo && Nat.beq κ 31)
    (match ref20Body.shj31.dec s with
    | some v => ref20Body.j31 n (fun w0 w1 w2 w3 w4 w5 w6 => K .ret (ref20Body.outj31e1.enc (w0, w1, w2, w3, w4, w5, w6, ()))) v.1 v.2.1 v.2.2.1 v.2.2.2.1 v.2.2.2.2.1 v.2.2.2.2.2.1 v.2.2.2.2.2.2.1 v.2.2.2.2.2.2.2.1 v.2.2.2.2.2.2.2.2.1 v.2.2.2.2.2.2.2.2.2.1 v.2.2.2.2.2.2.2.2.2.2.1 v.2.2.2.2.2.2.2.2.2.2.2.1 v.2.2.2.2.2.2.2.2.2.2.2.2.1 v.2.2.2.2.2.2.2.2.2.2.2.2.2.1 v.2.2.2.2.2.2.2.2.2.2.2.2.2.2.1 v.2.2.2.2.2.2.2.2.2.2.2.2.2.2.2.1 v.2.2.2.2.2.2.2.2.2.2.2.2.2.2.2.2.1 v.2.2.2.2.2.2.2.2.2.2.2.2.2.2.2.2.2.1 v.2.2.2.2.2.2.2.2.2.2.2.2.2.2.2.2.2.2.1 v.2.2.2.2.2.2.2.2.2.2.2.2.2.2.2.2.2.2.2.1 v.2.2.2.2.2.2.2.2.2.2.2.2.2.2.2.2.2.2.2.2.1
    | none => loops n (Kd.struct ref20Body.con.rs).T lo κ body nm K s)
    (loops n (Kd.struct ref20Body.con.rs).T lo κ body nm K s))
theorem ref20Body.atl12 (n : Nat) (s : St) (K : Ex → St → Option (Kd.struct ref20Body.con.rs).T) : (ref20Body.lp n) true 12 (evK ref20Body.env (ref20Body.lp n) n (sub [1, 1, 1, 1, 1, 1, 1, 1, 0, 1, 0, 0] ref20Body.body)) ref20Body.nml12 K s = loops n (Kd.struct ref20Body.con.rs).T true 12 (evK ref20Body.env (ref20Body.lp n) n (sub [1, 1, 1, 1, 1, 1, 1, 1, 0, 1, 0, 0] ref20Body.body)) ref20Body.nml12 K s := by
  show (match ref20Body.shl12.dec s with | some v => ref20Body.l12 n (fun w0 w1 w2 w3 w4 w5 w6 => K .ret (ref20Body.outl12e1.enc (w0, w1, w2, w3, w4, w5, w6, ()))) (fun w0 w1 w2 w3 w4 w5 w6 w7 w8 w9 w10 w11 w12 w13 w14 w15 => K (.exit 0) (ref20Body.outl12e2.enc (w0, w1, w2, w3, w4, w5, w6, w7, w8, w9, w10, w11, w12, w13, w14, w15, ()))) n v.1 v.2.1 v.2.2.1 v.2.2.2.1 v.2.2.2.2.1 v.2.2.2.2.2.1 v.2.2.2.2.2.2.1 v.2.2.2.2.2.2.2.1 v.2.2.2.2.2.2.2.2.1 v.2.2.2.2.2.2.2.2.2.1 v.2.2.2.2.2.2.2.2.2.2.1 v.2.2.2.2.2.2.2.2.2.2.2.1 v.2.2.2.2.2.2.2.2.2.2.2.2.1 v.2.2.2.2.2.2.2.2.2.2.2.2.2.1 v.2.2.2.2.2.2.2.2.2.2.2.2.2.2.1 v.2.2.2.2.2.2.2.2.2.2.2.2.2.2.2.1 v.2.2.2.2.2.2.2.2.2.2.2.2.2.2.2.2.1 v.2.2.2.2.2.2.2.2.2.2.2.2.2.2.2.2.2.1 | none => loops n (Kd.struct ref20Body.con.rs).T true 12 (evK ref20Body.env (ref20Body.lp n) n (sub [1, 1, 1, 1, 1, 1, 1, 1, 0, 1, 0, 0] ref20Body.body)) ref20Body.nml12 K s) = _
  cases h : ref20Body.shl12.dec s with
  | none => rfl
  | some v =>
    rw [Shp.dec_enc h]
    exact (evLoop_eq (sh := ref20Body.shl12) (body := evK ref20Body.env (ref20Body.lp n) n (sub [1, 1, 1, 1, 1, 1, 1, 1, 0, 1, 0, 0] ref20Body.body)) (nm := ref20Body.nml12) (K := K) (b := fun nx v => ref20Body.b12 n (fun x0 x1 x2 x3 x4 x5 x6 x7 x8 x9 x10 x11 x12 x13 x14 x15 x16 x17 => nx (x0, x1, x2, x3, x4, x5, x6, x7, x8, x9, x10, x11, x12, x13, x14, x15, x16, x17, ())) (fun w0 w1 w2 w3 w4 w5 w6 => K .ret (ref20Body.outl12e1.enc (w0, w1, w2, w3, w4, w5, w6, ()))) (fun w0 w1 w2 w3 w4 w5 w6 w7 w8 w9 w10 w11 w12 w13 w14 w15 => K (.exit 0) (ref20Body.outl12e2.enc (w0, w1, w2, w3, w4, w5, w6, w7, w8, w9, w10, w11, w12, w13, w14, w15, ()))) v.1 v.2.1 v.2.2.1 v.2.2.2.1 v.2.2.2.2.1 v.2.2.2.2.2.1 v.2.2.2.2.2.2.1 v.2.2.2.2.2.2.2.1 v.2.2.2.2.2.2.2.2.1 v.2.2.2.2.2.2.2.2.2.1 v.2.2.2.2.2.2.2.2.2.2.1 v.2.2.2.2.2.2.2.2.2.2.2.1 v.2.2.2.2.2.2.2.2.2.2.2.2.1 v.2.2.2.2.2.2.2.2.2.2.2.2.2.1 v.2.2.2.2.2.2.2.2.2.2.2.2.2.2.1 v.2.2.2.2.2.2.2.2.2.2.2.2.2.2.2.1 v.2.2.2.2.2.2.2.2.2.2.2.2.2.2.2.2.1 v.2.2.2.2.2.2.2.2.2.2.2.2.2.2.2.2.2.1) (l := fun m v => ref20Body.l12 n (fun w0 w1 w2 w3 w4 w5 w6 => K .ret (ref20Body.outl12e1.enc (w0, w1, w2, w3, w4, w5, w6, ()))) (fun w0 w1 w2 w3 w4 w5 w6 w7 w8 w9 w10 w11 w12 w13 w14 w15 => K (.exit 0) (ref20Body.outl12e2.enc (w0, w1, w2, w3, w4, w5, w6, w7, w8, w9, w10, w11, w12, w13, w14, w15, ()))) m v.1 v.2.1 v.2.2.1 v.2.2.2.1 v.2.2.2.2.1 v.2.2.2.2.2.1 v.2.2.2.2.2.2.1 v.2.2.2.2.2.2.2.1 v.2.2.2.2.2.2.2.2.1 v.2.2.2.2.2.2.2.2.2.1 v.2.2.2.2.2.2.2.2.2.2.1 v.2.2.2.2.2.2.2.2.2.2.2.1 v.2.2.2.2.2.2.2.2.2.2.2.2.1 v.2.2.2.2.2.2.2.2.2.2.2.2.2.1 v.2.2.2.2.2.2.2.2.2.2.2.2.2.2.1 v.2.2.2.2.2.2.2.2.2.2.2.2.2.2.2.1 v.2.2.2.2.2.2.2.2.2.2.2.2.2.2.2.2.1 v.2.2.2.2.2.2.2.2.2.2.2.2.2.2.2.2.2.1) (fun _ => rfl) (fun _ _ => rfl) (fun m v => by kernel_rfl) n v).symm
theorem ref20Body.atj31 (n : Nat) (s : St) (K : Ex → St → Option (Kd.struct ref20Body.con.rs).T) : (ref20Body.lp n) false 31 (evK ref20Body.env (ref20Body.lp n) n (sub [1, 1, 1, 1, 1, 1, 1, 1, 1, 1, 1] ref20Body.body)) ref20Body.nmj31 K s = loops n (Kd.struct ref20Body.con.rs).T false 31 (evK ref20Body.env (ref20Body.lp n) n (sub [1, 1, 1, 1, 1, 1, 1, 1, 1, 1, 1] ref20Body.body)) ref20Body.nmj31 K s := by
  show (match ref20Body.shj31.dec s with | some v => ref20Body.j31 n (fun w0 w1 w2 w3 w4 w5 w6 => K .ret (ref20Body.outj31e1.enc (w0, w1, w2, w3, w4, w5, w6, ()))) v.1 v.2.1 v.2.2.1 v.2.2.2.1 v.2.2.2.2.1 v.2.2.2.2.2.1 v.2.2.2.2.2.2.1 v.2.2.2.2.2.2.2.1 v.2.2.2.2.2.2.2.2.1 v.2.2.2.2.2.2.2.2.2.1 v.2.2.2.2.2.2.2.2.2.2.1 v.2.2.2.2.2.2.2.2.2.2.2.1 v.2.2.2.2.2.2.2.2.2.2.2.2.1 v.2.2.2.2.2.2.2.2.2.2.2.2.2.1 v.2.2.2.2.2.2.2.2.2.2.2.2.2.2.1 v.2.2.2.2.2.2.2.2.2.2.2.2.2.2.2.1 v.2.2.2.2.2.2.2.2.2.2.2.2.2.2.2.2.1 v.2.2.2.2.2.2.2.2.2.2.2.2.2.2.2.2.2.1 v.2.2.2.2.2.2.2.2.2.2.2.2.2.2.2.2.2.2.1 v.2.2.2.2.2.2.2.2.2.2.2.2.2.2.2.2.2.2.2.1 v.2.2.2.2.2.2.2.2.2.2.2.2.2.2.2.2.2.2.2.2.1 | none => loops n (Kd.struct ref20Body.con.rs).T false 31 (evK ref20Body.env (ref20Body.lp n) n (sub [1, 1, 1, 1, 1, 1, 1, 1, 1, 1, 1] ref20Body.body)) ref20Body.nmj31 K s) = _
  cases h : ref20Body.shj31.dec s with
  | none => rfl
  | some v =>
    rw [Shp.dec_enc h]
    kernel_rfl
theorem ref20Body.eq (n : Nat) (x : (Kd.struct ref20Body.con.ps).T) : evFunc ref20Body.env Tryd.f33 ref20Body.body ref20Body.con.ps ref20Body.con.rs (ref20Body.lp n) n x = ref20Body.con.f n x := by kernel_rfl
theorem ref20Body.sound : Sound Tryd.prog globs 33 ref20Body.con :=
  sound_by (E := ref20Body.env) (c := ref20Body.body) (envOk (G := globs) (lc := [(26, ref20Fields.con), (50, ref03Get.con), (51, ref03GetText.con)]) (lo := []) (envB_spec (by kernel_rfl)) rfl rfl ⟨.inl ⟨ref20Fields.sound, by kernel_rfl⟩, ⟨.inl ⟨ref03Get.sound, by kernel_rfl⟩, ⟨.inl ⟨ref03GetText.sound, by kernel_rfl⟩, trivial⟩⟩⟩ rfl trivial (by kernel_rfl) (by kernel_rfl)) Tryd.func33 (by kernel_rfl) ref20Body.lp (l := [(true, sub [1, 1, 1, 1, 1, 1, 1, 1, 0, 1, 0, 0] ref20Body.body, ref20Body.nml12), (false, sub [1, 1, 1, 1, 1, 1, 1, 1, 1, 1, 1] ref20Body.body, ref20Body.nmj31)]) (by kernel_rfl) (fun n => ⟨ref20Body.atl12 n, ⟨ref20Body.atj31 n, trivial⟩⟩) ref20Body.eq
noncomputable def ref20Get (fu : Nat) (b : List Int) : Option (S0 × Int × Unit) :=
  (ref08Get fu b (0 : Int)).bind fun r1 =>
  cond (r1.2.2.1 != (0 : Int)) (
    some (((0 : Int), (0 : Int), (0 : Int), (0 : Int), (0 : Int), [], ()), r1.2.2.1, ())) (
    let t2 := decide (r1.2.1 < (b.length : Int))
    cond t2 (
      some (((0 : Int), (0 : Int), (0 : Int), (0 : Int), (0 : Int), [], ()), (2 : Int), ())) (
      (ref20Body fu r1.1).bind fun r3 =>
      some (r3.1, r3.2.1, ())))

noncomputable def ref20Get.body : Code := Tryd.f15.body.getD .skip
noncomputable def ref20Get.con : Con := { ps := [(.slice (.int .u8))], rs := [kS0, (.int .i64)], f := fun n x => ref20Get n x.1 }
noncomputable def ref20Get.env : Env := { tys := [(26, ⟨kS0, 56⟩), (3, ⟨(.int .i64), 8⟩), (5, ⟨(.int .u8), 1⟩)], elems := [(24, 5)], ptrs := [], cons := [(32, ref08Get.con), (33, ref20Body.con)], objs := [], loops := [], cuts := [], globs := globs, base := 0 }
noncomputable def ref20Get.lp (n : Nat) : LP (Kd.struct ref20Get.con.rs).T := fun lo κ body nm K s =>
  loops n (Kd.struct ref20Get.con.rs).T lo κ body nm K s
theorem ref20Get.eq (n : Nat) (x : (Kd.struct ref20Get.con.ps).T) : evFunc ref20Get.env Tryd.f15 ref20Get.body ref20Get.con.ps ref20Get.con.rs (ref20Get.lp n) n x = ref20Get.con.f n x := by kernel_rfl
theorem ref20Get.sound : Sound Tryd.prog globs 15 ref20Get.con :=
  sound_by (E := ref20Get.env) (c := ref20Get.body) (envOk (G := globs) (lc := [(32, ref08Get.con), (33, ref20Body.con)]) (lo := []) (envB_spec (by kernel_rfl)) rfl rfl ⟨.inl ⟨ref08Get.sound, by kernel_rfl⟩, ⟨.inl ⟨ref20Body.sound, by kernel_rfl⟩, trivial⟩⟩ rfl trivial (by kernel_rfl) (by kernel_rfl)) Tryd.func15 (by kernel_rfl) ref20Get.lp (l := []) (by kernel_rfl) (fun n => trivial) ref20Get.eq
noncomputable def ref20Same (fu : Nat) (a : S0) (b : S0) : Option (Bool × Unit) :=
  cond (a.1 == b.1) (
    cond (a.2.1 == b.2.1) (
      cond (a.2.2.1 == b.2.2.1) (
        cond (a.2.2.2.1 == b.2.2.2.1) (
          let t1 := a.2.2.2.2.1 == b.2.2.2.2.1
          cond t1 (
            let t2 := a.2.2.2.2.2.1 == b.2.2.2.2.2.1
            some (t2, ())) (
            some (false, ()))) (
          some (false, ()))) (
        some (false, ()))) (
      some (false, ()))) (
    some (false, ()))

noncomputable def ref20Same.body : Code := Tryd.f10.body.getD .skip
noncomputable def ref20Same.con : Con := { ps := [kS0, kS0], rs := [.bool], f := fun n x => ref20Same n x.1 x.2.1 }
noncomputable def ref20Same.env : Env := { tys := [(26, ⟨kS0, 56⟩), (4, ⟨.bool, 1⟩), (5, ⟨(.int .u8), 1⟩), (22, ⟨(.int .u32), 4⟩), (23, ⟨(.int .u64), 8⟩), (24, ⟨(.slice (.int .u8)), 24⟩), (9, ⟨.str, 16⟩)], elems := [(24, 5)], ptrs := [], cons := [], objs := [], loops := [], cuts := [], globs := globs, base := 0 }
noncomputable def ref20Same.lp (n : Nat) : LP (Kd.struct ref20Same.con.rs).T := fun lo κ body nm K s =>
  loops n (Kd.struct ref20Same.con.rs).T lo κ body nm K s
theorem ref20Same.eq (n : Nat) (x : (Kd.struct ref20Same.con.ps).T) : evFunc ref20Same.env Tryd.f10 ref20Same.body ref20Same.con.ps ref20Same.con.rs (ref20Same.lp n) n x = ref20Same.con.f n x := by kernel_rfl
theorem ref20Same.sound : Sound Tryd.prog globs 10 ref20Same.con :=
  sound_by (E := ref20Same.env) (c := ref20Same.body) (envOk (G := globs) (lc := []) (lo := []) (envB_spec (by kernel_rfl)) rfl rfl trivial rfl trivial (by kernel_rfl) (by kernel_rfl)) Tryd.func10 (by kernel_rfl) ref20Same.lp (l := []) (by kernel_rfl) (fun n => trivial) ref20Same.eq
noncomputable def frameMay (fu : Nat) (f : S0) : Option (Bool × Unit) :=
  (framePut fu f).bind fun r1 =>
  some (r1.2.1 == (0 : Int), ())

noncomputable def frameMay.body : Code := Tryd.f13.body.getD .skip
noncomputable def frameMay.con : Con := { ps := [kS0], rs := [.bool], f := fun n x => frameMay n x.1 }
noncomputable def frameMay.env : Env := { tys := [(26, ⟨kS0, 56⟩), (4, ⟨.bool, 1⟩)], elems := [], ptrs := [], cons := [(11, framePut.con)], objs := [], loops := [], cuts := [], globs := globs, base := 0 }
noncomputable def frameMay.lp (n : Nat) : LP (Kd.struct frameMay.con.rs).T := fun lo κ body nm K s =>
  loops n (Kd.struct frameMay.con.rs).T lo κ body nm K s
theorem frameMay.eq (n : Nat) (x : (Kd.struct frameMay.con.ps).T) : evFunc frameMay.env Tryd.f13 frameMay.body frameMay.con.ps frameMay.con.rs (frameMay.lp n) n x = frameMay.con.f n x := by kernel_rfl
theorem frameMay.sound : Sound Tryd.prog globs 13 frameMay.con :=
  sound_by (E := frameMay.env) (c := frameMay.body) (envOk (G := globs) (lc := [(11, framePut.con)]) (lo := []) (envB_spec (by kernel_rfl)) rfl rfl ⟨.inl ⟨framePut.sound, by kernel_rfl⟩, trivial⟩ rfl trivial (by kernel_rfl) (by kernel_rfl)) Tryd.func13 (by kernel_rfl) frameMay.lp (l := []) (by kernel_rfl) (fun n => trivial) frameMay.eq
noncomputable def law20FrameGets (fu : Nat) (b : List Int) : Option (Bool × Unit) :=
  let t1 := decide ((b.length : Int) > (5000 : Int))
  cond t1 (
    (law20Fixed fu).bind fun r2 =>
    some (r2.1, ())) (
    (frameGet fu b).bind fun r3 =>
    (ref20Get fu b).bind fun r4 =>
    (law20Fixed fu).bind fun r5 =>
    cond (!r5.1) (
      some (false, ())) (
      (ref20Same fu r3.1 r4.1).bind fun r6 =>
      cond (!r6.1) (
        some (false, ())) (
        cond (r3.2.1 != r4.2.1) (
          some (false, ())) (
          cond (r3.2.1 != (0 : Int)) (
            some (true, ())) (
            (framePut fu r3.1).bind fun r7 =>
            cond (r7.2.1 == (0 : Int)) (
              (frameMay fu r3.1).bind fun r8 =>
              cond r8.1 (
                some (r7.1 == b, ())) (
                some (false, ()))) (
              some (false, ())))))))

noncomputable def law20FrameGets.body : Code := Tryd.f5.body.getD .skip
noncomputable def law20FrameGets.con : Con := { ps := [(.slice (.int .u8))], rs := [.bool], f := fun n x => law20FrameGets n x.1 }
noncomputable def law20FrameGets.env : Env := { tys := [(4, ⟨.bool, 1⟩), (5, ⟨(.int .u8), 1⟩), (26, ⟨kS0, 56⟩), (9, ⟨.str, 16⟩), (24, ⟨(.slice (.int .u8)), 24⟩)], elems := [(24, 5)], ptrs := [], cons := [(8, law20Fixed.con), (14, frameGet.con), (15, ref20Get.con), (10, ref20Same.con), (11, framePut.con), (13, frameMay.con)], objs := [], loops := [], cuts := [], globs := globs, base := 0 }
noncomputable def law20FrameGets.lp (n : Nat) : LP (Kd.struct law20FrameGets.con.rs).T := fun lo κ body nm K s =>
  loops n (Kd.struct law20FrameGets.con.rs).T lo κ body nm K s
theorem law20FrameGets.eq (n : Nat) (x : (Kd.struct law20FrameGets.con.ps).T) : evFunc law20FrameGets.env Tryd.f5 law20FrameGets.body law20FrameGets.con.ps law20FrameGets.con.rs (law20FrameGets.lp n) n x = law20FrameGets.con.f n x := by kernel_rfl
theorem law20FrameGets.sound : Sound Tryd.prog globs 5 law20FrameGets.con :=
  sound_by (E := law20FrameGets.env) (c := law20FrameGets.body) (envOk (G := globs) (lc := [(8, law20Fixed.con), (14, frameGet.con), (15, ref20Get.con), (10, ref20Same.con), (11, framePut.con), (13, frameMay.con)]) (lo := []) (envB_spec (by kernel_rfl)) rfl rfl ⟨.inl ⟨law20Fixed.sound, by kernel_rfl⟩, ⟨.inl ⟨frameGet.sound, by kernel_rfl⟩, ⟨.inl ⟨ref20Get.sound, by kernel_rfl⟩, ⟨.inl ⟨ref20Same.sound, by kernel_rfl⟩, ⟨.inl ⟨framePut.sound, by kernel_rfl⟩, ⟨.inl ⟨frameMay.sound, by kernel_rfl⟩, trivial⟩⟩⟩⟩⟩⟩ rfl trivial (by kernel_rfl) (by kernel_rfl)) Tryd.func5 (by kernel_rfl) law20FrameGets.lp (l := []) (by kernel_rfl) (fun n => trivial) law20FrameGets.eq
end
end Go.Shal.Pr
