/- Prints of functions, and proofs that they are what the code computes. By an AI agent. -/
import Derived.Test.YtocfcfaeboemcaaDoorShC
import Derived.Test.YtocfcfaeboemcaaDoorProg
set_option linter.unusedVariables false
set_option maxRecDepth 100000
namespace Go.Shal.Pr
open Go Go.Shal Go.Proofs
noncomputable section
def tabCrcHalves : List Int := [0, 498536548, 997073096, 651767980, 1994146192, 1802195444, 1303535960, 1342533948, 3988292384, 4027552580, 3604390888, 3412177804, 2607071920, 2262029012, 2685067896, 3183342108]
def tabFrameFields : List Int := [0, 17, 7, 21, 5, 31, 7, 7, 7, 7, 7, 5, 21, 4, 4, 1, 4, 15]
def globs : Globs := [(1, ⟨(.arr 16 (.int .u32)), tabCrcHalves⟩), (0, ⟨(.arr 18 (.int .u8)), tabFrameFields⟩)]
abbrev kS0 : Kd := .struct [(.int .u8), (.int .u32), (.int .u32), (.int .u64), (.int .u64), (.slice (.int .u8))]
abbrev S0 : Type := Int × Int × Int × Int × Int × (List Int) × Unit
abbrev kS1 : Kd := .struct [(.int .u8), (.int .u64)]
abbrev S1 : Type := Int × Int × Unit
noncomputable def frameOf (fu : Nat) (kind : Int) : Option (Int × Bool × Unit) :=
  let t1 := decide (kind < (1 : Int))
  cond t1 (
    some ((0 : Int), false, ())) (
    let t2 := decide (kind > (17 : Int))
    cond t2 (
      some ((0 : Int), false, ())) (
      chk (ixArr 18 kind) <|
      let e3 := ixL (0 : Int) tabFrameFields kind
      some (e3, true, ())))

noncomputable def frameOf.body : Code := Tryd.f36.body.getD .skip
noncomputable def frameOf.con : Con := { ps := [(.int .u8)], rs := [(.int .u8), .bool], f := fun n x => frameOf n x.1 }
noncomputable def frameOf.env : Env := { tys := [(5, ⟨(.int .u8), 1⟩), (4, ⟨.bool, 1⟩), (91, ⟨(.arr 18 (.int .u8)), 18⟩)], elems := [], ptrs := [], cons := [], objs := [], loops := [], cuts := [], globs := globs, base := 0 }
noncomputable def frameOf.lp (n : Nat) : LP (Kd.struct frameOf.con.rs).T := fun lo κ body nm K s =>
  loops n (Kd.struct frameOf.con.rs).T lo κ body nm K s
theorem frameOf.eq (n : Nat) (x : (Kd.struct frameOf.con.ps).T) : evFunc frameOf.env Tryd.f36 frameOf.body frameOf.con.ps frameOf.con.rs (frameOf.lp n) n x = frameOf.con.f n x := by kernel_rfl
theorem frameOf.sound : Sound Tryd.prog globs 36 frameOf.con :=
  sound_by (E := frameOf.env) (c := frameOf.body) (envOk (G := globs) (lc := []) (lo := []) (envB_spec (by kernel_rfl)) rfl rfl trivial rfl trivial (by kernel_rfl) (by kernel_rfl)) Tryd.func36 (by kernel_rfl) frameOf.lp (l := []) (by kernel_rfl) (fun n => trivial) frameOf.eq
noncomputable def frameHas (fu : Nat) (l : Int) (field : Int) : Option (Bool × Unit) :=
  let t1 := bAnd .u8 l field != (0 : Int)
  some (t1, ())

noncomputable def frameHas.body : Code := Tryd.f37.body.getD .skip
noncomputable def frameHas.con : Con := { ps := [(.int .u8), (.int .u8)], rs := [.bool], f := fun n x => frameHas n x.1 x.2.1 }
noncomputable def frameHas.env : Env := { tys := [(4, ⟨.bool, 1⟩)], elems := [], ptrs := [], cons := [], objs := [], loops := [], cuts := [], globs := globs, base := 0 }
noncomputable def frameHas.lp (n : Nat) : LP (Kd.struct frameHas.con.rs).T := fun lo κ body nm K s =>
  loops n (Kd.struct frameHas.con.rs).T lo κ body nm K s
theorem frameHas.eq (n : Nat) (x : (Kd.struct frameHas.con.ps).T) : evFunc frameHas.env Tryd.f37 frameHas.body frameHas.con.ps frameHas.con.rs (frameHas.lp n) n x = frameHas.con.f n x := by kernel_rfl
theorem frameHas.sound : Sound Tryd.prog globs 37 frameHas.con :=
  sound_by (E := frameHas.env) (c := frameHas.body) (envOk (G := globs) (lc := []) (lo := []) (envB_spec (by kernel_rfl)) rfl rfl trivial rfl trivial (by kernel_rfl) (by kernel_rfl)) Tryd.func37 (by kernel_rfl) frameHas.lp (l := []) (by kernel_rfl) (fun n => trivial) frameHas.eq
noncomputable def framePlain (fu : Nat) (f : S0) : Option (Bool × Unit) :=
  (frameOf fu f.1).bind fun r1 =>
  cond r1.2.1 (
    (frameHas fu r1.1 (1 : Int)).bind fun r2 =>
    cond r2.1 (
      (frameHas fu r1.1 (2 : Int)).bind fun r3 =>
      cond r3.1 (
        (frameHas fu r1.1 (4 : Int)).bind fun r4 =>
        cond r4.1 (
          (frameHas fu r1.1 (8 : Int)).bind fun r5 =>
          cond r5.1 (
            (frameHas fu r1.1 (16 : Int)).bind fun r6 =>
            cond r6.1 (
              some (true, ())) (
              let t7 := (f.2.2.2.2.2.1.length : Int)
              some (t7 == (0 : Int), ()))) (
            cond (f.2.2.2.2.1 == (0 : Int)) (
              (frameHas fu r1.1 (16 : Int)).bind fun r8 =>
              cond r8.1 (
                some (true, ())) (
                let t9 := (f.2.2.2.2.2.1.length : Int)
                some (t9 == (0 : Int), ()))) (
              some (false, ())))) (
          cond (f.2.2.2.1 == (0 : Int)) (
            (frameHas fu r1.1 (8 : Int)).bind fun r10 =>
            cond r10.1 (
              (frameHas fu r1.1 (16 : Int)).bind fun r11 =>
              cond r11.1 (
                some (true, ())) (
                let t12 := (f.2.2.2.2.2.1.length : Int)
                some (t12 == (0 : Int), ()))) (
              cond (f.2.2.2.2.1 == (0 : Int)) (
                (frameHas fu r1.1 (16 : Int)).bind fun r13 =>
                cond r13.1 (
                  some (true, ())) (
                  let t14 := (f.2.2.2.2.2.1.length : Int)
                  some (t14 == (0 : Int), ()))) (
                some (false, ())))) (
            some (false, ())))) (
        cond (f.2.2.1 == (0 : Int)) (
          (frameHas fu r1.1 (4 : Int)).bind fun r15 =>
          cond r15.1 (
            (frameHas fu r1.1 (8 : Int)).bind fun r16 =>
            cond r16.1 (
              (frameHas fu r1.1 (16 : Int)).bind fun r17 =>
              cond r17.1 (
                some (true, ())) (
                let t18 := (f.2.2.2.2.2.1.length : Int)
                some (t18 == (0 : Int), ()))) (
              cond (f.2.2.2.2.1 == (0 : Int)) (
                (frameHas fu r1.1 (16 : Int)).bind fun r19 =>
                cond r19.1 (
                  some (true, ())) (
                  let t20 := (f.2.2.2.2.2.1.length : Int)
                  some (t20 == (0 : Int), ()))) (
                some (false, ())))) (
            cond (f.2.2.2.1 == (0 : Int)) (
              (frameHas fu r1.1 (8 : Int)).bind fun r21 =>
              cond r21.1 (
                (frameHas fu r1.1 (16 : Int)).bind fun r22 =>
                cond r22.1 (
                  some (true, ())) (
                  let t23 := (f.2.2.2.2.2.1.length : Int)
                  some (t23 == (0 : Int), ()))) (
                cond (f.2.2.2.2.1 == (0 : Int)) (
                  (frameHas fu r1.1 (16 : Int)).bind fun r24 =>
                  cond r24.1 (
                    some (true, ())) (
                    let t25 := (f.2.2.2.2.2.1.length : Int)
                    some (t25 == (0 : Int), ()))) (
                  some (false, ())))) (
              some (false, ())))) (
          some (false, ())))) (
      cond (f.2.1 == (0 : Int)) (
        (frameHas fu r1.1 (2 : Int)).bind fun r26 =>
        cond r26.1 (
          (frameHas fu r1.1 (4 : Int)).bind fun r27 =>
          cond r27.1 (
            (frameHas fu r1.1 (8 : Int)).bind fun r28 =>
            cond r28.1 (
              (frameHas fu r1.1 (16 : Int)).bind fun r29 =>
              cond r29.1 (
                some (true, ())) (
                let t30 := (f.2.2.2.2.2.1.length : Int)
                some (t30 == (0 : Int), ()))) (
              cond (f.2.2.2.2.1 == (0 : Int)) (
                (frameHas fu r1.1 (16 : Int)).bind fun r31 =>
                cond r31.1 (
                  some (true, ())) (
                  let t32 := (f.2.2.2.2.2.1.length : Int)
                  some (t32 == (0 : Int), ()))) (
                some (false, ())))) (
            cond (f.2.2.2.1 == (0 : Int)) (
              (frameHas fu r1.1 (8 : Int)).bind fun r33 =>
              cond r33.1 (
                (frameHas fu r1.1 (16 : Int)).bind fun r34 =>
                cond r34.1 (
                  some (true, ())) (
                  let t35 := (f.2.2.2.2.2.1.length : Int)
                  some (t35 == (0 : Int), ()))) (
                cond (f.2.2.2.2.1 == (0 : Int)) (
                  (frameHas fu r1.1 (16 : Int)).bind fun r36 =>
                  cond r36.1 (
                    some (true, ())) (
                    let t37 := (f.2.2.2.2.2.1.length : Int)
                    some (t37 == (0 : Int), ()))) (
                  some (false, ())))) (
              some (false, ())))) (
          cond (f.2.2.1 == (0 : Int)) (
            (frameHas fu r1.1 (4 : Int)).bind fun r38 =>
            cond r38.1 (
              (frameHas fu r1.1 (8 : Int)).bind fun r39 =>
              cond r39.1 (
                (frameHas fu r1.1 (16 : Int)).bind fun r40 =>
                cond r40.1 (
                  some (true, ())) (
                  let t41 := (f.2.2.2.2.2.1.length : Int)
                  some (t41 == (0 : Int), ()))) (
                cond (f.2.2.2.2.1 == (0 : Int)) (
                  (frameHas fu r1.1 (16 : Int)).bind fun r42 =>
                  cond r42.1 (
                    some (true, ())) (
                    let t43 := (f.2.2.2.2.2.1.length : Int)
                    some (t43 == (0 : Int), ()))) (
                  some (false, ())))) (
              cond (f.2.2.2.1 == (0 : Int)) (
                (frameHas fu r1.1 (8 : Int)).bind fun r44 =>
                cond r44.1 (
                  (frameHas fu r1.1 (16 : Int)).bind fun r45 =>
                  cond r45.1 (
                    some (true, ())) (
                    let t46 := (f.2.2.2.2.2.1.length : Int)
                    some (t46 == (0 : Int), ()))) (
                  cond (f.2.2.2.2.1 == (0 : Int)) (
                    (frameHas fu r1.1 (16 : Int)).bind fun r47 =>
                    cond r47.1 (
                      some (true, ())) (
                      let t48 := (f.2.2.2.2.2.1.length : Int)
                      some (t48 == (0 : Int), ()))) (
                    some (false, ())))) (
                some (false, ())))) (
            some (false, ())))) (
        some (false, ())))) (
    some (false, ()))

noncomputable def framePlain.body : Code := Tryd.f23.body.getD .skip
noncomputable def framePlain.con : Con := { ps := [kS0], rs := [.bool], f := fun n x => framePlain n x.1 }
noncomputable def framePlain.env : Env := { tys := [(26, ⟨kS0, 56⟩), (4, ⟨.bool, 1⟩), (5, ⟨(.int .u8), 1⟩), (24, ⟨(.slice (.int .u8)), 24⟩), (23, ⟨(.int .u64), 8⟩), (22, ⟨(.int .u32), 4⟩)], elems := [(24, 5)], ptrs := [], cons := [(36, frameOf.con), (37, frameHas.con)], objs := [], loops := [], cuts := [], globs := globs, base := 0 }
noncomputable def framePlain.lp (n : Nat) : LP (Kd.struct framePlain.con.rs).T := fun lo κ body nm K s =>
  loops n (Kd.struct framePlain.con.rs).T lo κ body nm K s
theorem framePlain.eq (n : Nat) (x : (Kd.struct framePlain.con.ps).T) : evFunc framePlain.env Tryd.f23 framePlain.body framePlain.con.ps framePlain.con.rs (framePlain.lp n) n x = framePlain.con.f n x := by kernel_rfl
theorem framePlain.sound : Sound Tryd.prog globs 23 framePlain.con :=
  sound_by (E := framePlain.env) (c := framePlain.body) (envOk (G := globs) (lc := [(36, frameOf.con), (37, frameHas.con)]) (lo := []) (envB_spec (by kernel_rfl)) rfl rfl ⟨.inl ⟨frameOf.sound, by kernel_rfl⟩, ⟨.inl ⟨frameHas.sound, by kernel_rfl⟩, trivial⟩⟩ rfl trivial (by kernel_rfl) (by kernel_rfl)) Tryd.func23 (by kernel_rfl) framePlain.lp (l := []) (by kernel_rfl) (fun n => trivial) framePlain.eq
noncomputable def bitsLen64.j7 (fu : Nat) (k1 : Int → Option (Int × Unit)) (xv : Int) (n : Int) : Option (Int × Unit) :=
  let t1 := decide (xv ≥ (256 : Int))
  cond t1 (
    let t2 := IntKind.i64.wrap (n + (8 : Int))
    let t3 := IntKind.u8.wrap (sShr .u64 xv (8 : Int))
    chk (ixOk ([0, 1, 2, 2, 3, 3, 3, 3, 4, 4, 4, 4, 4, 4, 4, 4, 5, 5, 5, 5, 5, 5, 5, 5, 5, 5, 5, 5, 5, 5, 5, 5, 6, 6, 6, 6, 6, 6, 6, 6, 6, 6, 6, 6, 6, 6, 6, 6, 6, 6, 6, 6, 6, 6, 6, 6, 6, 6, 6, 6, 6, 6, 6, 6, 7, 7, 7, 7, 7, 7, 7, 7, 7, 7, 7, 7, 7, 7, 7, 7, 7, 7, 7, 7, 7, 7, 7, 7, 7, 7, 7, 7, 7, 7, 7, 7, 7, 7, 7, 7, 7, 7, 7, 7, 7, 7, 7, 7, 7, 7, 7, 7, 7, 7, 7, 7, 7, 7, 7, 7, 7, 7, 7, 7, 7, 7, 7, 7, 8, 8, 8, 8, 8, 8, 8, 8, 8, 8, 8, 8, 8, 8, 8, 8, 8, 8, 8, 8, 8, 8, 8, 8, 8, 8, 8, 8, 8, 8, 8, 8, 8, 8, 8, 8, 8, 8, 8, 8, 8, 8, 8, 8, 8, 8, 8, 8, 8, 8, 8, 8, 8, 8, 8, 8, 8, 8, 8, 8, 8, 8, 8, 8, 8, 8, 8, 8, 8, 8, 8, 8, 8, 8, 8, 8, 8, 8, 8, 8, 8, 8, 8, 8, 8, 8, 8, 8, 8, 8, 8, 8, 8, 8, 8, 8, 8, 8, 8, 8, 8, 8, 8, 8, 8, 8, 8, 8, 8, 8, 8, 8, 8, 8, 8, 8, 8, 8, 8, 8, 8, 8, 8, 8, 8, 8, 8, 8] : List Int) t3) <|
    let t4 := ixL (0 : Int) ([0, 1, 2, 2, 3, 3, 3, 3, 4, 4, 4, 4, 4, 4, 4, 4, 5, 5, 5, 5, 5, 5, 5, 5, 5, 5, 5, 5, 5, 5, 5, 5, 6, 6, 6, 6, 6, 6, 6, 6, 6, 6, 6, 6, 6, 6, 6, 6, 6, 6, 6, 6, 6, 6, 6, 6, 6, 6, 6, 6, 6, 6, 6, 6, 7, 7, 7, 7, 7, 7, 7, 7, 7, 7, 7, 7, 7, 7, 7, 7, 7, 7, 7, 7, 7, 7, 7, 7, 7, 7, 7, 7, 7, 7, 7, 7, 7, 7, 7, 7, 7, 7, 7, 7, 7, 7, 7, 7, 7, 7, 7, 7, 7, 7, 7, 7, 7, 7, 7, 7, 7, 7, 7, 7, 7, 7, 7, 7, 8, 8, 8, 8, 8, 8, 8, 8, 8, 8, 8, 8, 8, 8, 8, 8, 8, 8, 8, 8, 8, 8, 8, 8, 8, 8, 8, 8, 8, 8, 8, 8, 8, 8, 8, 8, 8, 8, 8, 8, 8, 8, 8, 8, 8, 8, 8, 8, 8, 8, 8, 8, 8, 8, 8, 8, 8, 8, 8, 8, 8, 8, 8, 8, 8, 8, 8, 8, 8, 8, 8, 8, 8, 8, 8, 8, 8, 8, 8, 8, 8, 8, 8, 8, 8, 8, 8, 8, 8, 8, 8, 8, 8, 8, 8, 8, 8, 8, 8, 8, 8, 8, 8, 8, 8, 8, 8, 8, 8, 8, 8, 8, 8, 8, 8, 8, 8, 8, 8, 8, 8, 8, 8, 8, 8, 8, 8, 8] : List Int) t3
    let t5 := IntKind.i64.wrap (t2 + IntKind.i64.wrap t4)
    k1 t5) (
    chk (ixOk ([0, 1, 2, 2, 3, 3, 3, 3, 4, 4, 4, 4, 4, 4, 4, 4, 5, 5, 5, 5, 5, 5, 5, 5, 5, 5, 5, 5, 5, 5, 5, 5, 6, 6, 6, 6, 6, 6, 6, 6, 6, 6, 6, 6, 6, 6, 6, 6, 6, 6, 6, 6, 6, 6, 6, 6, 6, 6, 6, 6, 6, 6, 6, 6, 7, 7, 7, 7, 7, 7, 7, 7, 7, 7, 7, 7, 7, 7, 7, 7, 7, 7, 7, 7, 7, 7, 7, 7, 7, 7, 7, 7, 7, 7, 7, 7, 7, 7, 7, 7, 7, 7, 7, 7, 7, 7, 7, 7, 7, 7, 7, 7, 7, 7, 7, 7, 7, 7, 7, 7, 7, 7, 7, 7, 7, 7, 7, 7, 8, 8, 8, 8, 8, 8, 8, 8, 8, 8, 8, 8, 8, 8, 8, 8, 8, 8, 8, 8, 8, 8, 8, 8, 8, 8, 8, 8, 8, 8, 8, 8, 8, 8, 8, 8, 8, 8, 8, 8, 8, 8, 8, 8, 8, 8, 8, 8, 8, 8, 8, 8, 8, 8, 8, 8, 8, 8, 8, 8, 8, 8, 8, 8, 8, 8, 8, 8, 8, 8, 8, 8, 8, 8, 8, 8, 8, 8, 8, 8, 8, 8, 8, 8, 8, 8, 8, 8, 8, 8, 8, 8, 8, 8, 8, 8, 8, 8, 8, 8, 8, 8, 8, 8, 8, 8, 8, 8, 8, 8, 8, 8, 8, 8, 8, 8, 8, 8, 8, 8, 8, 8, 8, 8, 8, 8, 8, 8] : List Int) (IntKind.u8.wrap xv)) <|
    let t6 := ixL (0 : Int) ([0, 1, 2, 2, 3, 3, 3, 3, 4, 4, 4, 4, 4, 4, 4, 4, 5, 5, 5, 5, 5, 5, 5, 5, 5, 5, 5, 5, 5, 5, 5, 5, 6, 6, 6, 6, 6, 6, 6, 6, 6, 6, 6, 6, 6, 6, 6, 6, 6, 6, 6, 6, 6, 6, 6, 6, 6, 6, 6, 6, 6, 6, 6, 6, 7, 7, 7, 7, 7, 7, 7, 7, 7, 7, 7, 7, 7, 7, 7, 7, 7, 7, 7, 7, 7, 7, 7, 7, 7, 7, 7, 7, 7, 7, 7, 7, 7, 7, 7, 7, 7, 7, 7, 7, 7, 7, 7, 7, 7, 7, 7, 7, 7, 7, 7, 7, 7, 7, 7, 7, 7, 7, 7, 7, 7, 7, 7, 7, 8, 8, 8, 8, 8, 8, 8, 8, 8, 8, 8, 8, 8, 8, 8, 8, 8, 8, 8, 8, 8, 8, 8, 8, 8, 8, 8, 8, 8, 8, 8, 8, 8, 8, 8, 8, 8, 8, 8, 8, 8, 8, 8, 8, 8, 8, 8, 8, 8, 8, 8, 8, 8, 8, 8, 8, 8, 8, 8, 8, 8, 8, 8, 8, 8, 8, 8, 8, 8, 8, 8, 8, 8, 8, 8, 8, 8, 8, 8, 8, 8, 8, 8, 8, 8, 8, 8, 8, 8, 8, 8, 8, 8, 8, 8, 8, 8, 8, 8, 8, 8, 8, 8, 8, 8, 8, 8, 8, 8, 8, 8, 8, 8, 8, 8, 8, 8, 8, 8, 8, 8, 8, 8, 8, 8, 8, 8, 8] : List Int) (IntKind.u8.wrap xv)
    let t7 := IntKind.i64.wrap (n + IntKind.i64.wrap t6)
    k1 t7)
noncomputable def bitsLen64.j4 (fu : Nat) (k1 : Int → Option (Int × Unit)) (xv : Int) (n : Int) : Option (Int × Unit) :=
  let t1 := decide (xv ≥ (65536 : Int))
  cond t1 (
    let t2 := IntKind.i64.wrap (n + (16 : Int))
    bitsLen64.j7 fu (fun nq3 => 
        k1 nq3) (sShr .u64 xv (16 : Int)) t2) (
    bitsLen64.j7 fu (fun nq4 => 
        k1 nq4) xv n)
noncomputable def bitsLen64 (fu : Nat) (xv : Int) : Option (Int × Unit) :=
  let t1 := decide (xv ≥ (4294967296 : Int))
  cond t1 (
    bitsLen64.j4 fu (fun nq1 => 
        some (nq1, ())) (sShr .u64 xv (32 : Int)) (32 : Int)) (
    bitsLen64.j4 fu (fun nq2 => 
        some (nq2, ())) xv (0 : Int))

noncomputable def bitsLen64.body : Code := Tryd.f59.body.getD .skip
abbrev bitsLen64.shj7 : Shp := ⟨[.d (.int .u64), .u, .d (.int .i64), .u, .u, .u, .u, .u, .u, .u, .u, .u, .u, .u, .u, .u, .u, .u, .u, .u, .u, .u, .u, .u, .u], []⟩
abbrev bitsLen64.outj7e1 : Shp := ⟨[.u, .u, .d (.int .i64), .u, .u, .u, .u, .u, .u, .u, .u, .u, .u, .u, .u, .u, .u, .u, .u, .u, .u, .u, .u, .u, .u], []⟩
noncomputable def bitsLen64.nmj7 : Norm := ⟨{ keep := [0, 2], shut := [(0, (.int .u64)), (2, (.int .i64))], retag := [], heap := 0, dead := [], cshut := [], cretag := [] }, [(1, { keep := [2], shut := [(2, (.int .i64))], retag := [], heap := 0, dead := [], cshut := [], cretag := [] })]⟩
abbrev bitsLen64.shj4 : Shp := ⟨[.d (.int .u64), .u, .d (.int .i64), .u, .u, .u, .u, .u, .u, .u, .u, .u, .u, .u, .u, .u, .u, .u, .u, .u, .u, .u, .u, .u, .u], []⟩
abbrev bitsLen64.outj4e1 : Shp := ⟨[.u, .u, .d (.int .i64), .u, .u, .u, .u, .u, .u, .u, .u, .u, .u, .u, .u, .u, .u, .u, .u, .u, .u, .u, .u, .u, .u], []⟩
noncomputable def bitsLen64.nmj4 : Norm := ⟨{ keep := [0, 2], shut := [(0, (.int .u64)), (2, (.int .i64))], retag := [], heap := 0, dead := [], cshut := [], cretag := [] }, [(1, { keep := [2], shut := [(2, (.int .i64))], retag := [], heap := 0, dead := [], cshut := [], cretag := [] })]⟩
noncomputable def bitsLen64.con : Con := { ps := [(.int .u64)], rs := [(.int .i64)], f := fun n x => bitsLen64 n x.1 }
noncomputable def bitsLen64.env : Env := { tys := [(3, ⟨(.int .i64), 8⟩), (5, ⟨(.int .u8), 1⟩), (23, ⟨(.int .u64), 8⟩), (9, ⟨.str, 16⟩)], elems := [], ptrs := [], cons := [], objs := [], loops := [], cuts := [(7, bitsLen64.nmj7), (4, bitsLen64.nmj4)], globs := globs, base := 0 }
noncomputable def bitsLen64.lp (n : Nat) : LP (Kd.struct bitsLen64.con.rs).T := fun lo κ body nm K s =>
  cond (!lo && Nat.beq κ 7)
    (match bitsLen64.shj7.dec s with
    | some v => bitsLen64.j7 n (fun w0 => K .ret (bitsLen64.outj7e1.enc (w0, ()))) v.1 v.2.1
    | none => loops n (Kd.struct bitsLen64.con.rs).T lo κ body nm K s)
    (cond (!lo && Nat.beq κ 4)
    (match bitsLen64.shj4.dec s with
    | some v => bitsLen64.j4 n (fun w0 => K .ret (bitsLen64.outj4e1.enc (w0, ()))) v.1 v.2.1
    | none => loops n (Kd.struct bitsLen64.con.rs).T lo κ body nm K s)
    (loops n (Kd.struct bitsLen64.con.rs).T lo κ body nm K s))
theorem bitsLen64.atj7 (n : Nat) (s : St) (K : Ex → St → Option (Kd.struct bitsLen64.con.rs).T) : bitsLen64.lp n false 7 (evK bitsLen64.env (bitsLen64.lp n) n (sub [1, 1, 1] bitsLen64.body)) bitsLen64.nmj7 K s = loops n (Kd.struct bitsLen64.con.rs).T false 7 (evK bitsLen64.env (bitsLen64.lp n) n (sub [1, 1, 1] bitsLen64.body)) bitsLen64.nmj7 K s := by
  show (match bitsLen64.shj7.dec s with | some v => bitsLen64.j7 n (fun w0 => K .ret (bitsLen64.outj7e1.enc (w0, ()))) v.1 v.2.1 | none => loops n (Kd.struct bitsLen64.con.rs).T false 7 (evK bitsLen64.env (bitsLen64.lp n) n (sub [1, 1, 1] bitsLen64.body)) bitsLen64.nmj7 K s) = _
  cases h : bitsLen64.shj7.dec s with
  | none => rfl
  | some v =>
    rw [Shp.dec_enc h]
    kernel_rfl
theorem bitsLen64.atj4 (n : Nat) (s : St) (K : Ex → St → Option (Kd.struct bitsLen64.con.rs).T) : bitsLen64.lp n false 4 (evK bitsLen64.env (bitsLen64.lp n) n (sub [1, 1] bitsLen64.body)) bitsLen64.nmj4 K s = loops n (Kd.struct bitsLen64.con.rs).T false 4 (evK bitsLen64.env (bitsLen64.lp n) n (sub [1, 1] bitsLen64.body)) bitsLen64.nmj4 K s := by
  show (match bitsLen64.shj4.dec s with | some v => bitsLen64.j4 n (fun w0 => K .ret (bitsLen64.outj4e1.enc (w0, ()))) v.1 v.2.1 | none => loops n (Kd.struct bitsLen64.con.rs).T false 4 (evK bitsLen64.env (bitsLen64.lp n) n (sub [1, 1] bitsLen64.body)) bitsLen64.nmj4 K s) = _
  cases h : bitsLen64.shj4.dec s with
  | none => rfl
  | some v =>
    rw [Shp.dec_enc h]
    kernel_rfl
theorem bitsLen64.eq (n : Nat) (x : (Kd.struct bitsLen64.con.ps).T) : evFunc bitsLen64.env Tryd.f59 bitsLen64.body bitsLen64.con.ps bitsLen64.con.rs (bitsLen64.lp n) n x = bitsLen64.con.f n x := by kernel_rfl
theorem bitsLen64.sound : Sound Tryd.prog globs 59 bitsLen64.con :=
  sound_by (E := bitsLen64.env) (c := bitsLen64.body) (envOk (G := globs) (lc := []) (lo := []) (envB_spec (by kernel_rfl)) rfl rfl trivial rfl trivial (by kernel_rfl) (by kernel_rfl)) Tryd.func59 (by kernel_rfl) bitsLen64.lp (l := [(false, sub [1, 1, 1] bitsLen64.body, bitsLen64.nmj7), (false, sub [1, 1] bitsLen64.body, bitsLen64.nmj4)]) (by kernel_rfl) (fun n => ⟨bitsLen64.atj7 n, ⟨bitsLen64.atj4 n, trivial⟩⟩) bitsLen64.eq
noncomputable def packSize (fu : Nat) (n : Int) : Option (Int × Unit) :=
  (bitsLen64 fu n).bind fun r1 =>
  let t2 := IntKind.i64.wrap (max2 r1.1 (1 : Int) + (6 : Int))
  let t3 := IntKind.i64.wrap (Int.tdiv t2 (7 : Int))
  some (t3, ())

noncomputable def packSize.body : Code := Tryd.f54.body.getD .skip
noncomputable def packSize.con : Con := { ps := [(.int .u64)], rs := [(.int .i64)], f := fun n x => packSize n x.1 }
noncomputable def packSize.env : Env := { tys := [(3, ⟨(.int .i64), 8⟩)], elems := [], ptrs := [], cons := [(59, bitsLen64.con)], objs := [], loops := [], cuts := [], globs := globs, base := 0 }
noncomputable def packSize.lp (n : Nat) : LP (Kd.struct packSize.con.rs).T := fun lo κ body nm K s =>
  loops n (Kd.struct packSize.con.rs).T lo κ body nm K s
theorem packSize.eq (n : Nat) (x : (Kd.struct packSize.con.ps).T) : evFunc packSize.env Tryd.f54 packSize.body packSize.con.ps packSize.con.rs (packSize.lp n) n x = packSize.con.f n x := by kernel_rfl
theorem packSize.sound : Sound Tryd.prog globs 54 packSize.con :=
  sound_by (E := packSize.env) (c := packSize.body) (envOk (G := globs) (lc := [(59, bitsLen64.con)]) (lo := []) (envB_spec (by kernel_rfl)) rfl rfl ⟨.inl ⟨bitsLen64.sound, by kernel_rfl⟩, trivial⟩ rfl trivial (by kernel_rfl) (by kernel_rfl)) Tryd.func54 (by kernel_rfl) packSize.lp (l := []) (by kernel_rfl) (fun n => trivial) packSize.eq
noncomputable def packOwn (fu : Nat) (b : List Int) (room : Int) : Option (((List Int) × Unit) × (Unit)) :=
  let t1 := IntKind.i64.wrap ((b.length : Int) + room)
  chk (mkOk (0 : Int) t1 1) <|
  let t2 := List.replicate (0 : Int).toNat (0 : Int)
  chk (apOk t2 b 1) <|
  some ((t2 ++ b, ()), (()))

noncomputable def packOwn.body : Code := Tryd.f53.body.getD .skip
noncomputable def packOwn.con : OCon := { ps := [.dat (.slice (.int .u8)), .dat (.int .i64)], rs := [.own (.int .u8)], f := fun n x => packOwn n x.1 x.2.1 }
noncomputable def packOwn.env : Env := { tys := [(24, ⟨(.slice (.int .u8)), 24⟩), (5, ⟨(.int .u8), 1⟩)], elems := [(24, 5)], ptrs := [], cons := [], objs := [], loops := [], cuts := [], globs := globs, base := 0 }
noncomputable def packOwn.lp (n : Nat) : LP (RT packOwn.con.rs × BT packOwn.con.ps) := fun lo κ body nm K s =>
  loops n (RT packOwn.con.rs × BT packOwn.con.ps) lo κ body nm K s
theorem packOwn.eq (n : Nat) (x : PT packOwn.con.ps) : evFuncO packOwn.env Tryd.f53 packOwn.body packOwn.con.ps packOwn.con.rs (packOwn.lp n) n x = packOwn.con.f n x := by kernel_rfl
theorem packOwn.sound : SoundO Tryd.prog globs 53 packOwn.con :=
  sound_byO (E := packOwn.env) (c := packOwn.body) (envOk (G := globs) (lc := []) (lo := []) (envB_spec (by kernel_rfl)) rfl rfl trivial rfl trivial (by kernel_rfl) (by kernel_rfl)) Tryd.func53 (by kernel_rfl) (by kernel_rfl) (by kernel_rfl) packOwn.lp (l := []) (by kernel_rfl) (fun n => trivial) packOwn.eq
noncomputable def packPutDat.b2 (fu : Nat) (next : Int → (List Int) → Option ((List Int) × Unit)) (k2 : Int → (List Int) → Option ((List Int) × Unit)) (n : Int) (out : List Int) : Option ((List Int) × Unit) :=
  cond (decide (n ≥ (128 : Int))) (
    let t1 := bOr .u8 (IntKind.u8.wrap n) (128 : Int)
    chk (apOk out ([t1]) 1) <|
    next (sShr .u64 n (7 : Int)) (out ++ ([t1]))) (
    k2 n out)
noncomputable def packPutDat.l2 (fu : Nat) (k2 : Int → (List Int) → Option ((List Int) × Unit)) : Nat → Int → (List Int) → Option ((List Int) × Unit)
  | 0, _, _ => none
  | m + 1, n, out => packPutDat.b2 fu (packPutDat.l2 fu k2 m) k2 n out
noncomputable def packPutDat (fu : Nat) (b : List Int) (n : Int) : Option ((List Int) × Unit) :=
  (packSize fu n).bind fun r1 =>
  (packOwn fu b r1.1).bind fun r2 =>
  packPutDat.l2 fu (fun nq2 outq2 => 
      chk (apOk outq2 ([IntKind.u8.wrap nq2]) 1) <|
      let t3 := outq2 ++ ([IntKind.u8.wrap nq2])
      some (t3, ())) fu n r2.1.1

noncomputable def packPutDat.body : Code := Tryd.f38.body.getD .skip
abbrev packPutDat.shl2 : Shp := ⟨[.u, .d (.int .u64), .u, .u, .u, .o 5 (.int .u8), .u, .u, .u, .u, .u, .u, .u, .u, .u, .u, .u, .u, .u, .u, .u, .u, .u, .u, .u], []⟩
abbrev packPutDat.outl2e2 : Shp := ⟨[.u, .d (.int .u64), .u, .u, .u, .o 5 (.int .u8), .u, .u, .u, .u, .u, .u, .u, .u, .u, .u, .u, .u, .u, .u, .u, .u, .u, .u, .u], []⟩
noncomputable def packPutDat.nml2 : Norm := ⟨{ keep := [1, 5], shut := [(1, (.int .u64))], retag := [(5, 5, (.int .u8))], heap := 0, dead := [], cshut := [], cretag := [] }, [(2, { keep := [1, 5], shut := [(1, (.int .u64))], retag := [(5, 5, (.int .u8))], heap := 0, dead := [], cshut := [], cretag := [] })]⟩
noncomputable def packPutDat.con : Con := { ps := [(.slice (.int .u8)), (.int .u64)], rs := [(.slice (.int .u8))], f := fun n x => packPutDat n x.1 x.2.1 }
noncomputable def packPutDat.env : Env := { tys := [(24, ⟨(.slice (.int .u8)), 24⟩), (5, ⟨(.int .u8), 1⟩), (23, ⟨(.int .u64), 8⟩)], elems := [(24, 5)], ptrs := [], cons := [(54, packSize.con)], objs := [(53, [packOwn.con])], loops := [(2, packPutDat.nml2)], cuts := [], globs := globs, base := 0 }
noncomputable def packPutDat.lp (n : Nat) : LP (Kd.struct packPutDat.con.rs).T := fun lo κ body nm K s =>
  cond (lo && Nat.beq κ 2)
    (match packPutDat.shl2.dec s with
    | some v => packPutDat.l2 n (fun w0 w1 => K (.exit 0) (packPutDat.outl2e2.enc (w0, w1, ()))) n v.1 v.2.1
    | none => loops n (Kd.struct packPutDat.con.rs).T lo κ body nm K s)
    (loops n (Kd.struct packPutDat.con.rs).T lo κ body nm K s)
theorem packPutDat.atl2 (n : Nat) (s : St) (K : Ex → St → Option (Kd.struct packPutDat.con.rs).T) : packPutDat.lp n true 2 (evK packPutDat.env (packPutDat.lp n) n (sub [1, 1, 0, 0, 0] packPutDat.body)) packPutDat.nml2 K s = loops n (Kd.struct packPutDat.con.rs).T true 2 (evK packPutDat.env (packPutDat.lp n) n (sub [1, 1, 0, 0, 0] packPutDat.body)) packPutDat.nml2 K s := by
  show (match packPutDat.shl2.dec s with | some v => packPutDat.l2 n (fun w0 w1 => K (.exit 0) (packPutDat.outl2e2.enc (w0, w1, ()))) n v.1 v.2.1 | none => loops n (Kd.struct packPutDat.con.rs).T true 2 (evK packPutDat.env (packPutDat.lp n) n (sub [1, 1, 0, 0, 0] packPutDat.body)) packPutDat.nml2 K s) = _
  cases h : packPutDat.shl2.dec s with
  | none => rfl
  | some v =>
    rw [Shp.dec_enc h]
    exact (evLoop_eq (sh := packPutDat.shl2) (body := evK packPutDat.env (packPutDat.lp n) n (sub [1, 1, 0, 0, 0] packPutDat.body)) (nm := packPutDat.nml2) (K := K) (b := fun nx v => packPutDat.b2 n (fun x0 x1 => nx (x0, x1, ())) (fun w0 w1 => K (.exit 0) (packPutDat.outl2e2.enc (w0, w1, ()))) v.1 v.2.1) (l := fun m v => packPutDat.l2 n (fun w0 w1 => K (.exit 0) (packPutDat.outl2e2.enc (w0, w1, ()))) m v.1 v.2.1) (fun _ => rfl) (fun _ _ => rfl) (fun m v => by kernel_rfl) n v).symm
theorem packPutDat.eq (n : Nat) (x : (Kd.struct packPutDat.con.ps).T) : evFunc packPutDat.env Tryd.f38 packPutDat.body packPutDat.con.ps packPutDat.con.rs (packPutDat.lp n) n x = packPutDat.con.f n x := by kernel_rfl
theorem packPutDat.sound : Sound Tryd.prog globs 38 packPutDat.con :=
  sound_by (E := packPutDat.env) (c := packPutDat.body) (envOk (G := globs) (lc := [(54, packSize.con)]) (lo := [(53, [packOwn.con])]) (envB_spec (by kernel_rfl)) rfl rfl ⟨.inl ⟨packSize.sound, by kernel_rfl⟩, trivial⟩ rfl ⟨⟨⟨packOwn.sound, trivial⟩, by kernel_rfl⟩, trivial⟩ (by kernel_rfl) (by kernel_rfl)) Tryd.func38 (by kernel_rfl) packPutDat.lp (l := [(true, sub [1, 1, 0, 0, 0] packPutDat.body, packPutDat.nml2)]) (by kernel_rfl) (fun n => ⟨packPutDat.atl2 n, trivial⟩) packPutDat.eq
noncomputable def packPut.b2 (fu : Nat) (next : Int → (List Int) → Option (((List Int) × Unit) × (Unit))) (k2 : Int → (List Int) → Option (((List Int) × Unit) × (Unit))) (n : Int) (out : List Int) : Option (((List Int) × Unit) × (Unit)) :=
  cond (decide (n ≥ (128 : Int))) (
    let t1 := bOr .u8 (IntKind.u8.wrap n) (128 : Int)
    chk (apOk out ([t1]) 1) <|
    next (sShr .u64 n (7 : Int)) (out ++ ([t1]))) (
    k2 n out)
noncomputable def packPut.l2 (fu : Nat) (k2 : Int → (List Int) → Option (((List Int) × Unit) × (Unit))) : Nat → Int → (List Int) → Option (((List Int) × Unit) × (Unit))
  | 0, _, _ => none
  | m + 1, n, out => packPut.b2 fu (packPut.l2 fu k2 m) k2 n out
noncomputable def packPut (fu : Nat) (b : List Int) (n : Int) : Option (((List Int) × Unit) × (Unit)) :=
  (packSize fu n).bind fun r1 =>
  (packOwn fu b r1.1).bind fun r2 =>
  packPut.l2 fu (fun nq2 outq2 => 
      chk (apOk outq2 ([IntKind.u8.wrap nq2]) 1) <|
      let t3 := outq2 ++ ([IntKind.u8.wrap nq2])
      some ((t3, ()), (()))) fu n r2.1.1

noncomputable def packPut.body : Code := Tryd.f38.body.getD .skip
abbrev packPut.shl2 : Shp := ⟨[.u, .d (.int .u64), .u, .u, .u, .o 5 (.int .u8), .u, .u, .u, .u, .u, .u, .u, .u, .u, .u, .u, .u, .u, .u, .u, .u, .u, .u, .u], []⟩
abbrev packPut.outl2e2 : Shp := ⟨[.u, .d (.int .u64), .u, .u, .u, .o 5 (.int .u8), .u, .u, .u, .u, .u, .u, .u, .u, .u, .u, .u, .u, .u, .u, .u, .u, .u, .u, .u], []⟩
noncomputable def packPut.nml2 : Norm := ⟨{ keep := [1, 5], shut := [(1, (.int .u64))], retag := [(5, 5, (.int .u8))], heap := 0, dead := [], cshut := [], cretag := [] }, [(2, { keep := [1, 5], shut := [(1, (.int .u64))], retag := [(5, 5, (.int .u8))], heap := 0, dead := [], cshut := [], cretag := [] })]⟩
noncomputable def packPut.con : OCon := { ps := [.dat (.slice (.int .u8)), .dat (.int .u64)], rs := [.own (.int .u8)], f := fun n x => packPut n x.1 x.2.1 }
noncomputable def packPut.env : Env := { tys := [(24, ⟨(.slice (.int .u8)), 24⟩), (5, ⟨(.int .u8), 1⟩), (23, ⟨(.int .u64), 8⟩)], elems := [(24, 5)], ptrs := [], cons := [(54, packSize.con)], objs := [(53, [packOwn.con])], loops := [(2, packPut.nml2)], cuts := [], globs := globs, base := 0 }
noncomputable def packPut.lp (n : Nat) : LP (RT packPut.con.rs × BT packPut.con.ps) := fun lo κ body nm K s =>
  cond (lo && Nat.beq κ 2)
    (match packPut.shl2.dec s with
    | some v => packPut.l2 n (fun w0 w1 => K (.exit 0) (packPut.outl2e2.enc (w0, w1, ()))) n v.1 v.2.1
    | none => loops n (RT packPut.con.rs × BT packPut.con.ps) lo κ body nm K s)
    (loops n (RT packPut.con.rs × BT packPut.con.ps) lo κ body nm K s)
theorem packPut.atl2 (n : Nat) (s : St) (K : Ex → St → Option (RT packPut.con.rs × BT packPut.con.ps)) : packPut.lp n true 2 (evK packPut.env (packPut.lp n) n (sub [1, 1, 0, 0, 0] packPut.body)) packPut.nml2 K s = loops n (RT packPut.con.rs × BT packPut.con.ps) true 2 (evK packPut.env (packPut.lp n) n (sub [1, 1, 0, 0, 0] packPut.body)) packPut.nml2 K s := by
  show (match packPut.shl2.dec s with | some v => packPut.l2 n (fun w0 w1 => K (.exit 0) (packPut.outl2e2.enc (w0, w1, ()))) n v.1 v.2.1 | none => loops n (RT packPut.con.rs × BT packPut.con.ps) true 2 (evK packPut.env (packPut.lp n) n (sub [1, 1, 0, 0, 0] packPut.body)) packPut.nml2 K s) = _
  cases h : packPut.shl2.dec s with
  | none => rfl
  | some v =>
    rw [Shp.dec_enc h]
    exact (evLoop_eq (sh := packPut.shl2) (body := evK packPut.env (packPut.lp n) n (sub [1, 1, 0, 0, 0] packPut.body)) (nm := packPut.nml2) (K := K) (b := fun nx v => packPut.b2 n (fun x0 x1 => nx (x0, x1, ())) (fun w0 w1 => K (.exit 0) (packPut.outl2e2.enc (w0, w1, ()))) v.1 v.2.1) (l := fun m v => packPut.l2 n (fun w0 w1 => K (.exit 0) (packPut.outl2e2.enc (w0, w1, ()))) m v.1 v.2.1) (fun _ => rfl) (fun _ _ => rfl) (fun m v => by kernel_rfl) n v).symm
theorem packPut.eq (n : Nat) (x : PT packPut.con.ps) : evFuncO packPut.env Tryd.f38 packPut.body packPut.con.ps packPut.con.rs (packPut.lp n) n x = packPut.con.f n x := by kernel_rfl
theorem packPut.sound : SoundO Tryd.prog globs 38 packPut.con :=
  sound_byO (E := packPut.env) (c := packPut.body) (envOk (G := globs) (lc := [(54, packSize.con)]) (lo := [(53, [packOwn.con])]) (envB_spec (by kernel_rfl)) rfl rfl ⟨.inl ⟨packSize.sound, by kernel_rfl⟩, trivial⟩ rfl ⟨⟨⟨packOwn.sound, trivial⟩, by kernel_rfl⟩, trivial⟩ (by kernel_rfl) (by kernel_rfl)) Tryd.func38 (by kernel_rfl) (by kernel_rfl) (by kernel_rfl) packPut.lp (l := [(true, sub [1, 1, 0, 0, 0] packPut.body, packPut.nml2)]) (by kernel_rfl) (fun n => ⟨packPut.atl2 n, trivial⟩) packPut.eq
noncomputable def packPutText (fu : Nat) (b : List Int) (sv : List Int) : Option ((List Int) × Unit) :=
  let t1 := IntKind.u64.wrap (sv.length : Int)
  (packPut fu b t1).bind fun r2 =>
  chk (apOk r2.1.1 sv 1) <|
  some (r2.1.1 ++ sv, ())

noncomputable def packPutText.body : Code := Tryd.f39.body.getD .skip
noncomputable def packPutText.con : Con := { ps := [(.slice (.int .u8)), .str], rs := [(.slice (.int .u8))], f := fun n x => packPutText n x.1 x.2.1 }
noncomputable def packPutText.env : Env := { tys := [(24, ⟨(.slice (.int .u8)), 24⟩), (9, ⟨.str, 16⟩), (23, ⟨(.int .u64), 8⟩), (3, ⟨(.int .i64), 8⟩), (5, ⟨(.int .u8), 1⟩)], elems := [(24, 5)], ptrs := [], cons := [], objs := [(38, [packPut.con])], loops := [], cuts := [], globs := globs, base := 0 }
noncomputable def packPutText.lp (n : Nat) : LP (Kd.struct packPutText.con.rs).T := fun lo κ body nm K s =>
  loops n (Kd.struct packPutText.con.rs).T lo κ body nm K s
theorem packPutText.eq (n : Nat) (x : (Kd.struct packPutText.con.ps).T) : evFunc packPutText.env Tryd.f39 packPutText.body packPutText.con.ps packPutText.con.rs (packPutText.lp n) n x = packPutText.con.f n x := by kernel_rfl
theorem packPutText.sound : Sound Tryd.prog globs 39 packPutText.con :=
  sound_by (E := packPutText.env) (c := packPutText.body) (envOk (G := globs) (lc := []) (lo := [(38, [packPut.con])]) (envB_spec (by kernel_rfl)) rfl rfl trivial rfl ⟨⟨⟨packPut.sound, trivial⟩, by kernel_rfl⟩, trivial⟩ (by kernel_rfl) (by kernel_rfl)) Tryd.func39 (by kernel_rfl) packPutText.lp (l := []) (by kernel_rfl) (fun n => trivial) packPutText.eq
noncomputable def frameBody.b4 (fu : Nat) (next : Int → (List Int) → (List S1) → Int → Int → S0 → Option ((List Int) × Unit)) (k2 : Int → (List Int) → S0 → Option ((List Int) × Unit)) (l : Int) (b : List Int) (v : List S1) (vx2 : Int) (vx3 : Int) (b0 : S0) : Option ((List Int) × Unit) :=
  cond (decide (vx3 < vx2)) (
    chk (ixOk v vx3) <|
    let e1 := ixL ((0 : Int), (0 : Int), ()) v vx3
    (frameHas fu l e1.1).bind fun r2 =>
    cond r2.1 (
      (packPutDat fu b e1.2.1).bind fun r3 =>
      let t4 := IntKind.i64.wrap (vx3 + (1 : Int))
      next l r3.1 v vx2 t4 b0) (
      let t5 := IntKind.i64.wrap (vx3 + (1 : Int))
      next l b v vx2 t5 b0)) (
    k2 l b b0)
noncomputable def frameBody.l4 (fu : Nat) (k2 : Int → (List Int) → S0 → Option ((List Int) × Unit)) : Nat → Int → (List Int) → (List S1) → Int → Int → S0 → Option ((List Int) × Unit)
  | 0, _, _, _, _, _, _ => none
  | m + 1, l, b, v, vx2, vx3, b0 => frameBody.b4 fu (frameBody.l4 fu k2 m) k2 l b v vx2 vx3 b0
noncomputable def frameBody (fu : Nat) (f : S0) : Option ((List Int) × Unit) :=
  (frameOf fu f.1).bind fun r1 =>
  let t2 := [((1 : Int), IntKind.u64.wrap f.2.1, ()), ((2 : Int), IntKind.u64.wrap f.2.2.1, ()), ((4 : Int), f.2.2.2.1, ()), ((8 : Int), f.2.2.2.2.1, ())]
  frameBody.l4 fu (fun lq2 bq2 b0q2 => 
      (frameHas fu lq2 (16 : Int)).bind fun r3 =>
      cond r3.1 (
        (packPutText fu bq2 b0q2.2.2.2.2.2.1).bind fun r4 =>
        some (r4.1, ())) (
        some (bq2, ()))) fu r1.1 ([f.1]) t2 (t2.length : Int) (0 : Int) f

noncomputable def frameBody.body : Code := Tryd.f24.body.getD .skip
abbrev frameBody.shl4 : Shp := ⟨[.u, .p 0 0, .u, .d (.int .u8), .u, .d (.slice (.int .u8)), .u, .u, .u, .u, .u, .u, .u, .u, .u, .u, .u, .u, .u, .u, .u, .u, .u, .u, .u, .u, .u, .u, .u, .u, .u, .o 31 kS1, .d (.int .i64), .d (.int .i64), .u, .u, .u, .u, .u, .u, .u, .u, .u, .u, .u, .u, .u, .u, .u, .u, .u, .u, .u, .u], [.c [.g kS0]]⟩
abbrev frameBody.outl4e2 : Shp := ⟨[.u, .p 0 0, .u, .d (.int .u8), .u, .d (.slice (.int .u8)), .u, .u, .u, .u, .u, .u, .u, .u, .u, .u, .u, .u, .u, .u, .u, .u, .u, .u, .u, .u, .u, .u, .u, .u, .u, .u, .u, .u, .u, .u, .u, .u, .u, .u, .u, .u, .u, .u, .u, .u, .u, .u, .u, .u, .u, .u, .u, .u], [.c [.g kS0]]⟩
noncomputable def frameBody.nml4 : Norm := ⟨{ keep := [1, 3, 5, 31, 32, 33], shut := [(3, (.int .u8)), (5, (.slice (.int .u8))), (32, (.int .i64)), (33, (.int .i64))], retag := [(31, 31, kS1)], heap := 1, dead := [], cshut := [(0, 0, (.int .u8)), (0, 1, (.int .u32)), (0, 2, (.int .u32)), (0, 3, (.int .u64)), (0, 4, (.int .u64)), (0, 5, (.slice (.int .u8)))], cretag := [] }, [(2, { keep := [1, 3, 5], shut := [(3, (.int .u8)), (5, (.slice (.int .u8)))], retag := [], heap := 1, dead := [], cshut := [(0, 0, (.int .u8)), (0, 1, (.int .u32)), (0, 2, (.int .u32)), (0, 3, (.int .u64)), (0, 4, (.int .u64)), (0, 5, (.slice (.int .u8)))], cretag := [] })]⟩
noncomputable def frameBody.con : Con := { ps := [kS0], rs := [(.slice (.int .u8))], f := fun n x => frameBody n x.1 }
noncomputable def frameBody.env : Env := { tys := [(26, ⟨kS0, 56⟩), (24, ⟨(.slice (.int .u8)), 24⟩), (5, ⟨(.int .u8), 1⟩), (22, ⟨(.int .u32), 4⟩), (23, ⟨(.int .u64), 8⟩), (74, ⟨kS1, 16⟩), (3, ⟨(.int .i64), 8⟩), (9, ⟨.str, 16⟩)], elems := [(24, 5), (75, 74)], ptrs := [], cons := [(36, frameOf.con), (37, frameHas.con), (38, packPutDat.con), (39, packPutText.con)], objs := [], loops := [(4, frameBody.nml4)], cuts := [], globs := globs, base := 0 }
noncomputable def frameBody.lp (n : Nat) : LP (Kd.struct frameBody.con.rs).T := fun lo κ body nm K s =>
  cond (lo && Nat.beq κ 4)
    (match frameBody.shl4.dec s with
    | some v => frameBody.l4 n (fun w0 w1 w2 => K (.exit 0) (frameBody.outl4e2.enc (w0, w1, w2, ()))) n v.1 v.2.1 v.2.2.1 v.2.2.2.1 v.2.2.2.2.1 v.2.2.2.2.2.1
    | none => loops n (Kd.struct frameBody.con.rs).T lo κ body nm K s)
    (loops n (Kd.struct frameBody.con.rs).T lo κ body nm K s)
theorem frameBody.atl4 (n : Nat) (s : St) (K : Ex → St → Option (Kd.struct frameBody.con.rs).T) : frameBody.lp n true 4 (evK frameBody.env (frameBody.lp n) n (sub [1, 1, 1, 0, 1, 0, 0] frameBody.body)) frameBody.nml4 K s = loops n (Kd.struct frameBody.con.rs).T true 4 (evK frameBody.env (frameBody.lp n) n (sub [1, 1, 1, 0, 1, 0, 0] frameBody.body)) frameBody.nml4 K s := by
  show (match frameBody.shl4.dec s with | some v => frameBody.l4 n (fun w0 w1 w2 => K (.exit 0) (frameBody.outl4e2.enc (w0, w1, w2, ()))) n v.1 v.2.1 v.2.2.1 v.2.2.2.1 v.2.2.2.2.1 v.2.2.2.2.2.1 | none => loops n (Kd.struct frameBody.con.rs).T true 4 (evK frameBody.env (frameBody.lp n) n (sub [1, 1, 1, 0, 1, 0, 0] frameBody.body)) frameBody.nml4 K s) = _
  cases h : frameBody.shl4.dec s with
  | none => rfl
  | some v =>
    rw [Shp.dec_enc h]
    exact (evLoop_eq (sh := frameBody.shl4) (body := evK frameBody.env (frameBody.lp n) n (sub [1, 1, 1, 0, 1, 0, 0] frameBody.body)) (nm := frameBody.nml4) (K := K) (b := fun nx v => frameBody.b4 n (fun x0 x1 x2 x3 x4 x5 => nx (x0, x1, x2, x3, x4, x5, ())) (fun w0 w1 w2 => K (.exit 0) (frameBody.outl4e2.enc (w0, w1, w2, ()))) v.1 v.2.1 v.2.2.1 v.2.2.2.1 v.2.2.2.2.1 v.2.2.2.2.2.1) (l := fun m v => frameBody.l4 n (fun w0 w1 w2 => K (.exit 0) (frameBody.outl4e2.enc (w0, w1, w2, ()))) m v.1 v.2.1 v.2.2.1 v.2.2.2.1 v.2.2.2.2.1 v.2.2.2.2.2.1) (fun _ => rfl) (fun _ _ => rfl) (fun m v => by kernel_rfl) n v).symm
theorem frameBody.eq (n : Nat) (x : (Kd.struct frameBody.con.ps).T) : evFunc frameBody.env Tryd.f24 frameBody.body frameBody.con.ps frameBody.con.rs (frameBody.lp n) n x = frameBody.con.f n x := by kernel_rfl
theorem frameBody.sound : Sound Tryd.prog globs 24 frameBody.con :=
  sound_by (E := frameBody.env) (c := frameBody.body) (envOk (G := globs) (lc := [(36, frameOf.con), (37, frameHas.con), (38, packPutDat.con), (39, packPutText.con)]) (lo := []) (envB_spec (by kernel_rfl)) rfl rfl ⟨.inl ⟨frameOf.sound, by kernel_rfl⟩, ⟨.inl ⟨frameHas.sound, by kernel_rfl⟩, ⟨.inl ⟨packPutDat.sound, by kernel_rfl⟩, ⟨.inl ⟨packPutText.sound, by kernel_rfl⟩, trivial⟩⟩⟩⟩ rfl trivial (by kernel_rfl) (by kernel_rfl)) Tryd.func24 (by kernel_rfl) frameBody.lp (l := [(true, sub [1, 1, 1, 0, 1, 0, 0] frameBody.body, frameBody.nml4)]) (by kernel_rfl) (fun n => ⟨frameBody.atl4 n, trivial⟩) frameBody.eq
noncomputable def recSize (fu : Nat) (record : List Int) : Option (Int × Unit) :=
  let t1 := IntKind.i64.wrap ((8 : Int) + (record.length : Int))
  some (t1, ())

noncomputable def recSize.body : Code := Tryd.f40.body.getD .skip
noncomputable def recSize.con : Con := { ps := [(.slice (.int .u8))], rs := [(.int .i64)], f := fun n x => recSize n x.1 }
noncomputable def recSize.env : Env := { tys := [(3, ⟨(.int .i64), 8⟩), (5, ⟨(.int .u8), 1⟩)], elems := [(24, 5)], ptrs := [], cons := [], objs := [], loops := [], cuts := [], globs := globs, base := 0 }
noncomputable def recSize.lp (n : Nat) : LP (Kd.struct recSize.con.rs).T := fun lo κ body nm K s =>
  loops n (Kd.struct recSize.con.rs).T lo κ body nm K s
theorem recSize.eq (n : Nat) (x : (Kd.struct recSize.con.ps).T) : evFunc recSize.env Tryd.f40 recSize.body recSize.con.ps recSize.con.rs (recSize.lp n) n x = recSize.con.f n x := by kernel_rfl
theorem recSize.sound : Sound Tryd.prog globs 40 recSize.con :=
  sound_by (E := recSize.env) (c := recSize.body) (envOk (G := globs) (lc := []) (lo := []) (envB_spec (by kernel_rfl)) rfl rfl trivial rfl trivial (by kernel_rfl) (by kernel_rfl)) Tryd.func40 (by kernel_rfl) recSize.lp (l := []) (by kernel_rfl) (fun n => trivial) recSize.eq
noncomputable def crcCarry.b2 (fu : Nat) (next : Int → (List Int) → Int → Int → Option (Int × Unit)) (k2 : Int → Option (Int × Unit)) (row : Int) (v : List Int) (vx2 : Int) (vx3 : Int) : Option (Int × Unit) :=
  cond (decide (vx3 < vx2)) (
    chk (ixOk v vx3) <|
    let e1 := ixL (0 : Int) v vx3
    let t2 := bXor .u32 row (IntKind.u32.wrap e1)
    chk (ixArr 16 (bAnd .u32 t2 (15 : Int))) <|
    let e3 := ixL (0 : Int) tabCrcHalves (bAnd .u32 t2 (15 : Int))
    let t4 := bXor .u32 (sShr .u32 t2 (4 : Int)) e3
    chk (ixArr 16 (bAnd .u32 t4 (15 : Int))) <|
    let e5 := ixL (0 : Int) tabCrcHalves (bAnd .u32 t4 (15 : Int))
    let t6 := bXor .u32 (sShr .u32 t4 (4 : Int)) e5
    let t7 := IntKind.i64.wrap (vx3 + (1 : Int))
    next t6 v vx2 t7) (
    k2 row)
noncomputable def crcCarry.l2 (fu : Nat) (k2 : Int → Option (Int × Unit)) : Nat → Int → (List Int) → Int → Int → Option (Int × Unit)
  | 0, _, _, _, _ => none
  | m + 1, row, v, vx2, vx3 => crcCarry.b2 fu (crcCarry.l2 fu k2 m) k2 row v vx2 vx3
noncomputable def crcCarry (fu : Nat) (row : Int) (b : List Int) : Option (Int × Unit) :=
  crcCarry.l2 fu (fun rowq2 => 
      some (rowq2, ())) fu row b (b.length : Int) (0 : Int)

noncomputable def crcCarry.body : Code := Tryd.f55.body.getD .skip
abbrev crcCarry.shl2 : Shp := ⟨[.d (.int .u32), .u, .u, .u, .u, .u, .u, .d (.slice (.int .u8)), .d (.int .i64), .d (.int .i64), .u, .u, .u, .u, .u, .u, .u, .u, .u, .u, .u, .u, .u, .u, .u, .u, .u, .u, .u, .u, .u, .u, .u], []⟩
abbrev crcCarry.outl2e2 : Shp := ⟨[.d (.int .u32), .u, .u, .u, .u, .u, .u, .u, .u, .u, .u, .u, .u, .u, .u, .u, .u, .u, .u, .u, .u, .u, .u, .u, .u, .u, .u, .u, .u, .u, .u, .u, .u], []⟩
noncomputable def crcCarry.nml2 : Norm := ⟨{ keep := [0, 7, 8, 9], shut := [(0, (.int .u32)), (7, (.slice (.int .u8))), (8, (.int .i64)), (9, (.int .i64))], retag := [], heap := 0, dead := [], cshut := [], cretag := [] }, [(2, { keep := [0], shut := [(0, (.int .u32))], retag := [], heap := 0, dead := [], cshut := [], cretag := [] })]⟩
noncomputable def crcCarry.con : Con := { ps := [(.int .u32), (.slice (.int .u8))], rs := [(.int .u32)], f := fun n x => crcCarry n x.1 x.2.1 }
noncomputable def crcCarry.env : Env := { tys := [(22, ⟨(.int .u32), 4⟩), (5, ⟨(.int .u8), 1⟩), (3, ⟨(.int .i64), 8⟩), (99, ⟨(.arr 16 (.int .u32)), 64⟩)], elems := [(24, 5)], ptrs := [], cons := [], objs := [], loops := [(2, crcCarry.nml2)], cuts := [], globs := globs, base := 0 }
noncomputable def crcCarry.lp (n : Nat) : LP (Kd.struct crcCarry.con.rs).T := fun lo κ body nm K s =>
  cond (lo && Nat.beq κ 2)
    (match crcCarry.shl2.dec s with
    | some v => crcCarry.l2 n (fun w0 => K (.exit 0) (crcCarry.outl2e2.enc (w0, ()))) n v.1 v.2.1 v.2.2.1 v.2.2.2.1
    | none => loops n (Kd.struct crcCarry.con.rs).T lo κ body nm K s)
    (loops n (Kd.struct crcCarry.con.rs).T lo κ body nm K s)
theorem crcCarry.atl2 (n : Nat) (s : St) (K : Ex → St → Option (Kd.struct crcCarry.con.rs).T) : crcCarry.lp n true 2 (evK crcCarry.env (crcCarry.lp n) n (sub [1, 0, 1, 0, 0] crcCarry.body)) crcCarry.nml2 K s = loops n (Kd.struct crcCarry.con.rs).T true 2 (evK crcCarry.env (crcCarry.lp n) n (sub [1, 0, 1, 0, 0] crcCarry.body)) crcCarry.nml2 K s := by
  show (match crcCarry.shl2.dec s with | some v => crcCarry.l2 n (fun w0 => K (.exit 0) (crcCarry.outl2e2.enc (w0, ()))) n v.1 v.2.1 v.2.2.1 v.2.2.2.1 | none => loops n (Kd.struct crcCarry.con.rs).T true 2 (evK crcCarry.env (crcCarry.lp n) n (sub [1, 0, 1, 0, 0] crcCarry.body)) crcCarry.nml2 K s) = _
  cases h : crcCarry.shl2.dec s with
  | none => rfl
  | some v =>
    rw [Shp.dec_enc h]
    exact (evLoop_eq (sh := crcCarry.shl2) (body := evK crcCarry.env (crcCarry.lp n) n (sub [1, 0, 1, 0, 0] crcCarry.body)) (nm := crcCarry.nml2) (K := K) (b := fun nx v => crcCarry.b2 n (fun x0 x1 x2 x3 => nx (x0, x1, x2, x3, ())) (fun w0 => K (.exit 0) (crcCarry.outl2e2.enc (w0, ()))) v.1 v.2.1 v.2.2.1 v.2.2.2.1) (l := fun m v => crcCarry.l2 n (fun w0 => K (.exit 0) (crcCarry.outl2e2.enc (w0, ()))) m v.1 v.2.1 v.2.2.1 v.2.2.2.1) (fun _ => rfl) (fun _ _ => rfl) (fun m v => by kernel_rfl) n v).symm
theorem crcCarry.eq (n : Nat) (x : (Kd.struct crcCarry.con.ps).T) : evFunc crcCarry.env Tryd.f55 crcCarry.body crcCarry.con.ps crcCarry.con.rs (crcCarry.lp n) n x = crcCarry.con.f n x := by kernel_rfl
theorem crcCarry.sound : Sound Tryd.prog globs 55 crcCarry.con :=
  sound_by (E := crcCarry.env) (c := crcCarry.body) (envOk (G := globs) (lc := []) (lo := []) (envB_spec (by kernel_rfl)) rfl rfl trivial rfl trivial (by kernel_rfl) (by kernel_rfl)) Tryd.func55 (by kernel_rfl) crcCarry.lp (l := [(true, sub [1, 0, 1, 0, 0] crcCarry.body, crcCarry.nml2)]) (by kernel_rfl) (fun n => ⟨crcCarry.atl2 n, trivial⟩) crcCarry.eq
noncomputable def crcMore (fu : Nat) (sum : Int) (b : List Int) : Option (Int × Unit) :=
  (crcCarry fu (bNot .u32 sum) b).bind fun r1 =>
  some (bNot .u32 r1.1, ())

noncomputable def crcMore.body : Code := Tryd.f42.body.getD .skip
noncomputable def crcMore.con : Con := { ps := [(.int .u32), (.slice (.int .u8))], rs := [(.int .u32)], f := fun n x => crcMore n x.1 x.2.1 }
noncomputable def crcMore.env : Env := { tys := [(22, ⟨(.int .u32), 4⟩)], elems := [], ptrs := [], cons := [(55, crcCarry.con)], objs := [], loops := [], cuts := [], globs := globs, base := 0 }
noncomputable def crcMore.lp (n : Nat) : LP (Kd.struct crcMore.con.rs).T := fun lo κ body nm K s =>
  loops n (Kd.struct crcMore.con.rs).T lo κ body nm K s
theorem crcMore.eq (n : Nat) (x : (Kd.struct crcMore.con.ps).T) : evFunc crcMore.env Tryd.f42 crcMore.body crcMore.con.ps crcMore.con.rs (crcMore.lp n) n x = crcMore.con.f n x := by kernel_rfl
theorem crcMore.sound : Sound Tryd.prog globs 42 crcMore.con :=
  sound_by (E := crcMore.env) (c := crcMore.body) (envOk (G := globs) (lc := [(55, crcCarry.con)]) (lo := []) (envB_spec (by kernel_rfl)) rfl rfl ⟨.inl ⟨crcCarry.sound, by kernel_rfl⟩, trivial⟩ rfl trivial (by kernel_rfl) (by kernel_rfl)) Tryd.func42 (by kernel_rfl) crcMore.lp (l := []) (by kernel_rfl) (fun n => trivial) crcMore.eq
noncomputable def crcSum (fu : Nat) (b : List Int) : Option (Int × Unit) :=
  (crcMore fu (0 : Int) b).bind fun r1 =>
  some (r1.1, ())

noncomputable def crcSum.body : Code := Tryd.f43.body.getD .skip
noncomputable def crcSum.con : Con := { ps := [(.slice (.int .u8))], rs := [(.int .u32)], f := fun n x => crcSum n x.1 }
noncomputable def crcSum.env : Env := { tys := [(22, ⟨(.int .u32), 4⟩)], elems := [], ptrs := [], cons := [(42, crcMore.con)], objs := [], loops := [], cuts := [], globs := globs, base := 0 }
noncomputable def crcSum.lp (n : Nat) : LP (Kd.struct crcSum.con.rs).T := fun lo κ body nm K s =>
  loops n (Kd.struct crcSum.con.rs).T lo κ body nm K s
theorem crcSum.eq (n : Nat) (x : (Kd.struct crcSum.con.ps).T) : evFunc crcSum.env Tryd.f43 crcSum.body crcSum.con.ps crcSum.con.rs (crcSum.lp n) n x = crcSum.con.f n x := by kernel_rfl
theorem crcSum.sound : Sound Tryd.prog globs 43 crcSum.con :=
  sound_by (E := crcSum.env) (c := crcSum.body) (envOk (G := globs) (lc := [(42, crcMore.con)]) (lo := []) (envB_spec (by kernel_rfl)) rfl rfl ⟨.inl ⟨crcMore.sound, by kernel_rfl⟩, trivial⟩ rfl trivial (by kernel_rfl) (by kernel_rfl)) Tryd.func43 (by kernel_rfl) crcSum.lp (l := []) (by kernel_rfl) (fun n => trivial) crcSum.eq
noncomputable def recPutF41 (fu : Nat) (b : List Int) (n : Int) : Option (((List Int) × Unit) × (Unit)) :=
  let t1 := IntKind.u8.wrap (sShr .u32 n (24 : Int))
  let t2 := IntKind.u8.wrap (sShr .u32 n (16 : Int))
  let t3 := IntKind.u8.wrap (sShr .u32 n (8 : Int))
  let t4 := [t1, t2, t3, IntKind.u8.wrap n]
  chk (apOk b t4 1) <|
  some ((b ++ t4, ()), (()))

noncomputable def recPutF41.body : Code := Tryd.f41.body.getD .skip
noncomputable def recPutF41.con : OCon := { ps := [.own (.int .u8), .dat (.int .u32)], rs := [.own (.int .u8)], f := fun n x => recPutF41 n x.1 x.2.1 }
noncomputable def recPutF41.env : Env := { tys := [(24, ⟨(.slice (.int .u8)), 24⟩), (5, ⟨(.int .u8), 1⟩), (22, ⟨(.int .u32), 4⟩)], elems := [(24, 5)], ptrs := [], cons := [], objs := [], loops := [], cuts := [], globs := globs, base := 0 }
noncomputable def recPutF41.lp (n : Nat) : LP (RT recPutF41.con.rs × BT recPutF41.con.ps) := fun lo κ body nm K s =>
  loops n (RT recPutF41.con.rs × BT recPutF41.con.ps) lo κ body nm K s
theorem recPutF41.eq (n : Nat) (x : PT recPutF41.con.ps) : evFuncO recPutF41.env Tryd.f41 recPutF41.body recPutF41.con.ps recPutF41.con.rs (recPutF41.lp n) n x = recPutF41.con.f n x := by kernel_rfl
theorem recPutF41.sound : SoundO Tryd.prog globs 41 recPutF41.con :=
  sound_byO (E := recPutF41.env) (c := recPutF41.body) (envOk (G := globs) (lc := []) (lo := []) (envB_spec (by kernel_rfl)) rfl rfl trivial rfl trivial (by kernel_rfl) (by kernel_rfl)) Tryd.func41 (by kernel_rfl) (by kernel_rfl) (by kernel_rfl) recPutF41.lp (l := []) (by kernel_rfl) (fun n => trivial) recPutF41.eq
noncomputable def recPut (fu : Nat) (b : List Int) (record : List Int) : Option ((List Int) × Int × Unit) :=
  let t1 := decide ((record.length : Int) > (65536 : Int))
  cond t1 (
    some ([], (4 : Int), ())) (
    (recSize fu record).bind fun r2 =>
    let t3 := IntKind.i64.wrap ((b.length : Int) + r2.1)
    chk (mkRaw (b.length : Int) t3 1) <|
    chk (nOk b ((b.length : Int).toNat) && (nOk b ((b.length : Int).toNat) && (nOk b ((b.length : Int).toNat) && (nOk b ((b.length : Int).toNat) && true)))) <|
    let t4 := IntKind.u32.wrap (record.length : Int)
    (recPutF41 fu b t4).bind fun r5 =>
    chk (cutOk r5.1.1 (b.length : Int) (r5.1.1.length : Int)) <|
    let t6 := cutL r5.1.1 (b.length : Int) (r5.1.1.length : Int)
    (crcSum fu t6).bind fun r7 =>
    (crcMore fu r7.1 record).bind fun r8 =>
    (recPutF41 fu r5.1.1 r8.1).bind fun r9 =>
    chk (apOk r9.1.1 record 1) <|
    some (r9.1.1 ++ record, (0 : Int), ()))

noncomputable def recPut.body : Code := Tryd.f25.body.getD .skip
noncomputable def recPut.con : Con := { ps := [(.slice (.int .u8)), (.slice (.int .u8))], rs := [(.slice (.int .u8)), (.int .i64)], f := fun n x => recPut n x.1 x.2.1 }
noncomputable def recPut.env : Env := { tys := [(24, ⟨(.slice (.int .u8)), 24⟩), (29, ⟨(.int .i64), 8⟩), (5, ⟨(.int .u8), 1⟩), (22, ⟨(.int .u32), 4⟩), (3, ⟨(.int .i64), 8⟩)], elems := [(24, 5)], ptrs := [], cons := [(40, recSize.con), (43, crcSum.con), (42, crcMore.con)], objs := [(41, [recPutF41.con])], loops := [], cuts := [], globs := globs, base := 0, raws := [18] }
noncomputable def recPut.lp (n : Nat) : LP (Kd.struct recPut.con.rs).T := fun lo κ body nm K s =>
  loops n (Kd.struct recPut.con.rs).T lo κ body nm K s
theorem recPut.eq (n : Nat) (x : (Kd.struct recPut.con.ps).T) : evFunc recPut.env Tryd.f25 recPut.body recPut.con.ps recPut.con.rs (recPut.lp n) n x = recPut.con.f n x := by kernel_rfl
theorem recPut.sound : Sound Tryd.prog globs 25 recPut.con :=
  sound_by (E := recPut.env) (c := recPut.body) (envOk (G := globs) (lc := [(40, recSize.con), (43, crcSum.con), (42, crcMore.con)]) (lo := [(41, [recPutF41.con])]) (envB_spec (by kernel_rfl)) rfl rfl ⟨.inl ⟨recSize.sound, by kernel_rfl⟩, ⟨.inl ⟨crcSum.sound, by kernel_rfl⟩, ⟨.inl ⟨crcMore.sound, by kernel_rfl⟩, trivial⟩⟩⟩ rfl ⟨⟨⟨recPutF41.sound, trivial⟩, by kernel_rfl⟩, trivial⟩ (by kernel_rfl) (by kernel_rfl)) Tryd.func25 (by kernel_rfl) recPut.lp (l := []) (by kernel_rfl) (fun n => trivial) recPut.eq
noncomputable def framePut (fu : Nat) (f : S0) : Option ((List Int) × Int × Unit) :=
  (framePlain fu f).bind fun r1 =>
  cond (!r1.1) (
    some ([], (1 : Int), ())) (
    (frameBody fu f).bind fun r2 =>
    let t3 := decide ((r2.1.length : Int) > (8192 : Int))
    cond t3 (
      some ([], (4 : Int), ())) (
      (recPut fu [] r2.1).bind fun r4 =>
      some (r4.1, r4.2.1, ())))

noncomputable def framePut.body : Code := Tryd.f11.body.getD .skip
noncomputable def framePut.con : Con := { ps := [kS0], rs := [(.slice (.int .u8)), (.int .i64)], f := fun n x => framePut n x.1 }
noncomputable def framePut.env : Env := { tys := [(26, ⟨kS0, 56⟩), (24, ⟨(.slice (.int .u8)), 24⟩), (29, ⟨(.int .i64), 8⟩), (5, ⟨(.int .u8), 1⟩)], elems := [(24, 5)], ptrs := [], cons := [(23, framePlain.con), (24, frameBody.con), (25, recPut.con)], objs := [], loops := [], cuts := [], globs := globs, base := 0 }
noncomputable def framePut.lp (n : Nat) : LP (Kd.struct framePut.con.rs).T := fun lo κ body nm K s =>
  loops n (Kd.struct framePut.con.rs).T lo κ body nm K s
theorem framePut.eq (n : Nat) (x : (Kd.struct framePut.con.ps).T) : evFunc framePut.env Tryd.f11 framePut.body framePut.con.ps framePut.con.rs (framePut.lp n) n x = framePut.con.f n x := by kernel_rfl
theorem framePut.sound : Sound Tryd.prog globs 11 framePut.con :=
  sound_by (E := framePut.env) (c := framePut.body) (envOk (G := globs) (lc := [(23, framePlain.con), (24, frameBody.con), (25, recPut.con)]) (lo := []) (envB_spec (by kernel_rfl)) rfl rfl ⟨.inl ⟨framePlain.sound, by kernel_rfl⟩, ⟨.inl ⟨frameBody.sound, by kernel_rfl⟩, ⟨.inl ⟨recPut.sound, by kernel_rfl⟩, trivial⟩⟩⟩ rfl trivial (by kernel_rfl) (by kernel_rfl)) Tryd.func11 (by kernel_rfl) framePut.lp (l := []) (by kernel_rfl) (fun n => trivial) framePut.eq
noncomputable def law20Fixed (fu : Nat) : Option (Bool × Unit) :=
  (framePut fu ((13 : Int), (0 : Int), (0 : Int), (5 : Int), (0 : Int), [], ())).bind fun r1 =>
  cond (r1.2.1 == (0 : Int)) (
    let t2 := (r1.1.length : Int) == (10 : Int)
    cond t2 (
      chk (cutOk r1.1 (8 : Int) (r1.1.length : Int)) <|
      let t3 := cutL r1.1 (8 : Int) (r1.1.length : Int)
      let t4 := t3 == ([13, 5] : List Int)
      some (t4, ())) (
      some (false, ()))) (
    some (false, ()))

noncomputable def law20Fixed.body : Code := Tryd.f8.body.getD .skip
noncomputable def law20Fixed.con : Con := { ps := [], rs := [.bool], f := fun n x => law20Fixed n }
noncomputable def law20Fixed.env : Env := { tys := [(4, ⟨.bool, 1⟩), (26, ⟨kS0, 56⟩), (5, ⟨(.int .u8), 1⟩), (9, ⟨.str, 16⟩), (24, ⟨(.slice (.int .u8)), 24⟩)], elems := [(24, 5)], ptrs := [], cons := [(11, framePut.con)], objs := [], loops := [], cuts := [], globs := globs, base := 0 }
noncomputable def law20Fixed.lp (n : Nat) : LP (Kd.struct law20Fixed.con.rs).T := fun lo κ body nm K s =>
  loops n (Kd.struct law20Fixed.con.rs).T lo κ body nm K s
theorem law20Fixed.eq (n : Nat) (x : (Kd.struct law20Fixed.con.ps).T) : evFunc law20Fixed.env Tryd.f8 law20Fixed.body law20Fixed.con.ps law20Fixed.con.rs (law20Fixed.lp n) n x = law20Fixed.con.f n x := by kernel_rfl
theorem law20Fixed.sound : Sound Tryd.prog globs 8 law20Fixed.con :=
  sound_by (E := law20Fixed.env) (c := law20Fixed.body) (envOk (G := globs) (lc := [(11, framePut.con)]) (lo := []) (envB_spec (by kernel_rfl)) rfl rfl ⟨.inl ⟨framePut.sound, by kernel_rfl⟩, trivial⟩ rfl trivial (by kernel_rfl) (by kernel_rfl)) Tryd.func8 (by kernel_rfl) law20Fixed.lp (l := []) (by kernel_rfl) (fun n => trivial) law20Fixed.eq
noncomputable def slicesEqual.b4 (fu : Nat) (next : (List Int) → (List Int) → Int → Int → Option (Bool × Unit)) (k1 : Bool → Option (Bool × Unit)) (k2 : Unit → Option (Bool × Unit)) (s1 : List Int) (s2 : List Int) (v : Int) (vx2 : Int) : Option (Bool × Unit) :=
  cond (decide (vx2 < v)) (
    chk (ixOk s1 vx2) <|
    let e1 := ixL (0 : Int) s1 vx2
    chk (ixOk s2 vx2) <|
    let e2 := ixL (0 : Int) s2 vx2
    cond (e1 != e2) (
      k1 false) (
      let t3 := IntKind.i64.wrap (vx2 + (1 : Int))
      next s1 s2 v t3)) (
    k2 ())
noncomputable def slicesEqual.l4 (fu : Nat) (k1 : Bool → Option (Bool × Unit)) (k2 : Unit → Option (Bool × Unit)) : Nat → (List Int) → (List Int) → Int → Int → Option (Bool × Unit)
  | 0, _, _, _, _ => none
  | m + 1, s1, s2, v, vx2 => slicesEqual.b4 fu (slicesEqual.l4 fu k1 k2 m) k1 k2 s1 s2 v vx2
noncomputable def slicesEqual (fu : Nat) (s1 : List Int) (s2 : List Int) : Option (Bool × Unit) :=
  let t1 := (s1.length : Int) != (s2.length : Int)
  cond t1 (
    some (false, ())) (
    slicesEqual.l4 fu (fun vq3 => 
        some (vq3, ())) (fun (_ : Unit) => 
        some (true, ())) fu s1 s2 (s1.length : Int) (0 : Int))

noncomputable def slicesEqual.body : Code := Tryd.f22.body.getD .skip
abbrev slicesEqual.shl4 : Shp := ⟨[.d (.slice (.int .u8)), .d (.slice (.int .u8)), .u, .u, .u, .u, .u, .u, .u, .u, .u, .u, .d (.int .i64), .d (.int .i64), .u, .u, .u, .u, .u, .u, .u, .u, .u, .u, .u, .u], []⟩
abbrev slicesEqual.outl4e1 : Shp := ⟨[.u, .u, .u, .u, .d .bool, .u, .u, .u, .u, .u, .u, .u, .u, .u, .u, .u, .u, .u, .u, .u, .u, .u, .u, .u, .u, .u], []⟩
abbrev slicesEqual.outl4e2 : Shp := ⟨[.u, .u, .u, .u, .u, .u, .u, .u, .u, .u, .u, .u, .u, .u, .u, .u, .u, .u, .u, .u, .u, .u, .u, .u, .u, .u], []⟩
noncomputable def slicesEqual.nml4 : Norm := ⟨{ keep := [0, 1, 12, 13], shut := [(0, (.slice (.int .u8))), (1, (.slice (.int .u8))), (12, (.int .i64)), (13, (.int .i64))], retag := [], heap := 0, dead := [], cshut := [], cretag := [] }, [(1, { keep := [4], shut := [(4, .bool)], retag := [], heap := 0, dead := [], cshut := [], cretag := [] }), (2, { keep := [], shut := [], retag := [], heap := 0, dead := [], cshut := [], cretag := [] })]⟩
noncomputable def slicesEqual.con : Con := { ps := [(.slice (.int .u8)), (.slice (.int .u8))], rs := [.bool], f := fun n x => slicesEqual n x.1 x.2.1 }
noncomputable def slicesEqual.env : Env := { tys := [(4, ⟨.bool, 1⟩), (5, ⟨(.int .u8), 1⟩), (3, ⟨(.int .i64), 8⟩)], elems := [(24, 5)], ptrs := [], cons := [], objs := [], loops := [(4, slicesEqual.nml4)], cuts := [], globs := globs, base := 0 }
noncomputable def slicesEqual.lp (n : Nat) : LP (Kd.struct slicesEqual.con.rs).T := fun lo κ body nm K s =>
  cond (lo && Nat.beq κ 4)
    (match slicesEqual.shl4.dec s with
    | some v => slicesEqual.l4 n (fun w0 => K .ret (slicesEqual.outl4e1.enc (w0, ()))) (fun _ => K (.exit 0) (slicesEqual.outl4e2.enc (()))) n v.1 v.2.1 v.2.2.1 v.2.2.2.1
    | none => loops n (Kd.struct slicesEqual.con.rs).T lo κ body nm K s)
    (loops n (Kd.struct slicesEqual.con.rs).T lo κ body nm K s)
theorem slicesEqual.atl4 (n : Nat) (s : St) (K : Ex → St → Option (Kd.struct slicesEqual.con.rs).T) : slicesEqual.lp n true 4 (evK slicesEqual.env (slicesEqual.lp n) n (sub [1, 1, 0, 1, 0, 0] slicesEqual.body)) slicesEqual.nml4 K s = loops n (Kd.struct slicesEqual.con.rs).T true 4 (evK slicesEqual.env (slicesEqual.lp n) n (sub [1, 1, 0, 1, 0, 0] slicesEqual.body)) slicesEqual.nml4 K s := by
  show (match slicesEqual.shl4.dec s with | some v => slicesEqual.l4 n (fun w0 => K .ret (slicesEqual.outl4e1.enc (w0, ()))) (fun _ => K (.exit 0) (slicesEqual.outl4e2.enc (()))) n v.1 v.2.1 v.2.2.1 v.2.2.2.1 | none => loops n (Kd.struct slicesEqual.con.rs).T true 4 (evK slicesEqual.env (slicesEqual.lp n) n (sub [1, 1, 0, 1, 0, 0] slicesEqual.body)) slicesEqual.nml4 K s) = _
  cases h : slicesEqual.shl4.dec s with
  | none => rfl
  | some v =>
    rw [Shp.dec_enc h]
    exact (evLoop_eq (sh := slicesEqual.shl4) (body := evK slicesEqual.env (slicesEqual.lp n) n (sub [1, 1, 0, 1, 0, 0] slicesEqual.body)) (nm := slicesEqual.nml4) (K := K) (b := fun nx v => slicesEqual.b4 n (fun x0 x1 x2 x3 => nx (x0, x1, x2, x3, ())) (fun w0 => K .ret (slicesEqual.outl4e1.enc (w0, ()))) (fun _ => K (.exit 0) (slicesEqual.outl4e2.enc (()))) v.1 v.2.1 v.2.2.1 v.2.2.2.1) (l := fun m v => slicesEqual.l4 n (fun w0 => K .ret (slicesEqual.outl4e1.enc (w0, ()))) (fun _ => K (.exit 0) (slicesEqual.outl4e2.enc (()))) m v.1 v.2.1 v.2.2.1 v.2.2.2.1) (fun _ => rfl) (fun _ _ => rfl) (fun m v => by kernel_rfl) n v).symm
theorem slicesEqual.eq (n : Nat) (x : (Kd.struct slicesEqual.con.ps).T) : evFunc slicesEqual.env Tryd.f22 slicesEqual.body slicesEqual.con.ps slicesEqual.con.rs (slicesEqual.lp n) n x = slicesEqual.con.f n x := by kernel_rfl
theorem slicesEqual.sound : Sound Tryd.prog globs 22 slicesEqual.con :=
  sound_by (E := slicesEqual.env) (c := slicesEqual.body) (envOk (G := globs) (lc := []) (lo := []) (envB_spec (by kernel_rfl)) rfl rfl trivial rfl trivial (by kernel_rfl) (by kernel_rfl)) Tryd.func22 (by kernel_rfl) slicesEqual.lp (l := [(true, sub [1, 1, 0, 1, 0, 0] slicesEqual.body, slicesEqual.nml4)]) (by kernel_rfl) (fun n => ⟨slicesEqual.atl4 n, trivial⟩) slicesEqual.eq
noncomputable def frameSame (fu : Nat) (a : S0) (b : S0) : Option (Bool × Unit) :=
  cond (a.1 == b.1) (
    cond (a.2.1 == b.2.1) (
      cond (a.2.2.1 == b.2.2.1) (
        cond (a.2.2.2.1 == b.2.2.2.1) (
          let t1 := a.2.2.2.2.1 == b.2.2.2.2.1
          cond t1 (
            (slicesEqual fu a.2.2.2.2.2.1 b.2.2.2.2.2.1).bind fun r2 =>
            some (r2.1, ())) (
            some (false, ()))) (
          some (false, ()))) (
        some (false, ()))) (
      some (false, ()))) (
    some (false, ()))

noncomputable def frameSame.body : Code := Tryd.f9.body.getD .skip
noncomputable def frameSame.con : Con := { ps := [kS0, kS0], rs := [.bool], f := fun n x => frameSame n x.1 x.2.1 }
noncomputable def frameSame.env : Env := { tys := [(26, ⟨kS0, 56⟩), (4, ⟨.bool, 1⟩), (5, ⟨(.int .u8), 1⟩), (22, ⟨(.int .u32), 4⟩), (23, ⟨(.int .u64), 8⟩), (24, ⟨(.slice (.int .u8)), 24⟩)], elems := [], ptrs := [], cons := [(22, slicesEqual.con)], objs := [], loops := [], cuts := [], globs := globs, base := 0 }
noncomputable def frameSame.lp (n : Nat) : LP (Kd.struct frameSame.con.rs).T := fun lo κ body nm K s =>
  loops n (Kd.struct frameSame.con.rs).T lo κ body nm K s
theorem frameSame.eq (n : Nat) (x : (Kd.struct frameSame.con.ps).T) : evFunc frameSame.env Tryd.f9 frameSame.body frameSame.con.ps frameSame.con.rs (frameSame.lp n) n x = frameSame.con.f n x := by kernel_rfl
theorem frameSame.sound : Sound Tryd.prog globs 9 frameSame.con :=
  sound_by (E := frameSame.env) (c := frameSame.body) (envOk (G := globs) (lc := [(22, slicesEqual.con)]) (lo := []) (envB_spec (by kernel_rfl)) rfl rfl ⟨.inl ⟨slicesEqual.sound, by kernel_rfl⟩, trivial⟩ rfl trivial (by kernel_rfl) (by kernel_rfl)) Tryd.func9 (by kernel_rfl) frameSame.lp (l := []) (by kernel_rfl) (fun n => trivial) frameSame.eq
noncomputable def ref20Same (fu : Nat) (a : S0) (b : S0) : Option (Bool × Unit) :=
  cond (a.1 == b.1) (
    cond (a.2.1 == b.2.1) (
      cond (a.2.2.1 == b.2.2.1) (
        cond (a.2.2.2.1 == b.2.2.2.1) (
          let t1 := a.2.2.2.2.1 == b.2.2.2.2.1
          cond t1 (
            let t2 := a.2.2.2.2.2.1 == b.2.2.2.2.2.1
            some (t2, ())) (
            some (false, ()))) (
          some (false, ()))) (
        some (false, ()))) (
      some (false, ()))) (
    some (false, ()))

noncomputable def ref20Same.body : Code := Tryd.f10.body.getD .skip
noncomputable def ref20Same.con : Con := { ps := [kS0, kS0], rs := [.bool], f := fun n x => ref20Same n x.1 x.2.1 }
noncomputable def ref20Same.env : Env := { tys := [(26, ⟨kS0, 56⟩), (4, ⟨.bool, 1⟩), (5, ⟨(.int .u8), 1⟩), (22, ⟨(.int .u32), 4⟩), (23, ⟨(.int .u64), 8⟩), (24, ⟨(.slice (.int .u8)), 24⟩), (9, ⟨.str, 16⟩)], elems := [(24, 5)], ptrs := [], cons := [], objs := [], loops := [], cuts := [], globs := globs, base := 0 }
noncomputable def ref20Same.lp (n : Nat) : LP (Kd.struct ref20Same.con.rs).T := fun lo κ body nm K s =>
  loops n (Kd.struct ref20Same.con.rs).T lo κ body nm K s
theorem ref20Same.eq (n : Nat) (x : (Kd.struct ref20Same.con.ps).T) : evFunc ref20Same.env Tryd.f10 ref20Same.body ref20Same.con.ps ref20Same.con.rs (ref20Same.lp n) n x = ref20Same.con.f n x := by kernel_rfl
theorem ref20Same.sound : Sound Tryd.prog globs 10 ref20Same.con :=
  sound_by (E := ref20Same.env) (c := ref20Same.body) (envOk (G := globs) (lc := []) (lo := []) (envB_spec (by kernel_rfl)) rfl rfl trivial rfl trivial (by kernel_rfl) (by kernel_rfl)) Tryd.func10 (by kernel_rfl) ref20Same.lp (l := []) (by kernel_rfl) (fun n => trivial) ref20Same.eq
noncomputable def law20FrameSame (fu : Nat) (a : S0) (b : S0) : Option (Bool × Unit) :=
  let t1 := (a.2.2.2.2.2.1.length : Int)
  let t2 := decide (t1 > (3000 : Int))
  cond t2 (
    (law20Fixed fu).bind fun r3 =>
    some (r3.1, ())) (
    let t4 := (b.2.2.2.2.2.1.length : Int)
    let t5 := decide (t4 > (3000 : Int))
    cond t5 (
      (law20Fixed fu).bind fun r6 =>
      some (r6.1, ())) (
      (law20Fixed fu).bind fun r7 =>
      cond r7.1 (
        (frameSame fu a b).bind fun r8 =>
        (ref20Same fu a b).bind fun r9 =>
        cond (r8.1 == r9.1) (
          (frameSame fu a a).bind fun r10 =>
          some (r10.1, ())) (
          some (false, ()))) (
        some (false, ()))))

noncomputable def law20FrameSame.body : Code := Tryd.f3.body.getD .skip
noncomputable def law20FrameSame.con : Con := { ps := [kS0, kS0], rs := [.bool], f := fun n x => law20FrameSame n x.1 x.2.1 }
noncomputable def law20FrameSame.env : Env := { tys := [(26, ⟨kS0, 56⟩), (4, ⟨.bool, 1⟩), (24, ⟨(.slice (.int .u8)), 24⟩), (5, ⟨(.int .u8), 1⟩)], elems := [(24, 5)], ptrs := [], cons := [(8, law20Fixed.con), (9, frameSame.con), (10, ref20Same.con)], objs := [], loops := [], cuts := [], globs := globs, base := 0 }
noncomputable def law20FrameSame.lp (n : Nat) : LP (Kd.struct law20FrameSame.con.rs).T := fun lo κ body nm K s =>
  loops n (Kd.struct law20FrameSame.con.rs).T lo κ body nm K s
theorem law20FrameSame.eq (n : Nat) (x : (Kd.struct law20FrameSame.con.ps).T) : evFunc law20FrameSame.env Tryd.f3 law20FrameSame.body law20FrameSame.con.ps law20FrameSame.con.rs (law20FrameSame.lp n) n x = law20FrameSame.con.f n x := by kernel_rfl
theorem law20FrameSame.sound : Sound Tryd.prog globs 3 law20FrameSame.con :=
  sound_by (E := law20FrameSame.env) (c := law20FrameSame.body) (envOk (G := globs) (lc := [(8, law20Fixed.con), (9, frameSame.con), (10, ref20Same.con)]) (lo := []) (envB_spec (by kernel_rfl)) rfl rfl ⟨.inl ⟨law20Fixed.sound, by kernel_rfl⟩, ⟨.inl ⟨frameSame.sound, by kernel_rfl⟩, ⟨.inl ⟨ref20Same.sound, by kernel_rfl⟩, trivial⟩⟩⟩ rfl trivial (by kernel_rfl) (by kernel_rfl)) Tryd.func3 (by kernel_rfl) law20FrameSame.lp (l := []) (by kernel_rfl) (fun n => trivial) law20FrameSame.eq
end
end Go.Shal.Pr
