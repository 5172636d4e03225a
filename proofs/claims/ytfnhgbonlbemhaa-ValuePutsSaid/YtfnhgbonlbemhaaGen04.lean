/- Prints of functions, and proofs that they are what the code computes. By an AI agent. -/
import Derived.Test.YtfnhgbonlbemhaaShC
import Derived.Test.YtfnhgbonlbemhaaProg
set_option linter.unusedVariables false
set_option maxRecDepth 100000
namespace Go.Shal.Pr
open Go Go.Shal Go.Proofs
noncomputable section
def globs : Globs := []
abbrev kS0 : Kd := .struct [(.int .u8), (.int .i64), .flt, .str]
abbrev S0 : Type := Int × Int × Nat × (List Int) × Unit
abbrev kS1 : Kd := .struct [.bool, (.int .i64), (.int .u64)]
abbrev S1 : Type := Bool × Int × Int × Unit
abbrev kS2 : Kd := .struct [(.int .u8), (.int .i64), (.int .u64), .str]
abbrev S2 : Type := Int × Int × Int × (List Int) × Unit
noncomputable def valueHeld (fu : Nat) (v : S0) : Option (S0 × Unit) :=
  cond (v.1 == (1 : Int)) (
    some ((v.1, v.2.1, (0 : Nat), [], ()), ())) (
    cond (v.1 == (2 : Int)) (
      some ((v.1, (0 : Int), v.2.2.1, [], ()), ())) (
      cond (v.1 == (3 : Int)) (
        some ((v.1, (0 : Int), (0 : Nat), v.2.2.2.1, ()), ())) (
        some ((v.1, (0 : Int), (0 : Nat), [], ()), ()))))

noncomputable def valueHeld.body : Code := Try.f59.body.getD .skip
noncomputable def valueHeld.con : Con := { ps := [kS0], rs := [kS0], f := fun n x => valueHeld n x.1 }
noncomputable def valueHeld.env : Env := { tys := [(58, ⟨kS0, 40⟩), (5, ⟨(.int .u8), 1⟩), (2, ⟨(.int .i64), 8⟩), (25, ⟨.flt, 8⟩), (9, ⟨.str, 16⟩)], elems := [], ptrs := [], cons := [], objs := [], loops := [], cuts := [], globs := globs, base := 0 }
noncomputable def valueHeld.lp (n : Nat) : LP (Kd.struct valueHeld.con.rs).T := fun lo κ body nm K s =>
  loops n (Kd.struct valueHeld.con.rs).T lo κ body nm K s
theorem valueHeld.eq (n : Nat) (x : (Kd.struct valueHeld.con.ps).T) : evFunc valueHeld.env Try.f59 valueHeld.body valueHeld.con.ps valueHeld.con.rs (valueHeld.lp n) n x = valueHeld.con.f n x := by kernel_rfl
theorem valueHeld.sound : Sound Try.prog globs 59 valueHeld.con :=
  sound_by (E := valueHeld.env) (c := valueHeld.body) (envOk (G := globs) (lc := []) (lo := []) (envB_spec (by kernel_rfl)) rfl rfl trivial rfl trivial (by kernel_rfl) (by kernel_rfl)) Try.func59 (by kernel_rfl) valueHeld.lp (l := []) (by kernel_rfl) (fun n => trivial) valueHeld.eq
noncomputable def valueMay (fu : Nat) (v : S0) : Option (Bool × Unit) :=
  (valueHeld fu v).bind fun r1 =>
  cond (decide (v.1 ≤ (3 : Int))) (
    let t2 := decide ((v.2.2.2.1.length : Int) ≤ (255 : Int))
    cond t2 (
      cond (r1.1.2.1 == v.2.1) (
        let t3 := r1.1.2.2.2.1 == v.2.2.2.1
        cond t3 (
          (extBits.f fu (r1.1.2.2.1, ())).bind fun r4 =>
          (extBits.f fu (v.2.2.1, ())).bind fun r5 =>
          some (r4.1 == r5.1, ())) (
          some (false, ()))) (
        some (false, ()))) (
      some (false, ()))) (
    some (false, ()))

noncomputable def valueMay.body : Code := Try.f38.body.getD .skip
noncomputable def valueMay.con : Con := { ps := [kS0], rs := [.bool], f := fun n x => valueMay n x.1 }
noncomputable def valueMay.env : Env := { tys := [(58, ⟨kS0, 40⟩), (4, ⟨.bool, 1⟩), (5, ⟨(.int .u8), 1⟩), (9, ⟨.str, 16⟩), (2, ⟨(.int .i64), 8⟩), (25, ⟨.flt, 8⟩)], elems := [], ptrs := [], cons := [(59, valueHeld.con), (26, extBits)], objs := [], loops := [], cuts := [], globs := globs, base := 0 }
noncomputable def valueMay.lp (n : Nat) : LP (Kd.struct valueMay.con.rs).T := fun lo κ body nm K s =>
  loops n (Kd.struct valueMay.con.rs).T lo κ body nm K s
theorem valueMay.eq (n : Nat) (x : (Kd.struct valueMay.con.ps).T) : evFunc valueMay.env Try.f38 valueMay.body valueMay.con.ps valueMay.con.rs (valueMay.lp n) n x = valueMay.con.f n x := by kernel_rfl
theorem valueMay.sound : Sound Try.prog globs 38 valueMay.con :=
  sound_by (E := valueMay.env) (c := valueMay.body) (envOk (G := globs) (lc := [(59, valueHeld.con), (26, extBits)]) (lo := []) (envB_spec (by kernel_rfl)) rfl rfl ⟨.inl ⟨valueHeld.sound, by kernel_rfl⟩, ⟨.inr (extBits_ok Try.func26 (by kernel_rfl) (by kernel_rfl) (by kernel_rfl) (by kernel_rfl)), trivial⟩⟩ rfl trivial (by kernel_rfl) (by kernel_rfl)) Try.func38 (by kernel_rfl) valueMay.lp (l := []) (by kernel_rfl) (fun n => trivial) valueMay.eq
noncomputable def bytealgCompareString (fu : Nat) (a : List Int) (b : List Int) : Option (Int × Unit) :=
  (extCmp.f fu (a, b, ())).bind fun r1 =>
  some (r1.1, ())

noncomputable def bytealgCompareString.body : Code := Try.f79.body.getD .skip
noncomputable def bytealgCompareString.con : Con := { ps := [.str, .str], rs := [(.int .i64)], f := fun n x => bytealgCompareString n x.1 x.2.1 }
noncomputable def bytealgCompareString.env : Env := { tys := [(3, ⟨(.int .i64), 8⟩)], elems := [], ptrs := [], cons := [(89, extCmp)], objs := [], loops := [], cuts := [], globs := globs, base := 0 }
noncomputable def bytealgCompareString.lp (n : Nat) : LP (Kd.struct bytealgCompareString.con.rs).T := fun lo κ body nm K s =>
  loops n (Kd.struct bytealgCompareString.con.rs).T lo κ body nm K s
theorem bytealgCompareString.eq (n : Nat) (x : (Kd.struct bytealgCompareString.con.ps).T) : evFunc bytealgCompareString.env Try.f79 bytealgCompareString.body bytealgCompareString.con.ps bytealgCompareString.con.rs (bytealgCompareString.lp n) n x = bytealgCompareString.con.f n x := by kernel_rfl
theorem bytealgCompareString.sound : Sound Try.prog globs 79 bytealgCompareString.con :=
  sound_by (E := bytealgCompareString.env) (c := bytealgCompareString.body) (envOk (G := globs) (lc := [(89, extCmp)]) (lo := []) (envB_spec (by kernel_rfl)) rfl rfl ⟨.inr (extCmp_ok Try.func89 (by kernel_rfl) (by kernel_rfl) (by kernel_rfl) (by kernel_rfl)), trivial⟩ rfl trivial (by kernel_rfl) (by kernel_rfl)) Try.func79 (by kernel_rfl) bytealgCompareString.lp (l := []) (by kernel_rfl) (fun n => trivial) bytealgCompareString.eq
noncomputable def stringsCompare (fu : Nat) (a : List Int) (b : List Int) : Option (Int × Unit) :=
  (bytealgCompareString fu a b).bind fun r1 =>
  some (r1.1, ())

noncomputable def stringsCompare.body : Code := Try.f56.body.getD .skip
noncomputable def stringsCompare.con : Con := { ps := [.str, .str], rs := [(.int .i64)], f := fun n x => stringsCompare n x.1 x.2.1 }
noncomputable def stringsCompare.env : Env := { tys := [(3, ⟨(.int .i64), 8⟩)], elems := [], ptrs := [], cons := [(79, bytealgCompareString.con)], objs := [], loops := [], cuts := [], globs := globs, base := 0 }
noncomputable def stringsCompare.lp (n : Nat) : LP (Kd.struct stringsCompare.con.rs).T := fun lo κ body nm K s =>
  loops n (Kd.struct stringsCompare.con.rs).T lo κ body nm K s
theorem stringsCompare.eq (n : Nat) (x : (Kd.struct stringsCompare.con.ps).T) : evFunc stringsCompare.env Try.f56 stringsCompare.body stringsCompare.con.ps stringsCompare.con.rs (stringsCompare.lp n) n x = stringsCompare.con.f n x := by kernel_rfl
theorem stringsCompare.sound : Sound Try.prog globs 56 stringsCompare.con :=
  sound_by (E := stringsCompare.env) (c := stringsCompare.body) (envOk (G := globs) (lc := [(79, bytealgCompareString.con)]) (lo := []) (envB_spec (by kernel_rfl)) rfl rfl ⟨.inl ⟨bytealgCompareString.sound, by kernel_rfl⟩, trivial⟩ rfl trivial (by kernel_rfl) (by kernel_rfl)) Try.func56 (by kernel_rfl) stringsCompare.lp (l := []) (by kernel_rfl) (fun n => trivial) stringsCompare.eq
noncomputable def realCompare (fu : Nat) (a : Nat) (b : Nat) : Option (Int × Bool × Unit) :=
  cond (fLss a b) (
    some ((-1 : Int), true, ())) (
    cond (fGtr a b) (
      some ((1 : Int), true, ())) (
      some ((0 : Int), fEql a b, ())))

noncomputable def realCompare.body : Code := Try.f18.body.getD .skip
noncomputable def realCompare.con : Con := { ps := [.flt, .flt], rs := [(.int .i64), .bool], f := fun n x => realCompare n x.1 x.2.1 }
noncomputable def realCompare.env : Env := { tys := [(3, ⟨(.int .i64), 8⟩), (4, ⟨.bool, 1⟩)], elems := [], ptrs := [], cons := [], objs := [], loops := [], cuts := [], globs := globs, base := 0 }
noncomputable def realCompare.lp (n : Nat) : LP (Kd.struct realCompare.con.rs).T := fun lo κ body nm K s =>
  loops n (Kd.struct realCompare.con.rs).T lo κ body nm K s
theorem realCompare.eq (n : Nat) (x : (Kd.struct realCompare.con.ps).T) : evFunc realCompare.env Try.f18 realCompare.body realCompare.con.ps realCompare.con.rs (realCompare.lp n) n x = realCompare.con.f n x := by kernel_rfl
theorem realCompare.sound : Sound Try.prog globs 18 realCompare.con :=
  sound_by (E := realCompare.env) (c := realCompare.body) (envOk (G := globs) (lc := []) (lo := []) (envB_spec (by kernel_rfl)) rfl rfl trivial rfl trivial (by kernel_rfl) (by kernel_rfl)) Try.func18 (by kernel_rfl) realCompare.lp (l := []) (by kernel_rfl) (fun n => trivial) realCompare.eq
noncomputable def mathFloor (fu : Nat) (xv : Nat) : Option (Nat × Unit) :=
  (extFloor.f fu (xv, ())).bind fun r1 =>
  some (r1.1, ())

noncomputable def mathFloor.body : Code := Try.f46.body.getD .skip
noncomputable def mathFloor.con : Con := { ps := [.flt], rs := [.flt], f := fun n x => mathFloor n x.1 }
noncomputable def mathFloor.env : Env := { tys := [(25, ⟨.flt, 8⟩)], elems := [], ptrs := [], cons := [(72, extFloor)], objs := [], loops := [], cuts := [], globs := globs, base := 0 }
noncomputable def mathFloor.lp (n : Nat) : LP (Kd.struct mathFloor.con.rs).T := fun lo κ body nm K s =>
  loops n (Kd.struct mathFloor.con.rs).T lo κ body nm K s
theorem mathFloor.eq (n : Nat) (x : (Kd.struct mathFloor.con.ps).T) : evFunc mathFloor.env Try.f46 mathFloor.body mathFloor.con.ps mathFloor.con.rs (mathFloor.lp n) n x = mathFloor.con.f n x := by kernel_rfl
theorem mathFloor.sound : Sound Try.prog globs 46 mathFloor.con :=
  sound_by (E := mathFloor.env) (c := mathFloor.body) (envOk (G := globs) (lc := [(72, extFloor)]) (lo := []) (envB_spec (by kernel_rfl)) rfl rfl ⟨.inr (extFloor_ok Try.func72 (by kernel_rfl) (by kernel_rfl) (by kernel_rfl) (by kernel_rfl)), trivial⟩ rfl trivial (by kernel_rfl) (by kernel_rfl)) Try.func46 (by kernel_rfl) mathFloor.lp (l := []) (by kernel_rfl) (fun n => trivial) mathFloor.eq
noncomputable def cmpIsNaN (fu : Nat) (xv : Int) : Option (Bool × Unit) :=
  some (xv != xv, ())

noncomputable def cmpIsNaN.body : Code := Try.f74.body.getD .skip
noncomputable def cmpIsNaN.con : Con := { ps := [(.int .i64)], rs := [.bool], f := fun n x => cmpIsNaN n x.1 }
noncomputable def cmpIsNaN.env : Env := { tys := [(4, ⟨.bool, 1⟩)], elems := [], ptrs := [], cons := [], objs := [], loops := [], cuts := [], globs := globs, base := 0 }
noncomputable def cmpIsNaN.lp (n : Nat) : LP (Kd.struct cmpIsNaN.con.rs).T := fun lo κ body nm K s =>
  loops n (Kd.struct cmpIsNaN.con.rs).T lo κ body nm K s
theorem cmpIsNaN.eq (n : Nat) (x : (Kd.struct cmpIsNaN.con.ps).T) : evFunc cmpIsNaN.env Try.f74 cmpIsNaN.body cmpIsNaN.con.ps cmpIsNaN.con.rs (cmpIsNaN.lp n) n x = cmpIsNaN.con.f n x := by kernel_rfl
theorem cmpIsNaN.sound : Sound Try.prog globs 74 cmpIsNaN.con :=
  sound_by (E := cmpIsNaN.env) (c := cmpIsNaN.body) (envOk (G := globs) (lc := []) (lo := []) (envB_spec (by kernel_rfl)) rfl rfl trivial rfl trivial (by kernel_rfl) (by kernel_rfl)) Try.func74 (by kernel_rfl) cmpIsNaN.lp (l := []) (by kernel_rfl) (fun n => trivial) cmpIsNaN.eq
noncomputable def cmpCompare (fu : Nat) (xv : Int) (yv : Int) : Option (Int × Unit) :=
  (cmpIsNaN fu xv).bind fun r1 =>
  (cmpIsNaN fu yv).bind fun r2 =>
  cond r1.1 (
    cond r2.1 (
      some ((0 : Int), ())) (
      some ((-1 : Int), ()))) (
    cond r2.1 (
      some ((1 : Int), ())) (
      cond (decide (xv < yv)) (
        some ((-1 : Int), ())) (
        cond (decide (xv > yv)) (
          some ((1 : Int), ())) (
          some ((0 : Int), ())))))

noncomputable def cmpCompare.body : Code := Try.f47.body.getD .skip
noncomputable def cmpCompare.con : Con := { ps := [(.int .i64), (.int .i64)], rs := [(.int .i64)], f := fun n x => cmpCompare n x.1 x.2.1 }
noncomputable def cmpCompare.env : Env := { tys := [(3, ⟨(.int .i64), 8⟩)], elems := [], ptrs := [], cons := [(74, cmpIsNaN.con)], objs := [], loops := [], cuts := [], globs := globs, base := 0 }
noncomputable def cmpCompare.lp (n : Nat) : LP (Kd.struct cmpCompare.con.rs).T := fun lo κ body nm K s =>
  loops n (Kd.struct cmpCompare.con.rs).T lo κ body nm K s
theorem cmpCompare.eq (n : Nat) (x : (Kd.struct cmpCompare.con.ps).T) : evFunc cmpCompare.env Try.f47 cmpCompare.body cmpCompare.con.ps cmpCompare.con.rs (cmpCompare.lp n) n x = cmpCompare.con.f n x := by kernel_rfl
theorem cmpCompare.sound : Sound Try.prog globs 47 cmpCompare.con :=
  sound_by (E := cmpCompare.env) (c := cmpCompare.body) (envOk (G := globs) (lc := [(74, cmpIsNaN.con)]) (lo := []) (envB_spec (by kernel_rfl)) rfl rfl ⟨.inl ⟨cmpIsNaN.sound, by kernel_rfl⟩, trivial⟩ rfl trivial (by kernel_rfl) (by kernel_rfl)) Try.func47 (by kernel_rfl) cmpCompare.lp (l := []) (by kernel_rfl) (fun n => trivial) cmpCompare.eq
noncomputable def realAgainst (fu : Nat) (n : Int) (xv : Nat) : Option (Int × Bool × Unit) :=
  cond (fNeq xv xv) (
    some ((0 : Int), false, ())) (
    let t1 := fGeq xv (4890909195324358656 : Nat)
    cond t1 (
      some ((-1 : Int), true, ())) (
      let t2 := fLss xv (14114281232179134464 : Nat)
      cond t2 (
        some ((1 : Int), true, ())) (
        (mathFloor fu xv).bind fun r3 =>
        chk (fIntOk .i64 r3.1) <|
        (cmpCompare fu n (fInt .i64 r3.1)).bind fun r4 =>
        cond (r4.1 == (0 : Int)) (
          cond (fGtr xv r3.1) (
            some ((-1 : Int), true, ())) (
            some (r4.1, true, ()))) (
          some (r4.1, true, ())))))

noncomputable def realAgainst.body : Code := Try.f13.body.getD .skip
noncomputable def realAgainst.con : Con := { ps := [(.int .i64), .flt], rs := [(.int .i64), .bool], f := fun n x => realAgainst n x.1 x.2.1 }
noncomputable def realAgainst.env : Env := { tys := [(3, ⟨(.int .i64), 8⟩), (4, ⟨.bool, 1⟩), (2, ⟨(.int .i64), 8⟩), (25, ⟨.flt, 8⟩)], elems := [], ptrs := [], cons := [(46, mathFloor.con), (47, cmpCompare.con)], objs := [], loops := [], cuts := [], globs := globs, base := 0 }
noncomputable def realAgainst.lp (n : Nat) : LP (Kd.struct realAgainst.con.rs).T := fun lo κ body nm K s =>
  loops n (Kd.struct realAgainst.con.rs).T lo κ body nm K s
theorem realAgainst.eq (n : Nat) (x : (Kd.struct realAgainst.con.ps).T) : evFunc realAgainst.env Try.f13 realAgainst.body realAgainst.con.ps realAgainst.con.rs (realAgainst.lp n) n x = realAgainst.con.f n x := by kernel_rfl
theorem realAgainst.sound : Sound Try.prog globs 13 realAgainst.con :=
  sound_by (E := realAgainst.env) (c := realAgainst.body) (envOk (G := globs) (lc := [(46, mathFloor.con), (47, cmpCompare.con)]) (lo := []) (envB_spec (by kernel_rfl)) rfl rfl ⟨.inl ⟨mathFloor.sound, by kernel_rfl⟩, ⟨.inl ⟨cmpCompare.sound, by kernel_rfl⟩, trivial⟩⟩ rfl trivial (by kernel_rfl) (by kernel_rfl)) Try.func13 (by kernel_rfl) realAgainst.lp (l := []) (by kernel_rfl) (fun n => trivial) realAgainst.eq
noncomputable def valueCompare (fu : Nat) (a : S0) (b : S0) : Option (Int × Bool × Unit) :=
  (valueMay fu a).bind fun r1 =>
  cond (!r1.1) (
    some ((0 : Int), false, ())) (
    (valueMay fu b).bind fun r2 =>
    cond (!r2.1) (
      some ((0 : Int), false, ())) (
      let t3 := [List.getD ([a.1, b.1]) 0 (0 : Int), List.getD ([a.1, b.1]) 1 (0 : Int)]
      let t4 := t3 == ([(3 : Int), (3 : Int)])
      cond t4 (
        (stringsCompare fu a.2.2.2.1 b.2.2.2.1).bind fun r5 =>
        some (r5.1, true, ())) (
        let t6 := [List.getD ([a.1, b.1]) 0 (0 : Int), List.getD ([a.1, b.1]) 1 (0 : Int)]
        let t7 := t6 == ([(2 : Int), (2 : Int)])
        cond t7 (
          (realCompare fu a.2.2.1 b.2.2.1).bind fun r8 =>
          some (r8.1, r8.2.1, ())) (
          let t9 := [List.getD ([a.1, b.1]) 0 (0 : Int), List.getD ([a.1, b.1]) 1 (0 : Int)]
          let t10 := t9 == ([(1 : Int), (2 : Int)])
          cond t10 (
            (realAgainst fu a.2.1 b.2.2.1).bind fun r11 =>
            some (r11.1, r11.2.1, ())) (
            let t12 := [List.getD ([a.1, b.1]) 0 (0 : Int), List.getD ([a.1, b.1]) 1 (0 : Int)]
            let t13 := t12 == ([(2 : Int), (1 : Int)])
            cond t13 (
              (realAgainst fu b.2.1 a.2.2.1).bind fun r14 =>
              let t15 := IntKind.i64.wrap (0 - r14.1)
              some (t15, r14.2.1, ())) (
              let t16 := [List.getD ([a.1, b.1]) 0 (0 : Int), List.getD ([a.1, b.1]) 1 (0 : Int)]
              let t17 := t16 == ([(1 : Int), (1 : Int)])
              cond t17 (
                cond (decide (a.2.1 < b.2.1)) (
                  some ((-1 : Int), true, ())) (
                  cond (decide (a.2.1 > b.2.1)) (
                    some ((1 : Int), true, ())) (
                    some ((0 : Int), true, ())))) (
                some ((0 : Int), false, ()))))))))

noncomputable def valueCompare.body : Code := Try.f35.body.getD .skip
noncomputable def valueCompare.con : Con := { ps := [kS0, kS0], rs := [(.int .i64), .bool], f := fun n x => valueCompare n x.1 x.2.1 }
noncomputable def valueCompare.env : Env := { tys := [(58, ⟨kS0, 40⟩), (3, ⟨(.int .i64), 8⟩), (4, ⟨.bool, 1⟩), (5, ⟨(.int .u8), 1⟩), (83, ⟨(.arr 2 (.int .u8)), 2⟩), (9, ⟨.str, 16⟩), (25, ⟨.flt, 8⟩), (2, ⟨(.int .i64), 8⟩)], elems := [], ptrs := [], cons := [(38, valueMay.con), (56, stringsCompare.con), (18, realCompare.con), (13, realAgainst.con)], objs := [], loops := [], cuts := [], globs := globs, base := 0 }
noncomputable def valueCompare.lp (n : Nat) : LP (Kd.struct valueCompare.con.rs).T := fun lo κ body nm K s =>
  loops n (Kd.struct valueCompare.con.rs).T lo κ body nm K s
theorem valueCompare.eq (n : Nat) (x : (Kd.struct valueCompare.con.ps).T) : evFunc valueCompare.env Try.f35 valueCompare.body valueCompare.con.ps valueCompare.con.rs (valueCompare.lp n) n x = valueCompare.con.f n x := by kernel_rfl
theorem valueCompare.sound : Sound Try.prog globs 35 valueCompare.con :=
  sound_by (E := valueCompare.env) (c := valueCompare.body) (envOk (G := globs) (lc := [(38, valueMay.con), (56, stringsCompare.con), (18, realCompare.con), (13, realAgainst.con)]) (lo := []) (envB_spec (by kernel_rfl)) rfl rfl ⟨.inl ⟨valueMay.sound, by kernel_rfl⟩, ⟨.inl ⟨stringsCompare.sound, by kernel_rfl⟩, ⟨.inl ⟨realCompare.sound, by kernel_rfl⟩, ⟨.inl ⟨realAgainst.sound, by kernel_rfl⟩, trivial⟩⟩⟩⟩ rfl trivial (by kernel_rfl) (by kernel_rfl)) Try.func35 (by kernel_rfl) valueCompare.lp (l := []) (by kernel_rfl) (fun n => trivial) valueCompare.eq
noncomputable def law04Fixed (fu : Nat) : Option (Bool × Unit) :=
  (valueCompare fu ((1 : Int), (2 : Int), (0 : Nat), [], ()) ((2 : Int), (0 : Int), (4612811918334230528 : Nat), [], ())).bind fun r1 =>
  (extFrom.f fu ((9223372036854775808 : Int), ())).bind fun r2 =>
  (valueCompare fu ((2 : Int), (0 : Int), r2.1, [], ()) ((1 : Int), (0 : Int), (0 : Nat), [], ())).bind fun r3 =>
  cond (r1.1 == (-1 : Int)) (
    cond r1.2.1 (
      cond (r3.1 == (0 : Int)) (
        cond r3.2.1 (
          (valueMay fu ((0 : Int), (0 : Int), (0 : Nat), [], ())).bind fun r4 =>
          some (r4.1, ())) (
          some (false, ()))) (
        some (false, ()))) (
      some (false, ()))) (
    some (false, ()))

noncomputable def law04Fixed.body : Code := Try.f34.body.getD .skip
noncomputable def law04Fixed.con : Con := { ps := [], rs := [.bool], f := fun n x => law04Fixed n }
noncomputable def law04Fixed.env : Env := { tys := [(4, ⟨.bool, 1⟩), (58, ⟨kS0, 40⟩)], elems := [], ptrs := [], cons := [(35, valueCompare.con), (14, extFrom), (38, valueMay.con)], objs := [], loops := [], cuts := [], globs := globs, base := 0 }
noncomputable def law04Fixed.lp (n : Nat) : LP (Kd.struct law04Fixed.con.rs).T := fun lo κ body nm K s =>
  loops n (Kd.struct law04Fixed.con.rs).T lo κ body nm K s
theorem law04Fixed.eq (n : Nat) (x : (Kd.struct law04Fixed.con.ps).T) : evFunc law04Fixed.env Try.f34 law04Fixed.body law04Fixed.con.ps law04Fixed.con.rs (law04Fixed.lp n) n x = law04Fixed.con.f n x := by kernel_rfl
theorem law04Fixed.sound : Sound Try.prog globs 34 law04Fixed.con :=
  sound_by (E := law04Fixed.env) (c := law04Fixed.body) (envOk (G := globs) (lc := [(35, valueCompare.con), (14, extFrom), (38, valueMay.con)]) (lo := []) (envB_spec (by kernel_rfl)) rfl rfl ⟨.inl ⟨valueCompare.sound, by kernel_rfl⟩, ⟨.inr (extFrom_ok Try.func14 (by kernel_rfl) (by kernel_rfl) (by kernel_rfl) (by kernel_rfl)), ⟨.inl ⟨valueMay.sound, by kernel_rfl⟩, trivial⟩⟩⟩ rfl trivial (by kernel_rfl) (by kernel_rfl)) Try.func34 (by kernel_rfl) law04Fixed.lp (l := []) (by kernel_rfl) (fun n => trivial) law04Fixed.eq
noncomputable def packGet.j50013 (fu : Nat) (k1 : Int → Int → Int → Option (Int × Int × Int × Unit)) (atv : Int) (n : Int) (i : Int) (v : Bool) : Option (Int × Int × Int × Unit) :=
  cond v (
    k1 (0 : Int) (0 : Int) (2 : Int)) (
    let t1 := IntKind.i64.wrap (atv + i)
    let t2 := IntKind.i64.wrap (t1 + (1 : Int))
    k1 n t2 (0 : Int))
noncomputable def packGet.j9 (fu : Nat) (k0 : Int → Int → (List Int) → Int → Int → Option (Int × Int × Int × Unit)) (k1 : Int → Int → Int → Option (Int × Int × Int × Unit)) (atv : Int) (n : Int) (i : Int) (c : Int) (v : List Int) (vx2 : Int) (vx3 : Int) : Option (Int × Int × Int × Unit) :=
  let t1 := IntKind.u64.wrap (bAnd .u8 c (127 : Int))
  let t2 := IntKind.i64.wrap ((7 : Int) * i)
  chk (!decide (t2 < 0)) <|
  let t3 := bOr .u64 n (sShl .u64 t1 t2)
  cond (decide (c ≥ (128 : Int))) (
    k0 atv t3 v vx2 vx3) (
    cond (c == (0 : Int)) (
      packGet.j50013 fu (fun vq5 vq5x2 vq5x3 => 
          k1 vq5 vq5x2 vq5x3) atv t3 i (decide (i > (0 : Int)))) (
      packGet.j50013 fu (fun vq6 vq6x2 vq6x3 => 
          k1 vq6 vq6x2 vq6x3) atv t3 i false))
noncomputable def packGet.b5 (fu : Nat) (next : Int → Int → (List Int) → Int → Int → Option (Int × Int × Int × Unit)) (k1 : Int → Int → Int → Option (Int × Int × Int × Unit)) (k2 : Unit → Option (Int × Int × Int × Unit)) (atv : Int) (n : Int) (v : List Int) (vx2 : Int) (vx3 : Int) : Option (Int × Int × Int × Unit) :=
  cond (decide (vx3 < vx2)) (
    chk (ixOk v vx3) <|
    let e1 := ixL (0 : Int) v vx3
    cond (vx3 == (9 : Int)) (
      cond (decide (e1 > (1 : Int))) (
        k1 (0 : Int) (0 : Int) (4 : Int)) (
        packGet.j9 fu (fun atvq11 nq11 vq11 vq11x2 vq11x3 => 
            let t2 := IntKind.i64.wrap (vq11x3 + (1 : Int))
            next atvq11 nq11 vq11 vq11x2 t2) (fun vq12 vq12x2 vq12x3 => 
            k1 vq12 vq12x2 vq12x3) atv n vx3 e1 v vx2 vx3)) (
      packGet.j9 fu (fun atvq13 nq13 vq13 vq13x2 vq13x3 => 
          let t3 := IntKind.i64.wrap (vq13x3 + (1 : Int))
          next atvq13 nq13 vq13 vq13x2 t3) (fun vq14 vq14x2 vq14x3 => 
          k1 vq14 vq14x2 vq14x3) atv n vx3 e1 v vx2 vx3)) (
    k2 ())
noncomputable def packGet.l5 (fu : Nat) (k1 : Int → Int → Int → Option (Int × Int × Int × Unit)) (k2 : Unit → Option (Int × Int × Int × Unit)) : Nat → Int → Int → (List Int) → Int → Int → Option (Int × Int × Int × Unit)
  | 0, _, _, _, _, _ => none
  | m + 1, atv, n, v, vx2, vx3 => packGet.b5 fu (packGet.l5 fu k1 k2 m) k1 k2 atv n v vx2 vx3
noncomputable def packGet (fu : Nat) (b : List Int) (atv : Int) : Option (Int × Int × Int × Unit) :=
  cond (decide (atv < (0 : Int))) (
    some ((0 : Int), (0 : Int), (3 : Int), ())) (
    let t1 := decide (atv > (b.length : Int))
    cond t1 (
      some ((0 : Int), (0 : Int), (3 : Int), ())) (
      chk (cutOk b atv (b.length : Int)) <|
      let t2 := cutL b atv (b.length : Int)
      packGet.l5 fu (fun vq3 vq3x2 vq3x3 => 
          some (vq3, vq3x2, vq3x3, ())) (fun (_ : Unit) => 
          some ((0 : Int), (0 : Int), (3 : Int), ())) fu atv (0 : Int) t2 (t2.length : Int) (0 : Int)))

noncomputable def packGet.body : Code := Try.f83.body.getD .skip
abbrev packGet.shj50013 : Shp := ⟨[.u, .d (.int .i64), .u, .u, .u, .u, .u, .d (.int .u64), .d (.int .i64), .u, .u, .u, .u, .u, .u, .u, .u, .u, .u, .u, .u, .u, .u, .u, .u, .u, .u, .u, .u, .u, .u, .u, .u, .u, .u, .u, .u, .u, .u, .u, .u, .u, .u, .u, .u, .u, .u, .u, .u, .d .bool, .u, .u, .u, .u, .u, .u, .u], []⟩
abbrev packGet.outj50013e1 : Shp := ⟨[.u, .u, .u, .u, .d (.int .u64), .d (.int .i64), .d (.int .i64), .u, .u, .u, .u, .u, .u, .u, .u, .u, .u, .u, .u, .u, .u, .u, .u, .u, .u, .u, .u, .u, .u, .u, .u, .u, .u, .u, .u, .u, .u, .u, .u, .u, .u, .u, .u, .u, .u, .u, .u, .u, .u, .u, .u, .u, .u, .u, .u, .u, .u], []⟩
noncomputable def packGet.nmj50013 : Norm := ⟨{ keep := [1, 7, 8, 49], shut := [(1, (.int .i64)), (7, (.int .u64)), (8, (.int .i64)), (49, .bool)], retag := [], heap := 0, dead := [], cshut := [], cretag := [] }, [(1, { keep := [4, 5, 6], shut := [(4, (.int .u64)), (5, (.int .i64)), (6, (.int .i64))], retag := [], heap := 0, dead := [], cshut := [], cretag := [] })]⟩
abbrev packGet.shj9 : Shp := ⟨[.u, .d (.int .i64), .u, .u, .u, .u, .u, .d (.int .u64), .d (.int .i64), .d (.int .u8), .u, .u, .u, .u, .u, .u, .u, .u, .u, .u, .d (.slice (.int .u8)), .d (.int .i64), .d (.int .i64), .u, .u, .u, .u, .u, .u, .u, .u, .u, .u, .u, .u, .u, .u, .u, .u, .u, .u, .u, .u, .u, .u, .u, .u, .u, .u, .u, .u, .u, .u, .u, .u, .u, .u], []⟩
abbrev packGet.outj9e0 : Shp := ⟨[.u, .d (.int .i64), .u, .u, .u, .u, .u, .d (.int .u64), .u, .u, .u, .u, .u, .u, .u, .u, .u, .u, .u, .u, .d (.slice (.int .u8)), .d (.int .i64), .d (.int .i64), .u, .u, .u, .u, .u, .u, .u, .u, .u, .u, .u, .u, .u, .u, .u, .u, .u, .u, .u, .u, .u, .u, .u, .u, .u, .u, .u, .u, .u, .u, .u, .u, .u, .u], []⟩
abbrev packGet.outj9e1 : Shp := ⟨[.u, .u, .u, .u, .d (.int .u64), .d (.int .i64), .d (.int .i64), .u, .u, .u, .u, .u, .u, .u, .u, .u, .u, .u, .u, .u, .u, .u, .u, .u, .u, .u, .u, .u, .u, .u, .u, .u, .u, .u, .u, .u, .u, .u, .u, .u, .u, .u, .u, .u, .u, .u, .u, .u, .u, .u, .u, .u, .u, .u, .u, .u, .u], []⟩
noncomputable def packGet.nmj9 : Norm := ⟨{ keep := [1, 7, 8, 9, 20, 21, 22], shut := [(1, (.int .i64)), (7, (.int .u64)), (8, (.int .i64)), (9, (.int .u8)), (20, (.slice (.int .u8))), (21, (.int .i64)), (22, (.int .i64))], retag := [], heap := 0, dead := [], cshut := [], cretag := [] }, [(0, { keep := [1, 7, 20, 21, 22], shut := [(1, (.int .i64)), (7, (.int .u64)), (20, (.slice (.int .u8))), (21, (.int .i64)), (22, (.int .i64))], retag := [], heap := 0, dead := [], cshut := [], cretag := [] }), (1, { keep := [4, 5, 6], shut := [(4, (.int .u64)), (5, (.int .i64)), (6, (.int .i64))], retag := [], heap := 0, dead := [], cshut := [], cretag := [] })]⟩
abbrev packGet.shl5 : Shp := ⟨[.u, .d (.int .i64), .u, .u, .u, .u, .u, .d (.int .u64), .u, .u, .u, .u, .u, .u, .u, .u, .u, .u, .u, .u, .d (.slice (.int .u8)), .d (.int .i64), .d (.int .i64), .u, .u, .u, .u, .u, .u, .u, .u, .u, .u, .u, .u, .u, .u, .u, .u, .u, .u, .u, .u, .u, .u, .u, .u, .u, .u, .u, .u, .u, .u, .u, .u, .u, .u], []⟩
abbrev packGet.outl5e1 : Shp := ⟨[.u, .u, .u, .u, .d (.int .u64), .d (.int .i64), .d (.int .i64), .u, .u, .u, .u, .u, .u, .u, .u, .u, .u, .u, .u, .u, .u, .u, .u, .u, .u, .u, .u, .u, .u, .u, .u, .u, .u, .u, .u, .u, .u, .u, .u, .u, .u, .u, .u, .u, .u, .u, .u, .u, .u, .u, .u, .u, .u, .u, .u, .u, .u], []⟩
abbrev packGet.outl5e2 : Shp := ⟨[.u, .u, .u, .u, .u, .u, .u, .u, .u, .u, .u, .u, .u, .u, .u, .u, .u, .u, .u, .u, .u, .u, .u, .u, .u, .u, .u, .u, .u, .u, .u, .u, .u, .u, .u, .u, .u, .u, .u, .u, .u, .u, .u, .u, .u, .u, .u, .u, .u, .u, .u, .u, .u, .u, .u, .u, .u], []⟩
noncomputable def packGet.nml5 : Norm := ⟨{ keep := [1, 7, 20, 21, 22], shut := [(1, (.int .i64)), (7, (.int .u64)), (20, (.slice (.int .u8))), (21, (.int .i64)), (22, (.int .i64))], retag := [], heap := 0, dead := [], cshut := [], cretag := [] }, [(1, { keep := [4, 5, 6], shut := [(4, (.int .u64)), (5, (.int .i64)), (6, (.int .i64))], retag := [], heap := 0, dead := [], cshut := [], cretag := [] }), (2, { keep := [], shut := [], retag := [], heap := 0, dead := [], cshut := [], cretag := [] })]⟩
noncomputable def packGet.con : Con := { ps := [(.slice (.int .u8)), (.int .i64)], rs := [(.int .u64), (.int .i64), (.int .i64)], f := fun n x => packGet n x.1 x.2.1 }
noncomputable def packGet.env : Env := { tys := [(22, ⟨(.int .u64), 8⟩), (3, ⟨(.int .i64), 8⟩), (65, ⟨(.int .i64), 8⟩), (4, ⟨.bool, 1⟩), (5, ⟨(.int .u8), 1⟩)], elems := [(64, 5)], ptrs := [], cons := [], objs := [], loops := [(5, packGet.nml5)], cuts := [(50013, packGet.nmj50013), (9, packGet.nmj9)], globs := globs, base := 0 }
noncomputable def packGet.lp (n : Nat) : LP (Kd.struct packGet.con.rs).T := fun lo κ body nm K s =>
  cond (!lo && Nat.beq κ 50013)
    (match packGet.shj50013.dec s with
    | some v => packGet.j50013 n (fun w0 w1 w2 => K .ret (packGet.outj50013e1.enc (w0, w1, w2, ()))) v.1 v.2.1 v.2.2.1 v.2.2.2.1
    | none => loops n (Kd.struct packGet.con.rs).T lo κ body nm K s)
    (cond (!lo && Nat.beq κ 9)
    (match packGet.shj9.dec s with
    | some v => packGet.j9 n (fun w0 w1 w2 w3 w4 => K .normal (packGet.outj9e0.enc (w0, w1, w2, w3, w4, ()))) (fun w0 w1 w2 => K .ret (packGet.outj9e1.enc (w0, w1, w2, ()))) v.1 v.2.1 v.2.2.1 v.2.2.2.1 v.2.2.2.2.1 v.2.2.2.2.2.1 v.2.2.2.2.2.2.1
    | none => loops n (Kd.struct packGet.con.rs).T lo κ body nm K s)
    (cond (lo && Nat.beq κ 5)
    (match packGet.shl5.dec s with
    | some v => packGet.l5 n (fun w0 w1 w2 => K .ret (packGet.outl5e1.enc (w0, w1, w2, ()))) (fun _ => K (.exit 0) (packGet.outl5e2.enc (()))) n v.1 v.2.1 v.2.2.1 v.2.2.2.1 v.2.2.2.2.1
    | none => loops n (Kd.struct packGet.con.rs).T lo κ body nm K s)
    (loops n (Kd.struct packGet.con.rs).T lo κ body nm K s)))
theorem packGet.atj50013 (n : Nat) (s : St) (K : Ex → St → Option (Kd.struct packGet.con.rs).T) : packGet.lp n false 50013 (evK packGet.env (packGet.lp n) n (sub [1, 1, 1, 0, 1, 0, 0, 1, 1, 0, 0, 1, 1, 1, 0, 1, 1, 1] packGet.body)) packGet.nmj50013 K s = loops n (Kd.struct packGet.con.rs).T false 50013 (evK packGet.env (packGet.lp n) n (sub [1, 1, 1, 0, 1, 0, 0, 1, 1, 0, 0, 1, 1, 1, 0, 1, 1, 1] packGet.body)) packGet.nmj50013 K s := by
  show (match packGet.shj50013.dec s with | some v => packGet.j50013 n (fun w0 w1 w2 => K .ret (packGet.outj50013e1.enc (w0, w1, w2, ()))) v.1 v.2.1 v.2.2.1 v.2.2.2.1 | none => loops n (Kd.struct packGet.con.rs).T false 50013 (evK packGet.env (packGet.lp n) n (sub [1, 1, 1, 0, 1, 0, 0, 1, 1, 0, 0, 1, 1, 1, 0, 1, 1, 1] packGet.body)) packGet.nmj50013 K s) = _
  cases h : packGet.shj50013.dec s with
  | none => rfl
  | some v =>
    rw [Shp.dec_enc h]
    kernel_rfl
theorem packGet.atj9 (n : Nat) (s : St) (K : Ex → St → Option (Kd.struct packGet.con.rs).T) : packGet.lp n false 9 (evK packGet.env (packGet.lp n) n (sub [1, 1, 1, 0, 1, 0, 0, 1, 1, 0, 0, 1, 1] packGet.body)) packGet.nmj9 K s = loops n (Kd.struct packGet.con.rs).T false 9 (evK packGet.env (packGet.lp n) n (sub [1, 1, 1, 0, 1, 0, 0, 1, 1, 0, 0, 1, 1] packGet.body)) packGet.nmj9 K s := by
  show (match packGet.shj9.dec s with | some v => packGet.j9 n (fun w0 w1 w2 w3 w4 => K .normal (packGet.outj9e0.enc (w0, w1, w2, w3, w4, ()))) (fun w0 w1 w2 => K .ret (packGet.outj9e1.enc (w0, w1, w2, ()))) v.1 v.2.1 v.2.2.1 v.2.2.2.1 v.2.2.2.2.1 v.2.2.2.2.2.1 v.2.2.2.2.2.2.1 | none => loops n (Kd.struct packGet.con.rs).T false 9 (evK packGet.env (packGet.lp n) n (sub [1, 1, 1, 0, 1, 0, 0, 1, 1, 0, 0, 1, 1] packGet.body)) packGet.nmj9 K s) = _
  cases h : packGet.shj9.dec s with
  | none => rfl
  | some v =>
    rw [Shp.dec_enc h]
    kernel_rfl
theorem packGet.atl5 (n : Nat) (s : St) (K : Ex → St → Option (Kd.struct packGet.con.rs).T) : packGet.lp n true 5 (evK packGet.env (packGet.lp n) n (sub [1, 1, 1, 0, 1, 0, 0] packGet.body)) packGet.nml5 K s = loops n (Kd.struct packGet.con.rs).T true 5 (evK packGet.env (packGet.lp n) n (sub [1, 1, 1, 0, 1, 0, 0] packGet.body)) packGet.nml5 K s := by
  show (match packGet.shl5.dec s with | some v => packGet.l5 n (fun w0 w1 w2 => K .ret (packGet.outl5e1.enc (w0, w1, w2, ()))) (fun _ => K (.exit 0) (packGet.outl5e2.enc (()))) n v.1 v.2.1 v.2.2.1 v.2.2.2.1 v.2.2.2.2.1 | none => loops n (Kd.struct packGet.con.rs).T true 5 (evK packGet.env (packGet.lp n) n (sub [1, 1, 1, 0, 1, 0, 0] packGet.body)) packGet.nml5 K s) = _
  cases h : packGet.shl5.dec s with
  | none => rfl
  | some v =>
    rw [Shp.dec_enc h]
    exact (evLoop_eq (sh := packGet.shl5) (body := evK packGet.env (packGet.lp n) n (sub [1, 1, 1, 0, 1, 0, 0] packGet.body)) (nm := packGet.nml5) (K := K) (b := fun nx v => packGet.b5 n (fun x0 x1 x2 x3 x4 => nx (x0, x1, x2, x3, x4, ())) (fun w0 w1 w2 => K .ret (packGet.outl5e1.enc (w0, w1, w2, ()))) (fun _ => K (.exit 0) (packGet.outl5e2.enc (()))) v.1 v.2.1 v.2.2.1 v.2.2.2.1 v.2.2.2.2.1) (l := fun m v => packGet.l5 n (fun w0 w1 w2 => K .ret (packGet.outl5e1.enc (w0, w1, w2, ()))) (fun _ => K (.exit 0) (packGet.outl5e2.enc (()))) m v.1 v.2.1 v.2.2.1 v.2.2.2.1 v.2.2.2.2.1) (fun _ => rfl) (fun _ _ => rfl) (fun m v => by kernel_rfl) n v).symm
theorem packGet.eq (n : Nat) (x : (Kd.struct packGet.con.ps).T) : evFunc packGet.env Try.f83 packGet.body packGet.con.ps packGet.con.rs (packGet.lp n) n x = packGet.con.f n x := by kernel_rfl
theorem packGet.sound : Sound Try.prog globs 83 packGet.con :=
  sound_by (E := packGet.env) (c := packGet.body) (envOk (G := globs) (lc := []) (lo := []) (envB_spec (by kernel_rfl)) rfl rfl trivial rfl trivial (by kernel_rfl) (by kernel_rfl)) Try.func83 (by kernel_rfl) packGet.lp (l := [(false, sub [1, 1, 1, 0, 1, 0, 0, 1, 1, 0, 0, 1, 1, 1, 0, 1, 1, 1] packGet.body, packGet.nmj50013), (false, sub [1, 1, 1, 0, 1, 0, 0, 1, 1, 0, 0, 1, 1] packGet.body, packGet.nmj9), (true, sub [1, 1, 1, 0, 1, 0, 0] packGet.body, packGet.nml5)]) (by kernel_rfl) (fun n => ⟨packGet.atj50013 n, ⟨packGet.atj9 n, ⟨packGet.atl5 n, trivial⟩⟩⟩) packGet.eq
noncomputable def packGetInt (fu : Nat) (b : List Int) (atv : Int) : Option (Int × Int × Int × Unit) :=
  (packGet fu b atv).bind fun r1 =>
  let t2 := IntKind.i64.wrap (sShr .u64 r1.1 (1 : Int))
  let t3 := IntKind.i64.wrap (bAnd .u64 r1.1 (1 : Int))
  let t4 := IntKind.i64.wrap (0 - t3)
  some (bXor .i64 t2 t4, r1.2.1, r1.2.2.1, ())

noncomputable def packGetInt.body : Code := Try.f66.body.getD .skip
noncomputable def packGetInt.con : Con := { ps := [(.slice (.int .u8)), (.int .i64)], rs := [(.int .i64), (.int .i64), (.int .i64)], f := fun n x => packGetInt n x.1 x.2.1 }
noncomputable def packGetInt.env : Env := { tys := [(2, ⟨(.int .i64), 8⟩), (3, ⟨(.int .i64), 8⟩), (65, ⟨(.int .i64), 8⟩), (22, ⟨(.int .u64), 8⟩)], elems := [], ptrs := [], cons := [(83, packGet.con)], objs := [], loops := [], cuts := [], globs := globs, base := 0 }
noncomputable def packGetInt.lp (n : Nat) : LP (Kd.struct packGetInt.con.rs).T := fun lo κ body nm K s =>
  loops n (Kd.struct packGetInt.con.rs).T lo κ body nm K s
theorem packGetInt.eq (n : Nat) (x : (Kd.struct packGetInt.con.ps).T) : evFunc packGetInt.env Try.f66 packGetInt.body packGetInt.con.ps packGetInt.con.rs (packGetInt.lp n) n x = packGetInt.con.f n x := by kernel_rfl
theorem packGetInt.sound : Sound Try.prog globs 66 packGetInt.con :=
  sound_by (E := packGetInt.env) (c := packGetInt.body) (envOk (G := globs) (lc := [(83, packGet.con)]) (lo := []) (envB_spec (by kernel_rfl)) rfl rfl ⟨.inl ⟨packGet.sound, by kernel_rfl⟩, trivial⟩ rfl trivial (by kernel_rfl) (by kernel_rfl)) Try.func66 (by kernel_rfl) packGetInt.lp (l := []) (by kernel_rfl) (fun n => trivial) packGetInt.eq
noncomputable def realBits (fu : Nat) (xv : Nat) : Option (Int × Unit) :=
  cond (fNeq xv xv) (
    some ((9221120237041090560 : Int), ())) (
    (extBits.f fu (xv, ())).bind fun r1 =>
    some (r1.1, ()))

noncomputable def realBits.body : Code := Try.f27.body.getD .skip
noncomputable def realBits.con : Con := { ps := [.flt], rs := [(.int .u64)], f := fun n x => realBits n x.1 }
noncomputable def realBits.env : Env := { tys := [(22, ⟨(.int .u64), 8⟩)], elems := [], ptrs := [], cons := [(26, extBits)], objs := [], loops := [], cuts := [], globs := globs, base := 0 }
noncomputable def realBits.lp (n : Nat) : LP (Kd.struct realBits.con.rs).T := fun lo κ body nm K s =>
  loops n (Kd.struct realBits.con.rs).T lo κ body nm K s
theorem realBits.eq (n : Nat) (x : (Kd.struct realBits.con.ps).T) : evFunc realBits.env Try.f27 realBits.body realBits.con.ps realBits.con.rs (realBits.lp n) n x = realBits.con.f n x := by kernel_rfl
theorem realBits.sound : Sound Try.prog globs 27 realBits.con :=
  sound_by (E := realBits.env) (c := realBits.body) (envOk (G := globs) (lc := [(26, extBits)]) (lo := []) (envB_spec (by kernel_rfl)) rfl rfl ⟨.inr (extBits_ok Try.func26 (by kernel_rfl) (by kernel_rfl) (by kernel_rfl) (by kernel_rfl)), trivial⟩ rfl trivial (by kernel_rfl) (by kernel_rfl)) Try.func27 (by kernel_rfl) realBits.lp (l := []) (by kernel_rfl) (fun n => trivial) realBits.eq
noncomputable def realFrom (fu : Nat) (bits : Int) : Option (Nat × Bool × Unit) :=
  (extFrom.f fu (bits, ())).bind fun r1 =>
  (realBits fu r1.1).bind fun r2 =>
  cond (r2.1 != bits) (
    some ((0 : Nat), false, ())) (
    some (r1.1, true, ()))

noncomputable def realFrom.body : Code := Try.f25.body.getD .skip
noncomputable def realFrom.con : Con := { ps := [(.int .u64)], rs := [.flt, .bool], f := fun n x => realFrom n x.1 }
noncomputable def realFrom.env : Env := { tys := [(25, ⟨.flt, 8⟩), (4, ⟨.bool, 1⟩)], elems := [], ptrs := [], cons := [(14, extFrom), (27, realBits.con)], objs := [], loops := [], cuts := [], globs := globs, base := 0 }
noncomputable def realFrom.lp (n : Nat) : LP (Kd.struct realFrom.con.rs).T := fun lo κ body nm K s =>
  loops n (Kd.struct realFrom.con.rs).T lo κ body nm K s
theorem realFrom.eq (n : Nat) (x : (Kd.struct realFrom.con.ps).T) : evFunc realFrom.env Try.f25 realFrom.body realFrom.con.ps realFrom.con.rs (realFrom.lp n) n x = realFrom.con.f n x := by kernel_rfl
theorem realFrom.sound : Sound Try.prog globs 25 realFrom.con :=
  sound_by (E := realFrom.env) (c := realFrom.body) (envOk (G := globs) (lc := [(14, extFrom), (27, realBits.con)]) (lo := []) (envB_spec (by kernel_rfl)) rfl rfl ⟨.inr (extFrom_ok Try.func14 (by kernel_rfl) (by kernel_rfl) (by kernel_rfl) (by kernel_rfl)), ⟨.inl ⟨realBits.sound, by kernel_rfl⟩, trivial⟩⟩ rfl trivial (by kernel_rfl) (by kernel_rfl)) Try.func25 (by kernel_rfl) realFrom.lp (l := []) (by kernel_rfl) (fun n => trivial) realFrom.eq
noncomputable def packGetReal.b5 (fu : Nat) (next : Int → Int → (List Int) → Int → Int → Option (Nat × Int × Int × Unit)) (k2 : Int → Int → Option (Nat × Int × Int × Unit)) (atv : Int) (n : Int) (v : List Int) (vx2 : Int) (vx3 : Int) : Option (Nat × Int × Int × Unit) :=
  cond (decide (vx3 < vx2)) (
    chk (ixOk v vx3) <|
    let e1 := ixL (0 : Int) v vx3
    let t2 := bOr .u64 (sShl .u64 n (8 : Int)) (IntKind.u64.wrap e1)
    let t3 := IntKind.i64.wrap (vx3 + (1 : Int))
    next atv t2 v vx2 t3) (
    k2 atv n)
noncomputable def packGetReal.l5 (fu : Nat) (k2 : Int → Int → Option (Nat × Int × Int × Unit)) : Nat → Int → Int → (List Int) → Int → Int → Option (Nat × Int × Int × Unit)
  | 0, _, _, _, _, _ => none
  | m + 1, atv, n, v, vx2, vx3 => packGetReal.b5 fu (packGetReal.l5 fu k2 m) k2 atv n v vx2 vx3
noncomputable def packGetReal (fu : Nat) (b : List Int) (atv : Int) : Option (Nat × Int × Int × Unit) :=
  cond (decide (atv < (0 : Int))) (
    some ((0 : Nat), (0 : Int), (3 : Int), ())) (
    let t1 := IntKind.i64.wrap ((b.length : Int) - (8 : Int))
    cond (decide (atv > t1)) (
      some ((0 : Nat), (0 : Int), (3 : Int), ())) (
      let t2 := IntKind.i64.wrap (atv + (8 : Int))
      chk (cutOk b atv t2) <|
      let t3 := ((cutL b atv t2).length : Int)
      packGetReal.l5 fu (fun atvq2 nq2 => 
          (realFrom fu nq2).bind fun r4 =>
          cond (!r4.2.1) (
            some ((0 : Nat), (0 : Int), (2 : Int), ())) (
            let t5 := IntKind.i64.wrap (atvq2 + (8 : Int))
            some (r4.1, t5, (0 : Int), ()))) fu atv (0 : Int) (cutL b atv t2) t3 (0 : Int)))

noncomputable def packGetReal.body : Code := Try.f67.body.getD .skip
abbrev packGetReal.shl5 : Shp := ⟨[.u, .d (.int .i64), .u, .u, .u, .u, .u, .d (.int .u64), .u, .u, .u, .u, .u, .u, .u, .u, .u, .u, .u, .u, .u, .u, .u, .u, .u, .d (.slice (.int .u8)), .d (.int .i64), .d (.int .i64), .u, .u, .u, .u, .u, .u, .u, .u, .u, .u, .u, .u, .u, .u, .u, .u, .u, .u, .u], []⟩
abbrev packGetReal.outl5e2 : Shp := ⟨[.u, .d (.int .i64), .u, .u, .u, .u, .u, .d (.int .u64), .u, .u, .u, .u, .u, .u, .u, .u, .u, .u, .u, .u, .u, .u, .u, .u, .u, .u, .u, .u, .u, .u, .u, .u, .u, .u, .u, .u, .u, .u, .u, .u, .u, .u, .u, .u, .u, .u, .u], []⟩
noncomputable def packGetReal.nml5 : Norm := ⟨{ keep := [1, 7, 25, 26, 27], shut := [(1, (.int .i64)), (7, (.int .u64)), (25, (.slice (.int .u8))), (26, (.int .i64)), (27, (.int .i64))], retag := [], heap := 0, dead := [], cshut := [], cretag := [] }, [(2, { keep := [1, 7], shut := [(1, (.int .i64)), (7, (.int .u64))], retag := [], heap := 0, dead := [], cshut := [], cretag := [] })]⟩
noncomputable def packGetReal.con : Con := { ps := [(.slice (.int .u8)), (.int .i64)], rs := [.flt, (.int .i64), (.int .i64)], f := fun n x => packGetReal n x.1 x.2.1 }
noncomputable def packGetReal.env : Env := { tys := [(25, ⟨.flt, 8⟩), (3, ⟨(.int .i64), 8⟩), (65, ⟨(.int .i64), 8⟩), (4, ⟨.bool, 1⟩), (5, ⟨(.int .u8), 1⟩), (22, ⟨(.int .u64), 8⟩)], elems := [(64, 5)], ptrs := [], cons := [(25, realFrom.con)], objs := [], loops := [(5, packGetReal.nml5)], cuts := [], globs := globs, base := 0 }
noncomputable def packGetReal.lp (n : Nat) : LP (Kd.struct packGetReal.con.rs).T := fun lo κ body nm K s =>
  cond (lo && Nat.beq κ 5)
    (match packGetReal.shl5.dec s with
    | some v => packGetReal.l5 n (fun w0 w1 => K (.exit 0) (packGetReal.outl5e2.enc (w0, w1, ()))) n v.1 v.2.1 v.2.2.1 v.2.2.2.1 v.2.2.2.2.1
    | none => loops n (Kd.struct packGetReal.con.rs).T lo κ body nm K s)
    (loops n (Kd.struct packGetReal.con.rs).T lo κ body nm K s)
theorem packGetReal.atl5 (n : Nat) (s : St) (K : Ex → St → Option (Kd.struct packGetReal.con.rs).T) : packGetReal.lp n true 5 (evK packGetReal.env (packGetReal.lp n) n (sub [1, 1, 1, 0, 1, 0, 0] packGetReal.body)) packGetReal.nml5 K s = loops n (Kd.struct packGetReal.con.rs).T true 5 (evK packGetReal.env (packGetReal.lp n) n (sub [1, 1, 1, 0, 1, 0, 0] packGetReal.body)) packGetReal.nml5 K s := by
  show (match packGetReal.shl5.dec s with | some v => packGetReal.l5 n (fun w0 w1 => K (.exit 0) (packGetReal.outl5e2.enc (w0, w1, ()))) n v.1 v.2.1 v.2.2.1 v.2.2.2.1 v.2.2.2.2.1 | none => loops n (Kd.struct packGetReal.con.rs).T true 5 (evK packGetReal.env (packGetReal.lp n) n (sub [1, 1, 1, 0, 1, 0, 0] packGetReal.body)) packGetReal.nml5 K s) = _
  cases h : packGetReal.shl5.dec s with
  | none => rfl
  | some v =>
    rw [Shp.dec_enc h]
    exact (evLoop_eq (sh := packGetReal.shl5) (body := evK packGetReal.env (packGetReal.lp n) n (sub [1, 1, 1, 0, 1, 0, 0] packGetReal.body)) (nm := packGetReal.nml5) (K := K) (b := fun nx v => packGetReal.b5 n (fun x0 x1 x2 x3 x4 => nx (x0, x1, x2, x3, x4, ())) (fun w0 w1 => K (.exit 0) (packGetReal.outl5e2.enc (w0, w1, ()))) v.1 v.2.1 v.2.2.1 v.2.2.2.1 v.2.2.2.2.1) (l := fun m v => packGetReal.l5 n (fun w0 w1 => K (.exit 0) (packGetReal.outl5e2.enc (w0, w1, ()))) m v.1 v.2.1 v.2.2.1 v.2.2.2.1 v.2.2.2.2.1) (fun _ => rfl) (fun _ _ => rfl) (fun m v => by kernel_rfl) n v).symm
theorem packGetReal.eq (n : Nat) (x : (Kd.struct packGetReal.con.ps).T) : evFunc packGetReal.env Try.f67 packGetReal.body packGetReal.con.ps packGetReal.con.rs (packGetReal.lp n) n x = packGetReal.con.f n x := by kernel_rfl
theorem packGetReal.sound : Sound Try.prog globs 67 packGetReal.con :=
  sound_by (E := packGetReal.env) (c := packGetReal.body) (envOk (G := globs) (lc := [(25, realFrom.con)]) (lo := []) (envB_spec (by kernel_rfl)) rfl rfl ⟨.inl ⟨realFrom.sound, by kernel_rfl⟩, trivial⟩ rfl trivial (by kernel_rfl) (by kernel_rfl)) Try.func67 (by kernel_rfl) packGetReal.lp (l := [(true, sub [1, 1, 1, 0, 1, 0, 0] packGetReal.body, packGetReal.nml5)]) (by kernel_rfl) (fun n => ⟨packGetReal.atl5 n, trivial⟩) packGetReal.eq
noncomputable def packGetText (fu : Nat) (b : List Int) (atv : Int) (most : Int) : Option ((List Int) × Int × Int × Unit) :=
  (packGet fu b atv).bind fun r1 =>
  cond (r1.2.2.1 != (0 : Int)) (
    some (([] : List Int), (0 : Int), r1.2.2.1, ())) (
    let t2 := IntKind.u64.wrap (max2 most (0 : Int))
    cond (decide (r1.1 > t2)) (
      some (([] : List Int), (0 : Int), (4 : Int), ())) (
      let t3 := IntKind.i64.wrap ((b.length : Int) - r1.2.1)
      let t4 := decide (r1.1 > IntKind.u64.wrap t3)
      cond t4 (
        some (([] : List Int), (0 : Int), (3 : Int), ())) (
        let t5 := IntKind.i64.wrap (r1.2.1 + IntKind.i64.wrap r1.1)
        chk (cutOk b r1.2.1 t5) <|
        let t6 := IntKind.i64.wrap (r1.2.1 + IntKind.i64.wrap r1.1)
        some (cutL b r1.2.1 t5, t6, (0 : Int), ()))))

noncomputable def packGetText.body : Code := Try.f68.body.getD .skip
noncomputable def packGetText.con : Con := { ps := [(.slice (.int .u8)), (.int .i64), (.int .i64)], rs := [.str, (.int .i64), (.int .i64)], f := fun n x => packGetText n x.1 x.2.1 x.2.2.1 }
noncomputable def packGetText.env : Env := { tys := [(9, ⟨.str, 16⟩), (3, ⟨(.int .i64), 8⟩), (65, ⟨(.int .i64), 8⟩), (22, ⟨(.int .u64), 8⟩), (5, ⟨(.int .u8), 1⟩), (64, ⟨(.slice (.int .u8)), 24⟩)], elems := [(64, 5)], ptrs := [], cons := [(83, packGet.con)], objs := [], loops := [], cuts := [], globs := globs, base := 0 }
noncomputable def packGetText.lp (n : Nat) : LP (Kd.struct packGetText.con.rs).T := fun lo κ body nm K s =>
  loops n (Kd.struct packGetText.con.rs).T lo κ body nm K s
theorem packGetText.eq (n : Nat) (x : (Kd.struct packGetText.con.ps).T) : evFunc packGetText.env Try.f68 packGetText.body packGetText.con.ps packGetText.con.rs (packGetText.lp n) n x = packGetText.con.f n x := by kernel_rfl
theorem packGetText.sound : Sound Try.prog globs 68 packGetText.con :=
  sound_by (E := packGetText.env) (c := packGetText.body) (envOk (G := globs) (lc := [(83, packGet.con)]) (lo := []) (envB_spec (by kernel_rfl)) rfl rfl ⟨.inl ⟨packGet.sound, by kernel_rfl⟩, trivial⟩ rfl trivial (by kernel_rfl) (by kernel_rfl)) Try.func68 (by kernel_rfl) packGetText.lp (l := []) (by kernel_rfl) (fun n => trivial) packGetText.eq
noncomputable def valueGet.j14 (fu : Nat) (k1 : Int → Int → S0 → Option (S0 × Int × Int × Unit)) (endv : Int) (ev : Int) (b0 : S0) (b1 : S0) : Option (S0 × Int × Int × Unit) :=
  cond (ev != (0 : Int)) (
    k1 (0 : Int) ev ((0 : Int), (0 : Int), (0 : Nat), [], ())) (
    k1 endv (0 : Int) b1)
noncomputable def valueGet (fu : Nat) (b : List Int) (atv : Int) : Option (S0 × Int × Int × Unit) :=
  cond (decide (atv < (0 : Int))) (
    some (((0 : Int), (0 : Int), (0 : Nat), [], ()), (0 : Int), (3 : Int), ())) (
    let t1 := decide (atv ≥ (b.length : Int))
    cond t1 (
      some (((0 : Int), (0 : Int), (0 : Nat), [], ()), (0 : Int), (3 : Int), ())) (
      chk (ixOk b atv) <|
      let e2 := ixL (0 : Int) b atv
      let t3 := IntKind.i64.wrap (atv + (1 : Int))
      cond (e2 == (0 : Int)) (
        valueGet.j14 fu (fun vq1 vq1x2 b0q1 => 
            some (b0q1, vq1, vq1x2, ())) t3 (0 : Int) ((0 : Int), (0 : Int), (0 : Nat), [], ()) (e2, (0 : Int), (0 : Nat), [], ())) (
        cond (e2 == (1 : Int)) (
          let t4 := IntKind.i64.wrap (atv + (1 : Int))
          (packGetInt fu b t4).bind fun r5 =>
          valueGet.j14 fu (fun vq2 vq2x2 b0q2 => 
              some (b0q2, vq2, vq2x2, ())) r5.2.1 r5.2.2.1 ((0 : Int), (0 : Int), (0 : Nat), [], ()) (e2, r5.1, (0 : Nat), [], ())) (
          cond (e2 == (2 : Int)) (
            let t6 := IntKind.i64.wrap (atv + (1 : Int))
            (packGetReal fu b t6).bind fun r7 =>
            valueGet.j14 fu (fun vq3 vq3x2 b0q3 => 
                some (b0q3, vq3, vq3x2, ())) r7.2.1 r7.2.2.1 ((0 : Int), (0 : Int), (0 : Nat), [], ()) (e2, (0 : Int), r7.1, [], ())) (
            cond (e2 == (3 : Int)) (
              let t8 := IntKind.i64.wrap (atv + (1 : Int))
              (packGetText fu b t8 (255 : Int)).bind fun r9 =>
              valueGet.j14 fu (fun vq4 vq4x2 b0q4 => 
                  some (b0q4, vq4, vq4x2, ())) r9.2.1 r9.2.2.1 ((0 : Int), (0 : Int), (0 : Nat), [], ()) (e2, (0 : Int), (0 : Nat), r9.1, ())) (
              valueGet.j14 fu (fun vq5 vq5x2 b0q5 => 
                  some (b0q5, vq5, vq5x2, ())) t3 (11 : Int) ((0 : Int), (0 : Int), (0 : Nat), [], ()) (e2, (0 : Int), (0 : Nat), [], ())))))))

noncomputable def valueGet.body : Code := Try.f44.body.getD .skip
abbrev valueGet.shj14 : Shp := ⟨[.u, .u, .u, .u, .p 0 0, .u, .u, .p 1 0, .d (.int .i64), .d (.int .i64), .u, .u, .u, .u, .u, .u, .u, .u, .u, .u, .u, .u, .u, .u, .u, .u, .u, .u, .u, .u, .u, .u, .u, .u, .u, .u, .u, .u, .u, .u, .u, .u, .u, .u, .u, .u, .u, .u, .u, .u, .u, .u, .u, .u, .u, .u, .u, .u, .u, .u, .u, .u, .u, .u, .u, .u, .u, .u, .u], [.c [.g kS0], .c [.g kS0]]⟩
abbrev valueGet.outj14e1 : Shp := ⟨[.u, .u, .u, .u, .p 0 0, .d (.int .i64), .d (.int .i64), .u, .u, .u, .u, .u, .u, .u, .u, .u, .u, .u, .u, .u, .u, .u, .u, .u, .u, .u, .u, .u, .u, .u, .u, .u, .u, .u, .u, .u, .u, .u, .u, .u, .u, .u, .u, .u, .u, .u, .u, .u, .u, .u, .u, .u, .u, .u, .u, .u, .u, .u, .u, .u, .u, .u, .u, .u, .u, .u, .u, .u, .u], [.c [.g kS0]]⟩
noncomputable def valueGet.nmj14 : Norm := ⟨{ keep := [4, 7, 8, 9], shut := [(8, (.int .i64)), (9, (.int .i64))], retag := [], heap := 2, dead := [], cshut := [(0, 0, (.int .u8)), (0, 1, (.int .i64)), (0, 2, .flt), (0, 3, .str), (1, 0, (.int .u8)), (1, 1, (.int .i64)), (1, 2, .flt), (1, 3, .str)], cretag := [] }, [(1, { keep := [4, 5, 6], shut := [(5, (.int .i64)), (6, (.int .i64))], retag := [], heap := 1, dead := [], cshut := [(0, 0, (.int .u8)), (0, 1, (.int .i64)), (0, 2, .flt), (0, 3, .str)], cretag := [] })]⟩
noncomputable def valueGet.con : Con := { ps := [(.slice (.int .u8)), (.int .i64)], rs := [kS0, (.int .i64), (.int .i64)], f := fun n x => valueGet n x.1 x.2.1 }
noncomputable def valueGet.env : Env := { tys := [(58, ⟨kS0, 40⟩), (3, ⟨(.int .i64), 8⟩), (65, ⟨(.int .i64), 8⟩), (4, ⟨.bool, 1⟩), (5, ⟨(.int .u8), 1⟩), (2, ⟨(.int .i64), 8⟩), (25, ⟨.flt, 8⟩), (9, ⟨.str, 16⟩)], elems := [(64, 5)], ptrs := [], cons := [(66, packGetInt.con), (67, packGetReal.con), (68, packGetText.con)], objs := [], loops := [], cuts := [(14, valueGet.nmj14)], globs := globs, base := 0 }
noncomputable def valueGet.lp (n : Nat) : LP (Kd.struct valueGet.con.rs).T := fun lo κ body nm K s =>
  cond (!lo && Nat.beq κ 14)
    (match valueGet.shj14.dec s with
    | some v => valueGet.j14 n (fun w0 w1 w2 => K .ret (valueGet.outj14e1.enc (w0, w1, w2, ()))) v.1 v.2.1 v.2.2.1 v.2.2.2.1
    | none => loops n (Kd.struct valueGet.con.rs).T lo κ body nm K s)
    (loops n (Kd.struct valueGet.con.rs).T lo κ body nm K s)
theorem valueGet.atj14 (n : Nat) (s : St) (K : Ex → St → Option (Kd.struct valueGet.con.rs).T) : valueGet.lp n false 14 (evK valueGet.env (valueGet.lp n) n (sub [1, 1, 1, 1, 1] valueGet.body)) valueGet.nmj14 K s = loops n (Kd.struct valueGet.con.rs).T false 14 (evK valueGet.env (valueGet.lp n) n (sub [1, 1, 1, 1, 1] valueGet.body)) valueGet.nmj14 K s := by
  show (match valueGet.shj14.dec s with | some v => valueGet.j14 n (fun w0 w1 w2 => K .ret (valueGet.outj14e1.enc (w0, w1, w2, ()))) v.1 v.2.1 v.2.2.1 v.2.2.2.1 | none => loops n (Kd.struct valueGet.con.rs).T false 14 (evK valueGet.env (valueGet.lp n) n (sub [1, 1, 1, 1, 1] valueGet.body)) valueGet.nmj14 K s) = _
  cases h : valueGet.shj14.dec s with
  | none => rfl
  | some v =>
    rw [Shp.dec_enc h]
    kernel_rfl
theorem valueGet.eq (n : Nat) (x : (Kd.struct valueGet.con.ps).T) : evFunc valueGet.env Try.f44 valueGet.body valueGet.con.ps valueGet.con.rs (valueGet.lp n) n x = valueGet.con.f n x := by kernel_rfl
theorem valueGet.sound : Sound Try.prog globs 44 valueGet.con :=
  sound_by (E := valueGet.env) (c := valueGet.body) (envOk (G := globs) (lc := [(66, packGetInt.con), (67, packGetReal.con), (68, packGetText.con)]) (lo := []) (envB_spec (by kernel_rfl)) rfl rfl ⟨.inl ⟨packGetInt.sound, by kernel_rfl⟩, ⟨.inl ⟨packGetReal.sound, by kernel_rfl⟩, ⟨.inl ⟨packGetText.sound, by kernel_rfl⟩, trivial⟩⟩⟩ rfl trivial (by kernel_rfl) (by kernel_rfl)) Try.func44 (by kernel_rfl) valueGet.lp (l := [(false, sub [1, 1, 1, 1, 1] valueGet.body, valueGet.nmj14)]) (by kernel_rfl) (fun n => ⟨valueGet.atj14 n, trivial⟩) valueGet.eq
noncomputable def ref03Get.j11 (fu : Nat) (k0 : (List Int) → Int → Int → Int → Int → Option (Int × Int × Int × Unit)) (k1 : Int → Int → Int → Option (Int × Int × Int × Unit)) (b : List Int) (atv : Int) (n : Int) (times : Int) (i : Int) (c : Int) : Option (Int × Int × Int × Unit) :=
  let t1 := IntKind.u64.wrap (Int.tmod c (128 : Int))
  let t2 := IntKind.u64.wrap (t1 * times)
  let t3 := IntKind.u64.wrap (n + t2)
  let t4 := IntKind.i64.wrap (i + (1 : Int))
  cond (decide (c < (128 : Int))) (
    cond (c == (0 : Int)) (
      cond (decide (t4 > (1 : Int))) (
        k1 (0 : Int) (0 : Int) (2 : Int)) (
        let t5 := IntKind.i64.wrap (atv + t4)
        k1 t3 t5 (0 : Int))) (
      let t6 := IntKind.i64.wrap (atv + t4)
      k1 t3 t6 (0 : Int))) (
    let t7 := IntKind.u64.wrap (times * (128 : Int))
    k0 b atv t3 t7 t4)
noncomputable def ref03Get.b6 (fu : Nat) (next : (List Int) → Int → Int → Int → Int → Option (Int × Int × Int × Unit)) (k1 : Int → Int → Int → Option (Int × Int × Int × Unit)) (b : List Int) (atv : Int) (n : Int) (times : Int) (i : Int) : Option (Int × Int × Int × Unit) :=
  let t1 := IntKind.i64.wrap (atv + i)
  let t2 := decide (t1 ≥ (b.length : Int))
  cond t2 (
    k1 (0 : Int) (0 : Int) (3 : Int)) (
    let t3 := IntKind.i64.wrap (atv + i)
    chk (ixOk b t3) <|
    let e4 := ixL (0 : Int) b t3
    cond (i == (9 : Int)) (
      cond (decide (e4 > (1 : Int))) (
        k1 (0 : Int) (0 : Int) (4 : Int)) (
        ref03Get.j11 fu (fun bq2 atvq2 nq2 timesq2 iq2 => 
            next bq2 atvq2 nq2 timesq2 iq2) (fun vq3 vq3x2 vq3x3 => 
            k1 vq3 vq3x2 vq3x3) b atv n times i e4)) (
      ref03Get.j11 fu (fun bq4 atvq4 nq4 timesq4 iq4 => 
          next bq4 atvq4 nq4 timesq4 iq4) (fun vq5 vq5x2 vq5x3 => 
          k1 vq5 vq5x2 vq5x3) b atv n times i e4))
noncomputable def ref03Get.l6 (fu : Nat) (k1 : Int → Int → Int → Option (Int × Int × Int × Unit)) : Nat → (List Int) → Int → Int → Int → Int → Option (Int × Int × Int × Unit)
  | 0, _, _, _, _, _ => none
  | m + 1, b, atv, n, times, i => ref03Get.b6 fu (ref03Get.l6 fu k1 m) k1 b atv n times i
noncomputable def ref03Get (fu : Nat) (b : List Int) (atv : Int) : Option (Int × Int × Int × Unit) :=
  cond (decide (atv < (0 : Int))) (
    some ((0 : Int), (0 : Int), (3 : Int), ())) (
    let t1 := decide (atv > (b.length : Int))
    cond t1 (
      some ((0 : Int), (0 : Int), (3 : Int), ())) (
      ref03Get.l6 fu (fun vq1 vq1x2 vq1x3 => 
          some (vq1, vq1x2, vq1x3, ())) fu b atv (0 : Int) (1 : Int) (0 : Int)))

noncomputable def ref03Get.body : Code := Try.f84.body.getD .skip
abbrev ref03Get.shj11 : Shp := ⟨[.d (.slice (.int .u8)), .d (.int .i64), .u, .u, .u, .u, .u, .d (.int .u64), .d (.int .u64), .d (.int .i64), .d (.int .u8), .u, .u, .u, .u, .u, .u, .u, .u, .u, .u, .u, .u, .u, .u, .u, .u, .u, .u, .u, .u, .u, .u, .u, .u, .u, .u, .u, .u, .u, .u, .u, .u, .u, .u, .u, .u, .u, .u, .u, .u, .u, .u, .u, .u, .u, .u, .u, .u, .u], []⟩
abbrev ref03Get.outj11e0 : Shp := ⟨[.d (.slice (.int .u8)), .d (.int .i64), .u, .u, .u, .u, .u, .d (.int .u64), .d (.int .u64), .d (.int .i64), .u, .u, .u, .u, .u, .u, .u, .u, .u, .u, .u, .u, .u, .u, .u, .u, .u, .u, .u, .u, .u, .u, .u, .u, .u, .u, .u, .u, .u, .u, .u, .u, .u, .u, .u, .u, .u, .u, .u, .u, .u, .u, .u, .u, .u, .u, .u, .u, .u, .u], []⟩
abbrev ref03Get.outj11e1 : Shp := ⟨[.u, .u, .u, .u, .d (.int .u64), .d (.int .i64), .d (.int .i64), .u, .u, .u, .u, .u, .u, .u, .u, .u, .u, .u, .u, .u, .u, .u, .u, .u, .u, .u, .u, .u, .u, .u, .u, .u, .u, .u, .u, .u, .u, .u, .u, .u, .u, .u, .u, .u, .u, .u, .u, .u, .u, .u, .u, .u, .u, .u, .u, .u, .u, .u, .u, .u], []⟩
noncomputable def ref03Get.nmj11 : Norm := ⟨{ keep := [0, 1, 7, 8, 9, 10], shut := [(0, (.slice (.int .u8))), (1, (.int .i64)), (7, (.int .u64)), (8, (.int .u64)), (9, (.int .i64)), (10, (.int .u8))], retag := [], heap := 0, dead := [], cshut := [], cretag := [] }, [(0, { keep := [0, 1, 7, 8, 9], shut := [(0, (.slice (.int .u8))), (1, (.int .i64)), (7, (.int .u64)), (8, (.int .u64)), (9, (.int .i64))], retag := [], heap := 0, dead := [], cshut := [], cretag := [] }), (1, { keep := [4, 5, 6], shut := [(4, (.int .u64)), (5, (.int .i64)), (6, (.int .i64))], retag := [], heap := 0, dead := [], cshut := [], cretag := [] })]⟩
abbrev ref03Get.shl6 : Shp := ⟨[.d (.slice (.int .u8)), .d (.int .i64), .u, .u, .u, .u, .u, .d (.int .u64), .d (.int .u64), .d (.int .i64), .u, .u, .u, .u, .u, .u, .u, .u, .u, .u, .u, .u, .u, .u, .u, .u, .u, .u, .u, .u, .u, .u, .u, .u, .u, .u, .u, .u, .u, .u, .u, .u, .u, .u, .u, .u, .u, .u, .u, .u, .u, .u, .u, .u, .u, .u, .u, .u, .u, .u], []⟩
abbrev ref03Get.outl6e1 : Shp := ⟨[.u, .u, .u, .u, .d (.int .u64), .d (.int .i64), .d (.int .i64), .u, .u, .u, .u, .u, .u, .u, .u, .u, .u, .u, .u, .u, .u, .u, .u, .u, .u, .u, .u, .u, .u, .u, .u, .u, .u, .u, .u, .u, .u, .u, .u, .u, .u, .u, .u, .u, .u, .u, .u, .u, .u, .u, .u, .u, .u, .u, .u, .u, .u, .u, .u, .u], []⟩
noncomputable def ref03Get.nml6 : Norm := ⟨{ keep := [0, 1, 7, 8, 9], shut := [(0, (.slice (.int .u8))), (1, (.int .i64)), (7, (.int .u64)), (8, (.int .u64)), (9, (.int .i64))], retag := [], heap := 0, dead := [], cshut := [], cretag := [] }, [(1, { keep := [4, 5, 6], shut := [(4, (.int .u64)), (5, (.int .i64)), (6, (.int .i64))], retag := [], heap := 0, dead := [], cshut := [], cretag := [] })]⟩
noncomputable def ref03Get.con : Con := { ps := [(.slice (.int .u8)), (.int .i64)], rs := [(.int .u64), (.int .i64), (.int .i64)], f := fun n x => ref03Get n x.1 x.2.1 }
noncomputable def ref03Get.env : Env := { tys := [(22, ⟨(.int .u64), 8⟩), (3, ⟨(.int .i64), 8⟩), (4, ⟨.bool, 1⟩), (5, ⟨(.int .u8), 1⟩)], elems := [(64, 5)], ptrs := [], cons := [], objs := [], loops := [(6, ref03Get.nml6)], cuts := [(11, ref03Get.nmj11)], globs := globs, base := 0 }
noncomputable def ref03Get.lp (n : Nat) : LP (Kd.struct ref03Get.con.rs).T := fun lo κ body nm K s =>
  cond (!lo && Nat.beq κ 11)
    (match ref03Get.shj11.dec s with
    | some v => ref03Get.j11 n (fun w0 w1 w2 w3 w4 => K .normal (ref03Get.outj11e0.enc (w0, w1, w2, w3, w4, ()))) (fun w0 w1 w2 => K .ret (ref03Get.outj11e1.enc (w0, w1, w2, ()))) v.1 v.2.1 v.2.2.1 v.2.2.2.1 v.2.2.2.2.1 v.2.2.2.2.2.1
    | none => loops n (Kd.struct ref03Get.con.rs).T lo κ body nm K s)
    (cond (lo && Nat.beq κ 6)
    (match ref03Get.shl6.dec s with
    | some v => ref03Get.l6 n (fun w0 w1 w2 => K .ret (ref03Get.outl6e1.enc (w0, w1, w2, ()))) n v.1 v.2.1 v.2.2.1 v.2.2.2.1 v.2.2.2.2.1
    | none => loops n (Kd.struct ref03Get.con.rs).T lo κ body nm K s)
    (loops n (Kd.struct ref03Get.con.rs).T lo κ body nm K s))
theorem ref03Get.atj11 (n : Nat) (s : St) (K : Ex → St → Option (Kd.struct ref03Get.con.rs).T) : ref03Get.lp n false 11 (evK ref03Get.env (ref03Get.lp n) n (sub [1, 1, 1, 1, 1, 0, 0, 0, 1, 1, 1] ref03Get.body)) ref03Get.nmj11 K s = loops n (Kd.struct ref03Get.con.rs).T false 11 (evK ref03Get.env (ref03Get.lp n) n (sub [1, 1, 1, 1, 1, 0, 0, 0, 1, 1, 1] ref03Get.body)) ref03Get.nmj11 K s := by
  show (match ref03Get.shj11.dec s with | some v => ref03Get.j11 n (fun w0 w1 w2 w3 w4 => K .normal (ref03Get.outj11e0.enc (w0, w1, w2, w3, w4, ()))) (fun w0 w1 w2 => K .ret (ref03Get.outj11e1.enc (w0, w1, w2, ()))) v.1 v.2.1 v.2.2.1 v.2.2.2.1 v.2.2.2.2.1 v.2.2.2.2.2.1 | none => loops n (Kd.struct ref03Get.con.rs).T false 11 (evK ref03Get.env (ref03Get.lp n) n (sub [1, 1, 1, 1, 1, 0, 0, 0, 1, 1, 1] ref03Get.body)) ref03Get.nmj11 K s) = _
  cases h : ref03Get.shj11.dec s with
  | none => rfl
  | some v =>
    rw [Shp.dec_enc h]
    kernel_rfl
theorem ref03Get.atl6 (n : Nat) (s : St) (K : Ex → St → Option (Kd.struct ref03Get.con.rs).T) : ref03Get.lp n true 6 (evK ref03Get.env (ref03Get.lp n) n (sub [1, 1, 1, 1, 1, 0, 0] ref03Get.body)) ref03Get.nml6 K s = loops n (Kd.struct ref03Get.con.rs).T true 6 (evK ref03Get.env (ref03Get.lp n) n (sub [1, 1, 1, 1, 1, 0, 0] ref03Get.body)) ref03Get.nml6 K s := by
  show (match ref03Get.shl6.dec s with | some v => ref03Get.l6 n (fun w0 w1 w2 => K .ret (ref03Get.outl6e1.enc (w0, w1, w2, ()))) n v.1 v.2.1 v.2.2.1 v.2.2.2.1 v.2.2.2.2.1 | none => loops n (Kd.struct ref03Get.con.rs).T true 6 (evK ref03Get.env (ref03Get.lp n) n (sub [1, 1, 1, 1, 1, 0, 0] ref03Get.body)) ref03Get.nml6 K s) = _
  cases h : ref03Get.shl6.dec s with
  | none => rfl
  | some v =>
    rw [Shp.dec_enc h]
    exact (evLoop_eq (sh := ref03Get.shl6) (body := evK ref03Get.env (ref03Get.lp n) n (sub [1, 1, 1, 1, 1, 0, 0] ref03Get.body)) (nm := ref03Get.nml6) (K := K) (b := fun nx v => ref03Get.b6 n (fun x0 x1 x2 x3 x4 => nx (x0, x1, x2, x3, x4, ())) (fun w0 w1 w2 => K .ret (ref03Get.outl6e1.enc (w0, w1, w2, ()))) v.1 v.2.1 v.2.2.1 v.2.2.2.1 v.2.2.2.2.1) (l := fun m v => ref03Get.l6 n (fun w0 w1 w2 => K .ret (ref03Get.outl6e1.enc (w0, w1, w2, ()))) m v.1 v.2.1 v.2.2.1 v.2.2.2.1 v.2.2.2.2.1) (fun _ => rfl) (fun _ _ => rfl) (fun m v => by kernel_rfl) n v).symm
theorem ref03Get.eq (n : Nat) (x : (Kd.struct ref03Get.con.ps).T) : evFunc ref03Get.env Try.f84 ref03Get.body ref03Get.con.ps ref03Get.con.rs (ref03Get.lp n) n x = ref03Get.con.f n x := by kernel_rfl
theorem ref03Get.sound : Sound Try.prog globs 84 ref03Get.con :=
  sound_by (E := ref03Get.env) (c := ref03Get.body) (envOk (G := globs) (lc := []) (lo := []) (envB_spec (by kernel_rfl)) rfl rfl trivial rfl trivial (by kernel_rfl) (by kernel_rfl)) Try.func84 (by kernel_rfl) ref03Get.lp (l := [(false, sub [1, 1, 1, 1, 1, 0, 0, 0, 1, 1, 1] ref03Get.body, ref03Get.nmj11), (true, sub [1, 1, 1, 1, 1, 0, 0] ref03Get.body, ref03Get.nml6)]) (by kernel_rfl) (fun n => ⟨ref03Get.atj11 n, ⟨ref03Get.atl6 n, trivial⟩⟩) ref03Get.eq
noncomputable def ref03GetInt (fu : Nat) (b : List Int) (atv : Int) : Option (Int × Int × Int × Unit) :=
  (ref03Get fu b atv).bind fun r1 =>
  let t2 := Int.tmod r1.1 (2 : Int) == (0 : Int)
  cond t2 (
    let t3 := IntKind.u64.wrap (Int.tdiv r1.1 (2 : Int))
    some (IntKind.i64.wrap t3, r1.2.1, r1.2.2.1, ())) (
    let t4 := IntKind.u64.wrap (Int.tdiv r1.1 (2 : Int))
    let t5 := IntKind.i64.wrap (0 - IntKind.i64.wrap t4)
    let t6 := IntKind.i64.wrap (t5 - (1 : Int))
    some (t6, r1.2.1, r1.2.2.1, ()))

noncomputable def ref03GetInt.body : Code := Try.f69.body.getD .skip
noncomputable def ref03GetInt.con : Con := { ps := [(.slice (.int .u8)), (.int .i64)], rs := [(.int .i64), (.int .i64), (.int .i64)], f := fun n x => ref03GetInt n x.1 x.2.1 }
noncomputable def ref03GetInt.env : Env := { tys := [(2, ⟨(.int .i64), 8⟩), (3, ⟨(.int .i64), 8⟩), (22, ⟨(.int .u64), 8⟩)], elems := [], ptrs := [], cons := [(84, ref03Get.con)], objs := [], loops := [], cuts := [], globs := globs, base := 0 }
noncomputable def ref03GetInt.lp (n : Nat) : LP (Kd.struct ref03GetInt.con.rs).T := fun lo κ body nm K s =>
  loops n (Kd.struct ref03GetInt.con.rs).T lo κ body nm K s
theorem ref03GetInt.eq (n : Nat) (x : (Kd.struct ref03GetInt.con.ps).T) : evFunc ref03GetInt.env Try.f69 ref03GetInt.body ref03GetInt.con.ps ref03GetInt.con.rs (ref03GetInt.lp n) n x = ref03GetInt.con.f n x := by kernel_rfl
theorem ref03GetInt.sound : Sound Try.prog globs 69 ref03GetInt.con :=
  sound_by (E := ref03GetInt.env) (c := ref03GetInt.body) (envOk (G := globs) (lc := [(84, ref03Get.con)]) (lo := []) (envB_spec (by kernel_rfl)) rfl rfl ⟨.inl ⟨ref03Get.sound, by kernel_rfl⟩, trivial⟩ rfl trivial (by kernel_rfl) (by kernel_rfl)) Try.func69 (by kernel_rfl) ref03GetInt.lp (l := []) (by kernel_rfl) (fun n => trivial) ref03GetInt.eq
noncomputable def ref02OfBits (fu : Nat) (b : Int) : Option (S1 × Unit) :=
  let t1 := decide (b ≥ (9223372036854775808 : Int))
  let t2 := IntKind.u64.wrap (Int.tdiv b (4503599627370496 : Int))
  let t3 := IntKind.i64.wrap (Int.tmod t2 (2048 : Int))
  let t4 := Int.tmod b (4503599627370496 : Int)
  some ((t1, t3, t4, ()), ())

noncomputable def ref02OfBits.body : Code := Try.f16.body.getD .skip
noncomputable def ref02OfBits.con : Con := { ps := [(.int .u64)], rs := [kS1], f := fun n x => ref02OfBits n x.1 }
noncomputable def ref02OfBits.env : Env := { tys := [(29, ⟨kS1, 24⟩), (3, ⟨(.int .i64), 8⟩), (22, ⟨(.int .u64), 8⟩)], elems := [], ptrs := [], cons := [], objs := [], loops := [], cuts := [], globs := globs, base := 0 }
noncomputable def ref02OfBits.lp (n : Nat) : LP (Kd.struct ref02OfBits.con.rs).T := fun lo κ body nm K s =>
  loops n (Kd.struct ref02OfBits.con.rs).T lo κ body nm K s
theorem ref02OfBits.eq (n : Nat) (x : (Kd.struct ref02OfBits.con.ps).T) : evFunc ref02OfBits.env Try.f16 ref02OfBits.body ref02OfBits.con.ps ref02OfBits.con.rs (ref02OfBits.lp n) n x = ref02OfBits.con.f n x := by kernel_rfl
theorem ref02OfBits.sound : Sound Try.prog globs 16 ref02OfBits.con :=
  sound_by (E := ref02OfBits.env) (c := ref02OfBits.body) (envOk (G := globs) (lc := []) (lo := []) (envB_spec (by kernel_rfl)) rfl rfl trivial rfl trivial (by kernel_rfl) (by kernel_rfl)) Try.func16 (by kernel_rfl) ref02OfBits.lp (l := []) (by kernel_rfl) (fun n => trivial) ref02OfBits.eq
noncomputable def ref02PartsNaN (fu : Nat) (p : S1) : Option (Bool × Unit) :=
  cond (p.2.1 == (2047 : Int)) (
    some (p.2.2.1 != (0 : Int), ())) (
    some (false, ()))

noncomputable def ref02PartsNaN.body : Code := Try.f48.body.getD .skip
noncomputable def ref02PartsNaN.con : Con := { ps := [kS1], rs := [.bool], f := fun n x => ref02PartsNaN n x.1 }
noncomputable def ref02PartsNaN.env : Env := { tys := [(29, ⟨kS1, 24⟩), (4, ⟨.bool, 1⟩), (3, ⟨(.int .i64), 8⟩), (22, ⟨(.int .u64), 8⟩)], elems := [], ptrs := [], cons := [], objs := [], loops := [], cuts := [], globs := globs, base := 0 }
noncomputable def ref02PartsNaN.lp (n : Nat) : LP (Kd.struct ref02PartsNaN.con.rs).T := fun lo κ body nm K s =>
  loops n (Kd.struct ref02PartsNaN.con.rs).T lo κ body nm K s
theorem ref02PartsNaN.eq (n : Nat) (x : (Kd.struct ref02PartsNaN.con.ps).T) : evFunc ref02PartsNaN.env Try.f48 ref02PartsNaN.body ref02PartsNaN.con.ps ref02PartsNaN.con.rs (ref02PartsNaN.lp n) n x = ref02PartsNaN.con.f n x := by kernel_rfl
theorem ref02PartsNaN.sound : Sound Try.prog globs 48 ref02PartsNaN.con :=
  sound_by (E := ref02PartsNaN.env) (c := ref02PartsNaN.body) (envOk (G := globs) (lc := []) (lo := []) (envB_spec (by kernel_rfl)) rfl rfl trivial rfl trivial (by kernel_rfl) (by kernel_rfl)) Try.func48 (by kernel_rfl) ref02PartsNaN.lp (l := []) (by kernel_rfl) (fun n => trivial) ref02PartsNaN.eq
noncomputable def ref02PartsBits (fu : Nat) (p : S1) : Option (Int × Unit) :=
  (ref02PartsNaN fu p).bind fun r1 =>
  cond r1.1 (
    some ((9221120237041090560 : Int), ())) (
    let t2 := IntKind.u64.wrap (IntKind.u64.wrap p.2.1 * (4503599627370496 : Int))
    let t3 := IntKind.u64.wrap (t2 + p.2.2.1)
    cond p.1 (
      let t4 := IntKind.u64.wrap (t3 + (9223372036854775808 : Int))
      some (t4, ())) (
      some (t3, ())))

noncomputable def ref02PartsBits.body : Code := Try.f23.body.getD .skip
noncomputable def ref02PartsBits.con : Con := { ps := [kS1], rs := [(.int .u64)], f := fun n x => ref02PartsBits n x.1 }
noncomputable def ref02PartsBits.env : Env := { tys := [(29, ⟨kS1, 24⟩), (22, ⟨(.int .u64), 8⟩), (3, ⟨(.int .i64), 8⟩), (4, ⟨.bool, 1⟩)], elems := [], ptrs := [], cons := [(48, ref02PartsNaN.con)], objs := [], loops := [], cuts := [], globs := globs, base := 0 }
noncomputable def ref02PartsBits.lp (n : Nat) : LP (Kd.struct ref02PartsBits.con.rs).T := fun lo κ body nm K s =>
  loops n (Kd.struct ref02PartsBits.con.rs).T lo κ body nm K s
theorem ref02PartsBits.eq (n : Nat) (x : (Kd.struct ref02PartsBits.con.ps).T) : evFunc ref02PartsBits.env Try.f23 ref02PartsBits.body ref02PartsBits.con.ps ref02PartsBits.con.rs (ref02PartsBits.lp n) n x = ref02PartsBits.con.f n x := by kernel_rfl
theorem ref02PartsBits.sound : Sound Try.prog globs 23 ref02PartsBits.con :=
  sound_by (E := ref02PartsBits.env) (c := ref02PartsBits.body) (envOk (G := globs) (lc := [(48, ref02PartsNaN.con)]) (lo := []) (envB_spec (by kernel_rfl)) rfl rfl ⟨.inl ⟨ref02PartsNaN.sound, by kernel_rfl⟩, trivial⟩ rfl trivial (by kernel_rfl) (by kernel_rfl)) Try.func23 (by kernel_rfl) ref02PartsBits.lp (l := []) (by kernel_rfl) (fun n => trivial) ref02PartsBits.eq
noncomputable def ref03GetReal.b5 (fu : Nat) (next : (List Int) → Int → Int → Int → Option (Nat × Int × Int × Unit)) (k2 : Int → Int → Option (Nat × Int × Int × Unit)) (b : List Int) (atv : Int) (n : Int) (i : Int) : Option (Nat × Int × Int × Unit) :=
  cond (decide (i < (8 : Int))) (
    let t1 := IntKind.u64.wrap (n * (256 : Int))
    let t2 := IntKind.i64.wrap (atv + i)
    chk (ixOk b t2) <|
    let e3 := ixL (0 : Int) b t2
    let t4 := IntKind.u64.wrap (t1 + IntKind.u64.wrap e3)
    let t5 := IntKind.i64.wrap (i + (1 : Int))
    next b atv t4 t5) (
    k2 atv n)
noncomputable def ref03GetReal.l5 (fu : Nat) (k2 : Int → Int → Option (Nat × Int × Int × Unit)) : Nat → (List Int) → Int → Int → Int → Option (Nat × Int × Int × Unit)
  | 0, _, _, _, _ => none
  | m + 1, b, atv, n, i => ref03GetReal.b5 fu (ref03GetReal.l5 fu k2 m) k2 b atv n i
noncomputable def ref03GetReal (fu : Nat) (b : List Int) (atv : Int) : Option (Nat × Int × Int × Unit) :=
  cond (decide (atv < (0 : Int))) (
    some ((0 : Nat), (0 : Int), (3 : Int), ())) (
    let t1 := IntKind.i64.wrap ((b.length : Int) - (8 : Int))
    cond (decide (atv > t1)) (
      some ((0 : Nat), (0 : Int), (3 : Int), ())) (
      ref03GetReal.l5 fu (fun atvq2 nq2 => 
          (ref02OfBits fu nq2).bind fun r2 =>
          (ref02PartsBits fu r2.1).bind fun r3 =>
          cond (r3.1 != nq2) (
            some ((0 : Nat), (0 : Int), (2 : Int), ())) (
            (extFrom.f fu (nq2, ())).bind fun r4 =>
            let t5 := IntKind.i64.wrap (atvq2 + (8 : Int))
            some (r4.1, t5, (0 : Int), ()))) fu b atv (0 : Int) (0 : Int)))

noncomputable def ref03GetReal.body : Code := Try.f70.body.getD .skip
abbrev ref03GetReal.shl5 : Shp := ⟨[.d (.slice (.int .u8)), .d (.int .i64), .u, .u, .u, .u, .u, .d (.int .u64), .d (.int .i64), .u, .u, .u, .u, .u, .u, .u, .u, .u, .u, .u, .u, .u, .u, .u, .u, .u, .u, .u, .u, .u, .u, .u, .u, .u, .u, .u, .u, .u, .u, .u, .u], []⟩
abbrev ref03GetReal.outl5e2 : Shp := ⟨[.u, .d (.int .i64), .u, .u, .u, .u, .u, .d (.int .u64), .u, .u, .u, .u, .u, .u, .u, .u, .u, .u, .u, .u, .u, .u, .u, .u, .u, .u, .u, .u, .u, .u, .u, .u, .u, .u, .u, .u, .u, .u, .u, .u, .u], []⟩
noncomputable def ref03GetReal.nml5 : Norm := ⟨{ keep := [0, 1, 7, 8], shut := [(0, (.slice (.int .u8))), (1, (.int .i64)), (7, (.int .u64)), (8, (.int .i64))], retag := [], heap := 0, dead := [], cshut := [], cretag := [] }, [(2, { keep := [1, 7], shut := [(1, (.int .i64)), (7, (.int .u64))], retag := [], heap := 0, dead := [], cshut := [], cretag := [] })]⟩
noncomputable def ref03GetReal.con : Con := { ps := [(.slice (.int .u8)), (.int .i64)], rs := [.flt, (.int .i64), (.int .i64)], f := fun n x => ref03GetReal n x.1 x.2.1 }
noncomputable def ref03GetReal.env : Env := { tys := [(25, ⟨.flt, 8⟩), (3, ⟨(.int .i64), 8⟩), (4, ⟨.bool, 1⟩), (5, ⟨(.int .u8), 1⟩), (22, ⟨(.int .u64), 8⟩)], elems := [(64, 5)], ptrs := [], cons := [(16, ref02OfBits.con), (23, ref02PartsBits.con), (14, extFrom)], objs := [], loops := [(5, ref03GetReal.nml5)], cuts := [], globs := globs, base := 0 }
noncomputable def ref03GetReal.lp (n : Nat) : LP (Kd.struct ref03GetReal.con.rs).T := fun lo κ body nm K s =>
  cond (lo && Nat.beq κ 5)
    (match ref03GetReal.shl5.dec s with
    | some v => ref03GetReal.l5 n (fun w0 w1 => K (.exit 0) (ref03GetReal.outl5e2.enc (w0, w1, ()))) n v.1 v.2.1 v.2.2.1 v.2.2.2.1
    | none => loops n (Kd.struct ref03GetReal.con.rs).T lo κ body nm K s)
    (loops n (Kd.struct ref03GetReal.con.rs).T lo κ body nm K s)
theorem ref03GetReal.atl5 (n : Nat) (s : St) (K : Ex → St → Option (Kd.struct ref03GetReal.con.rs).T) : ref03GetReal.lp n true 5 (evK ref03GetReal.env (ref03GetReal.lp n) n (sub [1, 1, 1, 0, 1, 0, 0] ref03GetReal.body)) ref03GetReal.nml5 K s = loops n (Kd.struct ref03GetReal.con.rs).T true 5 (evK ref03GetReal.env (ref03GetReal.lp n) n (sub [1, 1, 1, 0, 1, 0, 0] ref03GetReal.body)) ref03GetReal.nml5 K s := by
  show (match ref03GetReal.shl5.dec s with | some v => ref03GetReal.l5 n (fun w0 w1 => K (.exit 0) (ref03GetReal.outl5e2.enc (w0, w1, ()))) n v.1 v.2.1 v.2.2.1 v.2.2.2.1 | none => loops n (Kd.struct ref03GetReal.con.rs).T true 5 (evK ref03GetReal.env (ref03GetReal.lp n) n (sub [1, 1, 1, 0, 1, 0, 0] ref03GetReal.body)) ref03GetReal.nml5 K s) = _
  cases h : ref03GetReal.shl5.dec s with
  | none => rfl
  | some v =>
    rw [Shp.dec_enc h]
    exact (evLoop_eq (sh := ref03GetReal.shl5) (body := evK ref03GetReal.env (ref03GetReal.lp n) n (sub [1, 1, 1, 0, 1, 0, 0] ref03GetReal.body)) (nm := ref03GetReal.nml5) (K := K) (b := fun nx v => ref03GetReal.b5 n (fun x0 x1 x2 x3 => nx (x0, x1, x2, x3, ())) (fun w0 w1 => K (.exit 0) (ref03GetReal.outl5e2.enc (w0, w1, ()))) v.1 v.2.1 v.2.2.1 v.2.2.2.1) (l := fun m v => ref03GetReal.l5 n (fun w0 w1 => K (.exit 0) (ref03GetReal.outl5e2.enc (w0, w1, ()))) m v.1 v.2.1 v.2.2.1 v.2.2.2.1) (fun _ => rfl) (fun _ _ => rfl) (fun m v => by kernel_rfl) n v).symm
theorem ref03GetReal.eq (n : Nat) (x : (Kd.struct ref03GetReal.con.ps).T) : evFunc ref03GetReal.env Try.f70 ref03GetReal.body ref03GetReal.con.ps ref03GetReal.con.rs (ref03GetReal.lp n) n x = ref03GetReal.con.f n x := by kernel_rfl
theorem ref03GetReal.sound : Sound Try.prog globs 70 ref03GetReal.con :=
  sound_by (E := ref03GetReal.env) (c := ref03GetReal.body) (envOk (G := globs) (lc := [(16, ref02OfBits.con), (23, ref02PartsBits.con), (14, extFrom)]) (lo := []) (envB_spec (by kernel_rfl)) rfl rfl ⟨.inl ⟨ref02OfBits.sound, by kernel_rfl⟩, ⟨.inl ⟨ref02PartsBits.sound, by kernel_rfl⟩, ⟨.inr (extFrom_ok Try.func14 (by kernel_rfl) (by kernel_rfl) (by kernel_rfl) (by kernel_rfl)), trivial⟩⟩⟩ rfl trivial (by kernel_rfl) (by kernel_rfl)) Try.func70 (by kernel_rfl) ref03GetReal.lp (l := [(true, sub [1, 1, 1, 0, 1, 0, 0] ref03GetReal.body, ref03GetReal.nml5)]) (by kernel_rfl) (fun n => ⟨ref03GetReal.atl5 n, trivial⟩) ref03GetReal.eq
noncomputable def ref03GetText.j6 (fu : Nat) (k1 : (List Int) → Int → Int → Option ((List Int) × Int × Int × Unit)) (b : List Int) (most : Int) (n : Int) (endv : Int) : Option ((List Int) × Int × Int × Unit) :=
  let t1 := decide (n > IntKind.u64.wrap most)
  cond t1 (
    k1 ([] : List Int) (0 : Int) (4 : Int)) (
    let t2 := IntKind.u64.wrap (b.length : Int)
    cond (decide (n > t2)) (
      k1 ([] : List Int) (0 : Int) (3 : Int)) (
      let t3 := IntKind.i64.wrap ((b.length : Int) - endv)
      let t4 := decide (IntKind.i64.wrap n > t3)
      cond t4 (
        k1 ([] : List Int) (0 : Int) (3 : Int)) (
        let t5 := IntKind.i64.wrap (endv + IntKind.i64.wrap n)
        chk (cutOk b endv t5) <|
        let t6 := IntKind.i64.wrap (endv + IntKind.i64.wrap n)
        k1 (cutL b endv t5) t6 (0 : Int))))
noncomputable def ref03GetText (fu : Nat) (b : List Int) (atv : Int) (most : Int) : Option ((List Int) × Int × Int × Unit) :=
  (ref03Get fu b atv).bind fun r1 =>
  cond (r1.2.2.1 != (0 : Int)) (
    some (([] : List Int), (0 : Int), r1.2.2.1, ())) (
    let t2 := decide (most < (0 : Int))
    cond t2 (
      ref03GetText.j6 fu (fun vq1 vq1x2 vq1x3 => 
          some (vq1, vq1x2, vq1x3, ())) b (0 : Int) r1.1 r1.2.1) (
      ref03GetText.j6 fu (fun vq2 vq2x2 vq2x3 => 
          some (vq2, vq2x2, vq2x3, ())) b most r1.1 r1.2.1))

noncomputable def ref03GetText.body : Code := Try.f71.body.getD .skip
abbrev ref03GetText.shj6 : Shp := ⟨[.d (.slice (.int .u8)), .u, .d (.int .i64), .u, .u, .u, .u, .u, .u, .d (.int .u64), .d (.int .i64), .u, .u, .u, .u, .u, .u, .u, .u, .u, .u, .u, .u, .u, .u, .u, .u, .u, .u, .u, .u, .u, .u, .u, .u, .u, .u, .u, .u, .u, .u, .u, .u, .u, .u, .u, .u, .u, .u, .u, .u, .u, .u, .u], []⟩
abbrev ref03GetText.outj6e1 : Shp := ⟨[.u, .u, .u, .u, .u, .u, .d .str, .d (.int .i64), .d (.int .i64), .u, .u, .u, .u, .u, .u, .u, .u, .u, .u, .u, .u, .u, .u, .u, .u, .u, .u, .u, .u, .u, .u, .u, .u, .u, .u, .u, .u, .u, .u, .u, .u, .u, .u, .u, .u, .u, .u, .u, .u, .u, .u, .u, .u, .u], []⟩
noncomputable def ref03GetText.nmj6 : Norm := ⟨{ keep := [0, 2, 9, 10], shut := [(0, (.slice (.int .u8))), (2, (.int .i64)), (9, (.int .u64)), (10, (.int .i64))], retag := [], heap := 0, dead := [], cshut := [], cretag := [] }, [(1, { keep := [6, 7, 8], shut := [(6, .str), (7, (.int .i64)), (8, (.int .i64))], retag := [], heap := 0, dead := [], cshut := [], cretag := [] })]⟩
noncomputable def ref03GetText.con : Con := { ps := [(.slice (.int .u8)), (.int .i64), (.int .i64)], rs := [.str, (.int .i64), (.int .i64)], f := fun n x => ref03GetText n x.1 x.2.1 x.2.2.1 }
noncomputable def ref03GetText.env : Env := { tys := [(9, ⟨.str, 16⟩), (3, ⟨(.int .i64), 8⟩), (22, ⟨(.int .u64), 8⟩), (5, ⟨(.int .u8), 1⟩), (4, ⟨.bool, 1⟩), (64, ⟨(.slice (.int .u8)), 24⟩)], elems := [(64, 5)], ptrs := [], cons := [(84, ref03Get.con)], objs := [], loops := [], cuts := [(6, ref03GetText.nmj6)], globs := globs, base := 0 }
noncomputable def ref03GetText.lp (n : Nat) : LP (Kd.struct ref03GetText.con.rs).T := fun lo κ body nm K s =>
  cond (!lo && Nat.beq κ 6)
    (match ref03GetText.shj6.dec s with
    | some v => ref03GetText.j6 n (fun w0 w1 w2 => K .ret (ref03GetText.outj6e1.enc (w0, w1, w2, ()))) v.1 v.2.1 v.2.2.1 v.2.2.2.1
    | none => loops n (Kd.struct ref03GetText.con.rs).T lo κ body nm K s)
    (loops n (Kd.struct ref03GetText.con.rs).T lo κ body nm K s)
theorem ref03GetText.atj6 (n : Nat) (s : St) (K : Ex → St → Option (Kd.struct ref03GetText.con.rs).T) : ref03GetText.lp n false 6 (evK ref03GetText.env (ref03GetText.lp n) n (sub [1, 1, 1, 1] ref03GetText.body)) ref03GetText.nmj6 K s = loops n (Kd.struct ref03GetText.con.rs).T false 6 (evK ref03GetText.env (ref03GetText.lp n) n (sub [1, 1, 1, 1] ref03GetText.body)) ref03GetText.nmj6 K s := by
  show (match ref03GetText.shj6.dec s with | some v => ref03GetText.j6 n (fun w0 w1 w2 => K .ret (ref03GetText.outj6e1.enc (w0, w1, w2, ()))) v.1 v.2.1 v.2.2.1 v.2.2.2.1 | none => loops n (Kd.struct ref03GetText.con.rs).T false 6 (evK ref03GetText.env (ref03GetText.lp n) n (sub [1, 1, 1, 1] ref03GetText.body)) ref03GetText.nmj6 K s) = _
  cases h : ref03GetText.shj6.dec s with
  | none => rfl
  | some v =>
    rw [Shp.dec_enc h]
    kernel_rfl
theorem ref03GetText.eq (n : Nat) (x : (Kd.struct ref03GetText.con.ps).T) : evFunc ref03GetText.env Try.f71 ref03GetText.body ref03GetText.con.ps ref03GetText.con.rs (ref03GetText.lp n) n x = ref03GetText.con.f n x := by kernel_rfl
theorem ref03GetText.sound : Sound Try.prog globs 71 ref03GetText.con :=
  sound_by (E := ref03GetText.env) (c := ref03GetText.body) (envOk (G := globs) (lc := [(84, ref03Get.con)]) (lo := []) (envB_spec (by kernel_rfl)) rfl rfl ⟨.inl ⟨ref03Get.sound, by kernel_rfl⟩, trivial⟩ rfl trivial (by kernel_rfl) (by kernel_rfl)) Try.func71 (by kernel_rfl) ref03GetText.lp (l := [(false, sub [1, 1, 1, 1] ref03GetText.body, ref03GetText.nmj6)]) (by kernel_rfl) (fun n => ⟨ref03GetText.atj6 n, trivial⟩) ref03GetText.eq
noncomputable def ref04Get (fu : Nat) (b : List Int) (atv : Int) : Option (S0 × Int × Int × Unit) :=
  cond (decide (atv < (0 : Int))) (
    some (((0 : Int), (0 : Int), (0 : Nat), [], ()), (0 : Int), (3 : Int), ())) (
    let t1 := decide (atv ≥ (b.length : Int))
    cond t1 (
      some (((0 : Int), (0 : Int), (0 : Nat), [], ()), (0 : Int), (3 : Int), ())) (
      chk (ixOk b atv) <|
      let e2 := ixL (0 : Int) b atv
      cond (e2 == (0 : Int)) (
        let t3 := IntKind.i64.wrap (atv + (1 : Int))
        some ((e2, (0 : Int), (0 : Nat), [], ()), t3, (0 : Int), ())) (
        cond (e2 == (1 : Int)) (
          let t4 := IntKind.i64.wrap (atv + (1 : Int))
          (ref03GetInt fu b t4).bind fun r5 =>
          cond (r5.2.2.1 != (0 : Int)) (
            some (((0 : Int), (0 : Int), (0 : Nat), [], ()), (0 : Int), r5.2.2.1, ())) (
            some ((e2, r5.1, (0 : Nat), [], ()), r5.2.1, (0 : Int), ()))) (
          cond (e2 == (2 : Int)) (
            let t6 := IntKind.i64.wrap (atv + (1 : Int))
            (ref03GetReal fu b t6).bind fun r7 =>
            cond (r7.2.2.1 != (0 : Int)) (
              some (((0 : Int), (0 : Int), (0 : Nat), [], ()), (0 : Int), r7.2.2.1, ())) (
              some ((e2, (0 : Int), r7.1, [], ()), r7.2.1, (0 : Int), ()))) (
            cond (e2 == (3 : Int)) (
              let t8 := IntKind.i64.wrap (atv + (1 : Int))
              (ref03GetText fu b t8 (255 : Int)).bind fun r9 =>
              cond (r9.2.2.1 != (0 : Int)) (
                some (((0 : Int), (0 : Int), (0 : Nat), [], ()), (0 : Int), r9.2.2.1, ())) (
                some ((e2, (0 : Int), (0 : Nat), r9.1, ()), r9.2.1, (0 : Int), ()))) (
              some (((0 : Int), (0 : Int), (0 : Nat), [], ()), (0 : Int), (11 : Int), ())))))))

noncomputable def ref04Get.body : Code := Try.f45.body.getD .skip
noncomputable def ref04Get.con : Con := { ps := [(.slice (.int .u8)), (.int .i64)], rs := [kS0, (.int .i64), (.int .i64)], f := fun n x => ref04Get n x.1 x.2.1 }
noncomputable def ref04Get.env : Env := { tys := [(58, ⟨kS0, 40⟩), (3, ⟨(.int .i64), 8⟩), (4, ⟨.bool, 1⟩), (5, ⟨(.int .u8), 1⟩), (2, ⟨(.int .i64), 8⟩), (25, ⟨.flt, 8⟩), (9, ⟨.str, 16⟩)], elems := [(64, 5)], ptrs := [], cons := [(69, ref03GetInt.con), (70, ref03GetReal.con), (71, ref03GetText.con)], objs := [], loops := [], cuts := [], globs := globs, base := 0 }
noncomputable def ref04Get.lp (n : Nat) : LP (Kd.struct ref04Get.con.rs).T := fun lo κ body nm K s =>
  loops n (Kd.struct ref04Get.con.rs).T lo κ body nm K s
theorem ref04Get.eq (n : Nat) (x : (Kd.struct ref04Get.con.ps).T) : evFunc ref04Get.env Try.f45 ref04Get.body ref04Get.con.ps ref04Get.con.rs (ref04Get.lp n) n x = ref04Get.con.f n x := by kernel_rfl
theorem ref04Get.sound : Sound Try.prog globs 45 ref04Get.con :=
  sound_by (E := ref04Get.env) (c := ref04Get.body) (envOk (G := globs) (lc := [(69, ref03GetInt.con), (70, ref03GetReal.con), (71, ref03GetText.con)]) (lo := []) (envB_spec (by kernel_rfl)) rfl rfl ⟨.inl ⟨ref03GetInt.sound, by kernel_rfl⟩, ⟨.inl ⟨ref03GetReal.sound, by kernel_rfl⟩, ⟨.inl ⟨ref03GetText.sound, by kernel_rfl⟩, trivial⟩⟩⟩ rfl trivial (by kernel_rfl) (by kernel_rfl)) Try.func45 (by kernel_rfl) ref04Get.lp (l := []) (by kernel_rfl) (fun n => trivial) ref04Get.eq
noncomputable def ref02Of (fu : Nat) (xv : Nat) : Option (S1 × Unit) :=
  (extBits.f fu (xv, ())).bind fun r1 =>
  (ref02OfBits fu r1.1).bind fun r2 =>
  some (r2.1, ())

noncomputable def ref02Of.body : Code := Try.f58.body.getD .skip
noncomputable def ref02Of.con : Con := { ps := [.flt], rs := [kS1], f := fun n x => ref02Of n x.1 }
noncomputable def ref02Of.env : Env := { tys := [(29, ⟨kS1, 24⟩)], elems := [], ptrs := [], cons := [(26, extBits), (16, ref02OfBits.con)], objs := [], loops := [], cuts := [], globs := globs, base := 0 }
noncomputable def ref02Of.lp (n : Nat) : LP (Kd.struct ref02Of.con.rs).T := fun lo κ body nm K s =>
  loops n (Kd.struct ref02Of.con.rs).T lo κ body nm K s
theorem ref02Of.eq (n : Nat) (x : (Kd.struct ref02Of.con.ps).T) : evFunc ref02Of.env Try.f58 ref02Of.body ref02Of.con.ps ref02Of.con.rs (ref02Of.lp n) n x = ref02Of.con.f n x := by kernel_rfl
theorem ref02Of.sound : Sound Try.prog globs 58 ref02Of.con :=
  sound_by (E := ref02Of.env) (c := ref02Of.body) (envOk (G := globs) (lc := [(26, extBits), (16, ref02OfBits.con)]) (lo := []) (envB_spec (by kernel_rfl)) rfl rfl ⟨.inr (extBits_ok Try.func26 (by kernel_rfl) (by kernel_rfl) (by kernel_rfl) (by kernel_rfl)), ⟨.inl ⟨ref02OfBits.sound, by kernel_rfl⟩, trivial⟩⟩ rfl trivial (by kernel_rfl) (by kernel_rfl)) Try.func58 (by kernel_rfl) ref02Of.lp (l := []) (by kernel_rfl) (fun n => trivial) ref02Of.eq
noncomputable def ref04Same (fu : Nat) (a : S0) (b : S0) : Option (Bool × Unit) :=
  cond (a.1 != b.1) (
    some (false, ())) (
    cond (a.1 == (1 : Int)) (
      some (a.2.1 == b.2.1, ())) (
      cond (a.1 == (2 : Int)) (
        (ref02Of fu a.2.2.1).bind fun r1 =>
        (ref02PartsBits fu r1.1).bind fun r2 =>
        (ref02Of fu b.2.2.1).bind fun r3 =>
        (ref02PartsBits fu r3.1).bind fun r4 =>
        some (r2.1 == r4.1, ())) (
        cond (a.1 == (3 : Int)) (
          some (a.2.2.2.1 == b.2.2.2.1, ())) (
          some (true, ())))))

noncomputable def ref04Same.body : Code := Try.f41.body.getD .skip
noncomputable def ref04Same.con : Con := { ps := [kS0, kS0], rs := [.bool], f := fun n x => ref04Same n x.1 x.2.1 }
noncomputable def ref04Same.env : Env := { tys := [(58, ⟨kS0, 40⟩), (4, ⟨.bool, 1⟩), (5, ⟨(.int .u8), 1⟩), (2, ⟨(.int .i64), 8⟩), (25, ⟨.flt, 8⟩), (9, ⟨.str, 16⟩)], elems := [], ptrs := [], cons := [(58, ref02Of.con), (23, ref02PartsBits.con)], objs := [], loops := [], cuts := [], globs := globs, base := 0 }
noncomputable def ref04Same.lp (n : Nat) : LP (Kd.struct ref04Same.con.rs).T := fun lo κ body nm K s =>
  loops n (Kd.struct ref04Same.con.rs).T lo κ body nm K s
theorem ref04Same.eq (n : Nat) (x : (Kd.struct ref04Same.con.ps).T) : evFunc ref04Same.env Try.f41 ref04Same.body ref04Same.con.ps ref04Same.con.rs (ref04Same.lp n) n x = ref04Same.con.f n x := by kernel_rfl
theorem ref04Same.sound : Sound Try.prog globs 41 ref04Same.con :=
  sound_by (E := ref04Same.env) (c := ref04Same.body) (envOk (G := globs) (lc := [(58, ref02Of.con), (23, ref02PartsBits.con)]) (lo := []) (envB_spec (by kernel_rfl)) rfl rfl ⟨.inl ⟨ref02Of.sound, by kernel_rfl⟩, ⟨.inl ⟨ref02PartsBits.sound, by kernel_rfl⟩, trivial⟩⟩ rfl trivial (by kernel_rfl) (by kernel_rfl)) Try.func41 (by kernel_rfl) ref04Same.lp (l := []) (by kernel_rfl) (fun n => trivial) ref04Same.eq
noncomputable def bitsLen64.j7 (fu : Nat) (k1 : Int → Option (Int × Unit)) (xv : Int) (n : Int) : Option (Int × Unit) :=
  let t1 := decide (xv ≥ (256 : Int))
  cond t1 (
    let t2 := IntKind.i64.wrap (n + (8 : Int))
    let t3 := IntKind.u8.wrap (sShr .u64 xv (8 : Int))
    chk (ixOk ([0, 1, 2, 2, 3, 3, 3, 3, 4, 4, 4, 4, 4, 4, 4, 4, 5, 5, 5, 5, 5, 5, 5, 5, 5, 5, 5, 5, 5, 5, 5, 5, 6, 6, 6, 6, 6, 6, 6, 6, 6, 6, 6, 6, 6, 6, 6, 6, 6, 6, 6, 6, 6, 6, 6, 6, 6, 6, 6, 6, 6, 6, 6, 6, 7, 7, 7, 7, 7, 7, 7, 7, 7, 7, 7, 7, 7, 7, 7, 7, 7, 7, 7, 7, 7, 7, 7, 7, 7, 7, 7, 7, 7, 7, 7, 7, 7, 7, 7, 7, 7, 7, 7, 7, 7, 7, 7, 7, 7, 7, 7, 7, 7, 7, 7, 7, 7, 7, 7, 7, 7, 7, 7, 7, 7, 7, 7, 7, 8, 8, 8, 8, 8, 8, 8, 8, 8, 8, 8, 8, 8, 8, 8, 8, 8, 8, 8, 8, 8, 8, 8, 8, 8, 8, 8, 8, 8, 8, 8, 8, 8, 8, 8, 8, 8, 8, 8, 8, 8, 8, 8, 8, 8, 8, 8, 8, 8, 8, 8, 8, 8, 8, 8, 8, 8, 8, 8, 8, 8, 8, 8, 8, 8, 8, 8, 8, 8, 8, 8, 8, 8, 8, 8, 8, 8, 8, 8, 8, 8, 8, 8, 8, 8, 8, 8, 8, 8, 8, 8, 8, 8, 8, 8, 8, 8, 8, 8, 8, 8, 8, 8, 8, 8, 8, 8, 8, 8, 8, 8, 8, 8, 8, 8, 8, 8, 8, 8, 8, 8, 8, 8, 8, 8, 8, 8, 8] : List Int) t3) <|
    let t4 := ixL (0 : Int) ([0, 1, 2, 2, 3, 3, 3, 3, 4, 4, 4, 4, 4, 4, 4, 4, 5, 5, 5, 5, 5, 5, 5, 5, 5, 5, 5, 5, 5, 5, 5, 5, 6, 6, 6, 6, 6, 6, 6, 6, 6, 6, 6, 6, 6, 6, 6, 6, 6, 6, 6, 6, 6, 6, 6, 6, 6, 6, 6, 6, 6, 6, 6, 6, 7, 7, 7, 7, 7, 7, 7, 7, 7, 7, 7, 7, 7, 7, 7, 7, 7, 7, 7, 7, 7, 7, 7, 7, 7, 7, 7, 7, 7, 7, 7, 7, 7, 7, 7, 7, 7, 7, 7, 7, 7, 7, 7, 7, 7, 7, 7, 7, 7, 7, 7, 7, 7, 7, 7, 7, 7, 7, 7, 7, 7, 7, 7, 7, 8, 8, 8, 8, 8, 8, 8, 8, 8, 8, 8, 8, 8, 8, 8, 8, 8, 8, 8, 8, 8, 8, 8, 8, 8, 8, 8, 8, 8, 8, 8, 8, 8, 8, 8, 8, 8, 8, 8, 8, 8, 8, 8, 8, 8, 8, 8, 8, 8, 8, 8, 8, 8, 8, 8, 8, 8, 8, 8, 8, 8, 8, 8, 8, 8, 8, 8, 8, 8, 8, 8, 8, 8, 8, 8, 8, 8, 8, 8, 8, 8, 8, 8, 8, 8, 8, 8, 8, 8, 8, 8, 8, 8, 8, 8, 8, 8, 8, 8, 8, 8, 8, 8, 8, 8, 8, 8, 8, 8, 8, 8, 8, 8, 8, 8, 8, 8, 8, 8, 8, 8, 8, 8, 8, 8, 8, 8, 8] : List Int) t3
    let t5 := IntKind.i64.wrap (t2 + IntKind.i64.wrap t4)
    k1 t5) (
    chk (ixOk ([0, 1, 2, 2, 3, 3, 3, 3, 4, 4, 4, 4, 4, 4, 4, 4, 5, 5, 5, 5, 5, 5, 5, 5, 5, 5, 5, 5, 5, 5, 5, 5, 6, 6, 6, 6, 6, 6, 6, 6, 6, 6, 6, 6, 6, 6, 6, 6, 6, 6, 6, 6, 6, 6, 6, 6, 6, 6, 6, 6, 6, 6, 6, 6, 7, 7, 7, 7, 7, 7, 7, 7, 7, 7, 7, 7, 7, 7, 7, 7, 7, 7, 7, 7, 7, 7, 7, 7, 7, 7, 7, 7, 7, 7, 7, 7, 7, 7, 7, 7, 7, 7, 7, 7, 7, 7, 7, 7, 7, 7, 7, 7, 7, 7, 7, 7, 7, 7, 7, 7, 7, 7, 7, 7, 7, 7, 7, 7, 8, 8, 8, 8, 8, 8, 8, 8, 8, 8, 8, 8, 8, 8, 8, 8, 8, 8, 8, 8, 8, 8, 8, 8, 8, 8, 8, 8, 8, 8, 8, 8, 8, 8, 8, 8, 8, 8, 8, 8, 8, 8, 8, 8, 8, 8, 8, 8, 8, 8, 8, 8, 8, 8, 8, 8, 8, 8, 8, 8, 8, 8, 8, 8, 8, 8, 8, 8, 8, 8, 8, 8, 8, 8, 8, 8, 8, 8, 8, 8, 8, 8, 8, 8, 8, 8, 8, 8, 8, 8, 8, 8, 8, 8, 8, 8, 8, 8, 8, 8, 8, 8, 8, 8, 8, 8, 8, 8, 8, 8, 8, 8, 8, 8, 8, 8, 8, 8, 8, 8, 8, 8, 8, 8, 8, 8, 8, 8] : List Int) (IntKind.u8.wrap xv)) <|
    let t6 := ixL (0 : Int) ([0, 1, 2, 2, 3, 3, 3, 3, 4, 4, 4, 4, 4, 4, 4, 4, 5, 5, 5, 5, 5, 5, 5, 5, 5, 5, 5, 5, 5, 5, 5, 5, 6, 6, 6, 6, 6, 6, 6, 6, 6, 6, 6, 6, 6, 6, 6, 6, 6, 6, 6, 6, 6, 6, 6, 6, 6, 6, 6, 6, 6, 6, 6, 6, 7, 7, 7, 7, 7, 7, 7, 7, 7, 7, 7, 7, 7, 7, 7, 7, 7, 7, 7, 7, 7, 7, 7, 7, 7, 7, 7, 7, 7, 7, 7, 7, 7, 7, 7, 7, 7, 7, 7, 7, 7, 7, 7, 7, 7, 7, 7, 7, 7, 7, 7, 7, 7, 7, 7, 7, 7, 7, 7, 7, 7, 7, 7, 7, 8, 8, 8, 8, 8, 8, 8, 8, 8, 8, 8, 8, 8, 8, 8, 8, 8, 8, 8, 8, 8, 8, 8, 8, 8, 8, 8, 8, 8, 8, 8, 8, 8, 8, 8, 8, 8, 8, 8, 8, 8, 8, 8, 8, 8, 8, 8, 8, 8, 8, 8, 8, 8, 8, 8, 8, 8, 8, 8, 8, 8, 8, 8, 8, 8, 8, 8, 8, 8, 8, 8, 8, 8, 8, 8, 8, 8, 8, 8, 8, 8, 8, 8, 8, 8, 8, 8, 8, 8, 8, 8, 8, 8, 8, 8, 8, 8, 8, 8, 8, 8, 8, 8, 8, 8, 8, 8, 8, 8, 8, 8, 8, 8, 8, 8, 8, 8, 8, 8, 8, 8, 8, 8, 8, 8, 8, 8, 8] : List Int) (IntKind.u8.wrap xv)
    let t7 := IntKind.i64.wrap (n + IntKind.i64.wrap t6)
    k1 t7)
noncomputable def bitsLen64.j4 (fu : Nat) (k1 : Int → Option (Int × Unit)) (xv : Int) (n : Int) : Option (Int × Unit) :=
  let t1 := decide (xv ≥ (65536 : Int))
  cond t1 (
    let t2 := IntKind.i64.wrap (n + (16 : Int))
    bitsLen64.j7 fu (fun nq3 => 
        k1 nq3) (sShr .u64 xv (16 : Int)) t2) (
    bitsLen64.j7 fu (fun nq4 => 
        k1 nq4) xv n)
noncomputable def bitsLen64 (fu : Nat) (xv : Int) : Option (Int × Unit) :=
  let t1 := decide (xv ≥ (4294967296 : Int))
  cond t1 (
    bitsLen64.j4 fu (fun nq1 => 
        some (nq1, ())) (sShr .u64 xv (32 : Int)) (32 : Int)) (
    bitsLen64.j4 fu (fun nq2 => 
        some (nq2, ())) xv (0 : Int))

noncomputable def bitsLen64.body : Code := Try.f91.body.getD .skip
abbrev bitsLen64.shj7 : Shp := ⟨[.d (.int .u64), .u, .d (.int .i64), .u, .u, .u, .u, .u, .u, .u, .u, .u, .u, .u, .u, .u, .u, .u, .u, .u, .u, .u, .u, .u, .u], []⟩
abbrev bitsLen64.outj7e1 : Shp := ⟨[.u, .u, .d (.int .i64), .u, .u, .u, .u, .u, .u, .u, .u, .u, .u, .u, .u, .u, .u, .u, .u, .u, .u, .u, .u, .u, .u], []⟩
noncomputable def bitsLen64.nmj7 : Norm := ⟨{ keep := [0, 2], shut := [(0, (.int .u64)), (2, (.int .i64))], retag := [], heap := 0, dead := [], cshut := [], cretag := [] }, [(1, { keep := [2], shut := [(2, (.int .i64))], retag := [], heap := 0, dead := [], cshut := [], cretag := [] })]⟩
abbrev bitsLen64.shj4 : Shp := ⟨[.d (.int .u64), .u, .d (.int .i64), .u, .u, .u, .u, .u, .u, .u, .u, .u, .u, .u, .u, .u, .u, .u, .u, .u, .u, .u, .u, .u, .u], []⟩
abbrev bitsLen64.outj4e1 : Shp := ⟨[.u, .u, .d (.int .i64), .u, .u, .u, .u, .u, .u, .u, .u, .u, .u, .u, .u, .u, .u, .u, .u, .u, .u, .u, .u, .u, .u], []⟩
noncomputable def bitsLen64.nmj4 : Norm := ⟨{ keep := [0, 2], shut := [(0, (.int .u64)), (2, (.int .i64))], retag := [], heap := 0, dead := [], cshut := [], cretag := [] }, [(1, { keep := [2], shut := [(2, (.int .i64))], retag := [], heap := 0, dead := [], cshut := [], cretag := [] })]⟩
noncomputable def bitsLen64.con : Con := { ps := [(.int .u64)], rs := [(.int .i64)], f := fun n x => bitsLen64 n x.1 }
noncomputable def bitsLen64.env : Env := { tys := [(3, ⟨(.int .i64), 8⟩), (5, ⟨(.int .u8), 1⟩), (22, ⟨(.int .u64), 8⟩), (9, ⟨.str, 16⟩)], elems := [], ptrs := [], cons := [], objs := [], loops := [], cuts := [(7, bitsLen64.nmj7), (4, bitsLen64.nmj4)], globs := globs, base := 0 }
noncomputable def bitsLen64.lp (n : Nat) : LP (Kd.struct bitsLen64.con.rs).T := fun lo κ body nm K s =>
  cond (!lo && Nat.beq κ 7)
    (match bitsLen64.shj7.dec s with
    | some v => bitsLen64.j7 n (fun w0 => K .ret (bitsLen64.outj7e1.enc (w0, ()))) v.1 v.2.1
    | none => loops n (Kd.struct bitsLen64.con.rs).T lo κ body nm K s)
    (cond (!lo && Nat.beq κ 4)
    (match bitsLen64.shj4.dec s with
    | some v => bitsLen64.j4 n (fun w0 => K .ret (bitsLen64.outj4e1.enc (w0, ()))) v.1 v.2.1
    | none => loops n (Kd.struct bitsLen64.con.rs).T lo κ body nm K s)
    (loops n (Kd.struct bitsLen64.con.rs).T lo κ body nm K s))
theorem bitsLen64.atj7 (n : Nat) (s : St) (K : Ex → St → Option (Kd.struct bitsLen64.con.rs).T) : bitsLen64.lp n false 7 (evK bitsLen64.env (bitsLen64.lp n) n (sub [1, 1, 1] bitsLen64.body)) bitsLen64.nmj7 K s = loops n (Kd.struct bitsLen64.con.rs).T false 7 (evK bitsLen64.env (bitsLen64.lp n) n (sub [1, 1, 1] bitsLen64.body)) bitsLen64.nmj7 K s := by
  show (match bitsLen64.shj7.dec s with | some v => bitsLen64.j7 n (fun w0 => K .ret (bitsLen64.outj7e1.enc (w0, ()))) v.1 v.2.1 | none => loops n (Kd.struct bitsLen64.con.rs).T false 7 (evK bitsLen64.env (bitsLen64.lp n) n (sub [1, 1, 1] bitsLen64.body)) bitsLen64.nmj7 K s) = _
  cases h : bitsLen64.shj7.dec s with
  | none => rfl
  | some v =>
    rw [Shp.dec_enc h]
    kernel_rfl
theorem bitsLen64.atj4 (n : Nat) (s : St) (K : Ex → St → Option (Kd.struct bitsLen64.con.rs).T) : bitsLen64.lp n false 4 (evK bitsLen64.env (bitsLen64.lp n) n (sub [1, 1] bitsLen64.body)) bitsLen64.nmj4 K s = loops n (Kd.struct bitsLen64.con.rs).T false 4 (evK bitsLen64.env (bitsLen64.lp n) n (sub [1, 1] bitsLen64.body)) bitsLen64.nmj4 K s := by
  show (match bitsLen64.shj4.dec s with | some v => bitsLen64.j4 n (fun w0 => K .ret (bitsLen64.outj4e1.enc (w0, ()))) v.1 v.2.1 | none => loops n (Kd.struct bitsLen64.con.rs).T false 4 (evK bitsLen64.env (bitsLen64.lp n) n (sub [1, 1] bitsLen64.body)) bitsLen64.nmj4 K s) = _
  cases h : bitsLen64.shj4.dec s with
  | none => rfl
  | some v =>
    rw [Shp.dec_enc h]
    kernel_rfl
theorem bitsLen64.eq (n : Nat) (x : (Kd.struct bitsLen64.con.ps).T) : evFunc bitsLen64.env Try.f91 bitsLen64.body bitsLen64.con.ps bitsLen64.con.rs (bitsLen64.lp n) n x = bitsLen64.con.f n x := by kernel_rfl
theorem bitsLen64.sound : Sound Try.prog globs 91 bitsLen64.con :=
  sound_by (E := bitsLen64.env) (c := bitsLen64.body) (envOk (G := globs) (lc := []) (lo := []) (envB_spec (by kernel_rfl)) rfl rfl trivial rfl trivial (by kernel_rfl) (by kernel_rfl)) Try.func91 (by kernel_rfl) bitsLen64.lp (l := [(false, sub [1, 1, 1] bitsLen64.body, bitsLen64.nmj7), (false, sub [1, 1] bitsLen64.body, bitsLen64.nmj4)]) (by kernel_rfl) (fun n => ⟨bitsLen64.atj7 n, ⟨bitsLen64.atj4 n, trivial⟩⟩) bitsLen64.eq
noncomputable def packSize (fu : Nat) (n : Int) : Option (Int × Unit) :=
  (bitsLen64 fu n).bind fun r1 =>
  let t2 := IntKind.i64.wrap (max2 r1.1 (1 : Int) + (6 : Int))
  let t3 := IntKind.i64.wrap (Int.tdiv t2 (7 : Int))
  some (t3, ())

noncomputable def packSize.body : Code := Try.f90.body.getD .skip
noncomputable def packSize.con : Con := { ps := [(.int .u64)], rs := [(.int .i64)], f := fun n x => packSize n x.1 }
noncomputable def packSize.env : Env := { tys := [(3, ⟨(.int .i64), 8⟩)], elems := [], ptrs := [], cons := [(91, bitsLen64.con)], objs := [], loops := [], cuts := [], globs := globs, base := 0 }
noncomputable def packSize.lp (n : Nat) : LP (Kd.struct packSize.con.rs).T := fun lo κ body nm K s =>
  loops n (Kd.struct packSize.con.rs).T lo κ body nm K s
theorem packSize.eq (n : Nat) (x : (Kd.struct packSize.con.ps).T) : evFunc packSize.env Try.f90 packSize.body packSize.con.ps packSize.con.rs (packSize.lp n) n x = packSize.con.f n x := by kernel_rfl
theorem packSize.sound : Sound Try.prog globs 90 packSize.con :=
  sound_by (E := packSize.env) (c := packSize.body) (envOk (G := globs) (lc := [(91, bitsLen64.con)]) (lo := []) (envB_spec (by kernel_rfl)) rfl rfl ⟨.inl ⟨bitsLen64.sound, by kernel_rfl⟩, trivial⟩ rfl trivial (by kernel_rfl) (by kernel_rfl)) Try.func90 (by kernel_rfl) packSize.lp (l := []) (by kernel_rfl) (fun n => trivial) packSize.eq
noncomputable def packOwn (fu : Nat) (b : List Int) (room : Int) : Option (((List Int) × Unit) × (Unit)) :=
  let t1 := IntKind.i64.wrap ((b.length : Int) + room)
  chk (mkOk (0 : Int) t1 1) <|
  let t2 := List.replicate (0 : Int).toNat (0 : Int)
  chk (apOk t2 b 1) <|
  some ((t2 ++ b, ()), (()))

noncomputable def packOwn.body : Code := Try.f81.body.getD .skip
noncomputable def packOwn.con : OCon := { ps := [.dat (.slice (.int .u8)), .dat (.int .i64)], rs := [.own (.int .u8)], f := fun n x => packOwn n x.1 x.2.1 }
noncomputable def packOwn.env : Env := { tys := [(64, ⟨(.slice (.int .u8)), 24⟩), (5, ⟨(.int .u8), 1⟩)], elems := [(64, 5)], ptrs := [], cons := [], objs := [], loops := [], cuts := [], globs := globs, base := 0 }
noncomputable def packOwn.lp (n : Nat) : LP (RT packOwn.con.rs × BT packOwn.con.ps) := fun lo κ body nm K s =>
  loops n (RT packOwn.con.rs × BT packOwn.con.ps) lo κ body nm K s
theorem packOwn.eq (n : Nat) (x : PT packOwn.con.ps) : evFuncO packOwn.env Try.f81 packOwn.body packOwn.con.ps packOwn.con.rs (packOwn.lp n) n x = packOwn.con.f n x := by kernel_rfl
theorem packOwn.sound : SoundO Try.prog globs 81 packOwn.con :=
  sound_byO (E := packOwn.env) (c := packOwn.body) (envOk (G := globs) (lc := []) (lo := []) (envB_spec (by kernel_rfl)) rfl rfl trivial rfl trivial (by kernel_rfl) (by kernel_rfl)) Try.func81 (by kernel_rfl) (by kernel_rfl) (by kernel_rfl) packOwn.lp (l := []) (by kernel_rfl) (fun n => trivial) packOwn.eq
noncomputable def packPutDat.b2 (fu : Nat) (next : Int → (List Int) → Option ((List Int) × Unit)) (k2 : Int → (List Int) → Option ((List Int) × Unit)) (n : Int) (out : List Int) : Option ((List Int) × Unit) :=
  cond (decide (n ≥ (128 : Int))) (
    let t1 := bOr .u8 (IntKind.u8.wrap n) (128 : Int)
    chk (apOk out ([t1]) 1) <|
    next (sShr .u64 n (7 : Int)) (out ++ ([t1]))) (
    k2 n out)
noncomputable def packPutDat.l2 (fu : Nat) (k2 : Int → (List Int) → Option ((List Int) × Unit)) : Nat → Int → (List Int) → Option ((List Int) × Unit)
  | 0, _, _ => none
  | m + 1, n, out => packPutDat.b2 fu (packPutDat.l2 fu k2 m) k2 n out
noncomputable def packPutDat (fu : Nat) (b : List Int) (n : Int) : Option ((List Int) × Unit) :=
  (packSize fu n).bind fun r1 =>
  (packOwn fu b r1.1).bind fun r2 =>
  packPutDat.l2 fu (fun nq2 outq2 => 
      chk (apOk outq2 ([IntKind.u8.wrap nq2]) 1) <|
      let t3 := outq2 ++ ([IntKind.u8.wrap nq2])
      some (t3, ())) fu n r2.1.1

noncomputable def packPutDat.body : Code := Try.f80.body.getD .skip
abbrev packPutDat.shl2 : Shp := ⟨[.u, .d (.int .u64), .u, .u, .u, .o 5 (.int .u8), .u, .u, .u, .u, .u, .u, .u, .u, .u, .u, .u, .u, .u, .u, .u, .u, .u, .u, .u], []⟩
abbrev packPutDat.outl2e2 : Shp := ⟨[.u, .d (.int .u64), .u, .u, .u, .o 5 (.int .u8), .u, .u, .u, .u, .u, .u, .u, .u, .u, .u, .u, .u, .u, .u, .u, .u, .u, .u, .u], []⟩
noncomputable def packPutDat.nml2 : Norm := ⟨{ keep := [1, 5], shut := [(1, (.int .u64))], retag := [(5, 5, (.int .u8))], heap := 0, dead := [], cshut := [], cretag := [] }, [(2, { keep := [1, 5], shut := [(1, (.int .u64))], retag := [(5, 5, (.int .u8))], heap := 0, dead := [], cshut := [], cretag := [] })]⟩
noncomputable def packPutDat.con : Con := { ps := [(.slice (.int .u8)), (.int .u64)], rs := [(.slice (.int .u8))], f := fun n x => packPutDat n x.1 x.2.1 }
noncomputable def packPutDat.env : Env := { tys := [(64, ⟨(.slice (.int .u8)), 24⟩), (5, ⟨(.int .u8), 1⟩), (22, ⟨(.int .u64), 8⟩)], elems := [(64, 5)], ptrs := [], cons := [(90, packSize.con)], objs := [(81, [packOwn.con])], loops := [(2, packPutDat.nml2)], cuts := [], globs := globs, base := 0 }
noncomputable def packPutDat.lp (n : Nat) : LP (Kd.struct packPutDat.con.rs).T := fun lo κ body nm K s =>
  cond (lo && Nat.beq κ 2)
    (match packPutDat.shl2.dec s with
    | some v => packPutDat.l2 n (fun w0 w1 => K (.exit 0) (packPutDat.outl2e2.enc (w0, w1, ()))) n v.1 v.2.1
    | none => loops n (Kd.struct packPutDat.con.rs).T lo κ body nm K s)
    (loops n (Kd.struct packPutDat.con.rs).T lo κ body nm K s)
theorem packPutDat.atl2 (n : Nat) (s : St) (K : Ex → St → Option (Kd.struct packPutDat.con.rs).T) : packPutDat.lp n true 2 (evK packPutDat.env (packPutDat.lp n) n (sub [1, 1, 0, 0, 0] packPutDat.body)) packPutDat.nml2 K s = loops n (Kd.struct packPutDat.con.rs).T true 2 (evK packPutDat.env (packPutDat.lp n) n (sub [1, 1, 0, 0, 0] packPutDat.body)) packPutDat.nml2 K s := by
  show (match packPutDat.shl2.dec s with | some v => packPutDat.l2 n (fun w0 w1 => K (.exit 0) (packPutDat.outl2e2.enc (w0, w1, ()))) n v.1 v.2.1 | none => loops n (Kd.struct packPutDat.con.rs).T true 2 (evK packPutDat.env (packPutDat.lp n) n (sub [1, 1, 0, 0, 0] packPutDat.body)) packPutDat.nml2 K s) = _
  cases h : packPutDat.shl2.dec s with
  | none => rfl
  | some v =>
    rw [Shp.dec_enc h]
    exact (evLoop_eq (sh := packPutDat.shl2) (body := evK packPutDat.env (packPutDat.lp n) n (sub [1, 1, 0, 0, 0] packPutDat.body)) (nm := packPutDat.nml2) (K := K) (b := fun nx v => packPutDat.b2 n (fun x0 x1 => nx (x0, x1, ())) (fun w0 w1 => K (.exit 0) (packPutDat.outl2e2.enc (w0, w1, ()))) v.1 v.2.1) (l := fun m v => packPutDat.l2 n (fun w0 w1 => K (.exit 0) (packPutDat.outl2e2.enc (w0, w1, ()))) m v.1 v.2.1) (fun _ => rfl) (fun _ _ => rfl) (fun m v => by kernel_rfl) n v).symm
theorem packPutDat.eq (n : Nat) (x : (Kd.struct packPutDat.con.ps).T) : evFunc packPutDat.env Try.f80 packPutDat.body packPutDat.con.ps packPutDat.con.rs (packPutDat.lp n) n x = packPutDat.con.f n x := by kernel_rfl
theorem packPutDat.sound : Sound Try.prog globs 80 packPutDat.con :=
  sound_by (E := packPutDat.env) (c := packPutDat.body) (envOk (G := globs) (lc := [(90, packSize.con)]) (lo := [(81, [packOwn.con])]) (envB_spec (by kernel_rfl)) rfl rfl ⟨.inl ⟨packSize.sound, by kernel_rfl⟩, trivial⟩ rfl ⟨⟨⟨packOwn.sound, trivial⟩, by kernel_rfl⟩, trivial⟩ (by kernel_rfl) (by kernel_rfl)) Try.func80 (by kernel_rfl) packPutDat.lp (l := [(true, sub [1, 1, 0, 0, 0] packPutDat.body, packPutDat.nml2)]) (by kernel_rfl) (fun n => ⟨packPutDat.atl2 n, trivial⟩) packPutDat.eq
noncomputable def packPutInt (fu : Nat) (b : List Int) (n : Int) : Option ((List Int) × Unit) :=
  let t1 := sShl .u64 (IntKind.u64.wrap n) (1 : Int)
  let t2 := IntKind.u64.wrap (sShr .i64 n (63 : Int))
  (packPutDat fu b (bXor .u64 t1 t2)).bind fun r3 =>
  some (r3.1, ())

noncomputable def packPutInt.body : Code := Try.f60.body.getD .skip
noncomputable def packPutInt.con : Con := { ps := [(.slice (.int .u8)), (.int .i64)], rs := [(.slice (.int .u8))], f := fun n x => packPutInt n x.1 x.2.1 }
noncomputable def packPutInt.env : Env := { tys := [(64, ⟨(.slice (.int .u8)), 24⟩), (22, ⟨(.int .u64), 8⟩), (2, ⟨(.int .i64), 8⟩)], elems := [], ptrs := [], cons := [(80, packPutDat.con)], objs := [], loops := [], cuts := [], globs := globs, base := 0 }
noncomputable def packPutInt.lp (n : Nat) : LP (Kd.struct packPutInt.con.rs).T := fun lo κ body nm K s =>
  loops n (Kd.struct packPutInt.con.rs).T lo κ body nm K s
theorem packPutInt.eq (n : Nat) (x : (Kd.struct packPutInt.con.ps).T) : evFunc packPutInt.env Try.f60 packPutInt.body packPutInt.con.ps packPutInt.con.rs (packPutInt.lp n) n x = packPutInt.con.f n x := by kernel_rfl
theorem packPutInt.sound : Sound Try.prog globs 60 packPutInt.con :=
  sound_by (E := packPutInt.env) (c := packPutInt.body) (envOk (G := globs) (lc := [(80, packPutDat.con)]) (lo := []) (envB_spec (by kernel_rfl)) rfl rfl ⟨.inl ⟨packPutDat.sound, by kernel_rfl⟩, trivial⟩ rfl trivial (by kernel_rfl) (by kernel_rfl)) Try.func60 (by kernel_rfl) packPutInt.lp (l := []) (by kernel_rfl) (fun n => trivial) packPutInt.eq
noncomputable def packPutRealDat.b4 (fu : Nat) (next : (List Int) → Int → Int → Option ((List Int) × Unit)) (k2 : (List Int) → Option ((List Int) × Unit)) (out : List Int) (n : Int) (i : Int) : Option ((List Int) × Unit) :=
  cond (decide (i ≥ (0 : Int))) (
    chk (!decide (i < 0)) <|
    let t1 := IntKind.u8.wrap (sShr .u64 n i)
    chk (apOk out ([t1]) 1) <|
    let t2 := IntKind.i64.wrap (i - (8 : Int))
    next (out ++ ([t1])) n t2) (
    k2 out)
noncomputable def packPutRealDat.l4 (fu : Nat) (k2 : (List Int) → Option ((List Int) × Unit)) : Nat → (List Int) → Int → Int → Option ((List Int) × Unit)
  | 0, _, _, _ => none
  | m + 1, out, n, i => packPutRealDat.b4 fu (packPutRealDat.l4 fu k2 m) k2 out n i
noncomputable def packPutRealDat (fu : Nat) (b : List Int) (xv : Nat) : Option ((List Int) × Unit) :=
  (packOwn fu b (8 : Int)).bind fun r1 =>
  (realBits fu xv).bind fun r2 =>
  packPutRealDat.l4 fu (fun outq2 => 
      some (outq2, ())) fu r1.1.1 r2.1 (56 : Int)

noncomputable def packPutRealDat.body : Code := Try.f61.body.getD .skip
abbrev packPutRealDat.shl4 : Shp := ⟨[.u, .u, .u, .u, .u, .o 5 (.int .u8), .d (.int .u64), .d (.int .i64), .u, .u, .u, .u, .u, .u, .u, .u, .u, .u, .u, .u, .u, .u, .u, .u], []⟩
abbrev packPutRealDat.outl4e2 : Shp := ⟨[.u, .u, .u, .u, .u, .o 5 (.int .u8), .u, .u, .u, .u, .u, .u, .u, .u, .u, .u, .u, .u, .u, .u, .u, .u, .u, .u], []⟩
noncomputable def packPutRealDat.nml4 : Norm := ⟨{ keep := [5, 6, 7], shut := [(6, (.int .u64)), (7, (.int .i64))], retag := [(5, 5, (.int .u8))], heap := 0, dead := [], cshut := [], cretag := [] }, [(2, { keep := [5], shut := [], retag := [(5, 5, (.int .u8))], heap := 0, dead := [], cshut := [], cretag := [] })]⟩
noncomputable def packPutRealDat.con : Con := { ps := [(.slice (.int .u8)), .flt], rs := [(.slice (.int .u8))], f := fun n x => packPutRealDat n x.1 x.2.1 }
noncomputable def packPutRealDat.env : Env := { tys := [(64, ⟨(.slice (.int .u8)), 24⟩), (3, ⟨(.int .i64), 8⟩), (5, ⟨(.int .u8), 1⟩), (22, ⟨(.int .u64), 8⟩)], elems := [(64, 5)], ptrs := [], cons := [(27, realBits.con)], objs := [(81, [packOwn.con])], loops := [(4, packPutRealDat.nml4)], cuts := [], globs := globs, base := 0 }
noncomputable def packPutRealDat.lp (n : Nat) : LP (Kd.struct packPutRealDat.con.rs).T := fun lo κ body nm K s =>
  cond (lo && Nat.beq κ 4)
    (match packPutRealDat.shl4.dec s with
    | some v => packPutRealDat.l4 n (fun w0 => K (.exit 0) (packPutRealDat.outl4e2.enc (w0, ()))) n v.1 v.2.1 v.2.2.1
    | none => loops n (Kd.struct packPutRealDat.con.rs).T lo κ body nm K s)
    (loops n (Kd.struct packPutRealDat.con.rs).T lo κ body nm K s)
theorem packPutRealDat.atl4 (n : Nat) (s : St) (K : Ex → St → Option (Kd.struct packPutRealDat.con.rs).T) : packPutRealDat.lp n true 4 (evK packPutRealDat.env (packPutRealDat.lp n) n (sub [1, 1, 1, 0, 1, 0, 0] packPutRealDat.body)) packPutRealDat.nml4 K s = loops n (Kd.struct packPutRealDat.con.rs).T true 4 (evK packPutRealDat.env (packPutRealDat.lp n) n (sub [1, 1, 1, 0, 1, 0, 0] packPutRealDat.body)) packPutRealDat.nml4 K s := by
  show (match packPutRealDat.shl4.dec s with | some v => packPutRealDat.l4 n (fun w0 => K (.exit 0) (packPutRealDat.outl4e2.enc (w0, ()))) n v.1 v.2.1 v.2.2.1 | none => loops n (Kd.struct packPutRealDat.con.rs).T true 4 (evK packPutRealDat.env (packPutRealDat.lp n) n (sub [1, 1, 1, 0, 1, 0, 0] packPutRealDat.body)) packPutRealDat.nml4 K s) = _
  cases h : packPutRealDat.shl4.dec s with
  | none => rfl
  | some v =>
    rw [Shp.dec_enc h]
    exact (evLoop_eq (sh := packPutRealDat.shl4) (body := evK packPutRealDat.env (packPutRealDat.lp n) n (sub [1, 1, 1, 0, 1, 0, 0] packPutRealDat.body)) (nm := packPutRealDat.nml4) (K := K) (b := fun nx v => packPutRealDat.b4 n (fun x0 x1 x2 => nx (x0, x1, x2, ())) (fun w0 => K (.exit 0) (packPutRealDat.outl4e2.enc (w0, ()))) v.1 v.2.1 v.2.2.1) (l := fun m v => packPutRealDat.l4 n (fun w0 => K (.exit 0) (packPutRealDat.outl4e2.enc (w0, ()))) m v.1 v.2.1 v.2.2.1) (fun _ => rfl) (fun _ _ => rfl) (fun m v => by kernel_rfl) n v).symm
theorem packPutRealDat.eq (n : Nat) (x : (Kd.struct packPutRealDat.con.ps).T) : evFunc packPutRealDat.env Try.f61 packPutRealDat.body packPutRealDat.con.ps packPutRealDat.con.rs (packPutRealDat.lp n) n x = packPutRealDat.con.f n x := by kernel_rfl
theorem packPutRealDat.sound : Sound Try.prog globs 61 packPutRealDat.con :=
  sound_by (E := packPutRealDat.env) (c := packPutRealDat.body) (envOk (G := globs) (lc := [(27, realBits.con)]) (lo := [(81, [packOwn.con])]) (envB_spec (by kernel_rfl)) rfl rfl ⟨.inl ⟨realBits.sound, by kernel_rfl⟩, trivial⟩ rfl ⟨⟨⟨packOwn.sound, trivial⟩, by kernel_rfl⟩, trivial⟩ (by kernel_rfl) (by kernel_rfl)) Try.func61 (by kernel_rfl) packPutRealDat.lp (l := [(true, sub [1, 1, 1, 0, 1, 0, 0] packPutRealDat.body, packPutRealDat.nml4)]) (by kernel_rfl) (fun n => ⟨packPutRealDat.atl4 n, trivial⟩) packPutRealDat.eq
noncomputable def packPut.b2 (fu : Nat) (next : Int → (List Int) → Option (((List Int) × Unit) × (Unit))) (k2 : Int → (List Int) → Option (((List Int) × Unit) × (Unit))) (n : Int) (out : List Int) : Option (((List Int) × Unit) × (Unit)) :=
  cond (decide (n ≥ (128 : Int))) (
    let t1 := bOr .u8 (IntKind.u8.wrap n) (128 : Int)
    chk (apOk out ([t1]) 1) <|
    next (sShr .u64 n (7 : Int)) (out ++ ([t1]))) (
    k2 n out)
noncomputable def packPut.l2 (fu : Nat) (k2 : Int → (List Int) → Option (((List Int) × Unit) × (Unit))) : Nat → Int → (List Int) → Option (((List Int) × Unit) × (Unit))
  | 0, _, _ => none
  | m + 1, n, out => packPut.b2 fu (packPut.l2 fu k2 m) k2 n out
noncomputable def packPut (fu : Nat) (b : List Int) (n : Int) : Option (((List Int) × Unit) × (Unit)) :=
  (packSize fu n).bind fun r1 =>
  (packOwn fu b r1.1).bind fun r2 =>
  packPut.l2 fu (fun nq2 outq2 => 
      chk (apOk outq2 ([IntKind.u8.wrap nq2]) 1) <|
      let t3 := outq2 ++ ([IntKind.u8.wrap nq2])
      some ((t3, ()), (()))) fu n r2.1.1

noncomputable def packPut.body : Code := Try.f80.body.getD .skip
abbrev packPut.shl2 : Shp := ⟨[.u, .d (.int .u64), .u, .u, .u, .o 5 (.int .u8), .u, .u, .u, .u, .u, .u, .u, .u, .u, .u, .u, .u, .u, .u, .u, .u, .u, .u, .u], []⟩
abbrev packPut.outl2e2 : Shp := ⟨[.u, .d (.int .u64), .u, .u, .u, .o 5 (.int .u8), .u, .u, .u, .u, .u, .u, .u, .u, .u, .u, .u, .u, .u, .u, .u, .u, .u, .u, .u], []⟩
noncomputable def packPut.nml2 : Norm := ⟨{ keep := [1, 5], shut := [(1, (.int .u64))], retag := [(5, 5, (.int .u8))], heap := 0, dead := [], cshut := [], cretag := [] }, [(2, { keep := [1, 5], shut := [(1, (.int .u64))], retag := [(5, 5, (.int .u8))], heap := 0, dead := [], cshut := [], cretag := [] })]⟩
noncomputable def packPut.con : OCon := { ps := [.dat (.slice (.int .u8)), .dat (.int .u64)], rs := [.own (.int .u8)], f := fun n x => packPut n x.1 x.2.1 }
noncomputable def packPut.env : Env := { tys := [(64, ⟨(.slice (.int .u8)), 24⟩), (5, ⟨(.int .u8), 1⟩), (22, ⟨(.int .u64), 8⟩)], elems := [(64, 5)], ptrs := [], cons := [(90, packSize.con)], objs := [(81, [packOwn.con])], loops := [(2, packPut.nml2)], cuts := [], globs := globs, base := 0 }
noncomputable def packPut.lp (n : Nat) : LP (RT packPut.con.rs × BT packPut.con.ps) := fun lo κ body nm K s =>
  cond (lo && Nat.beq κ 2)
    (match packPut.shl2.dec s with
    | some v => packPut.l2 n (fun w0 w1 => K (.exit 0) (packPut.outl2e2.enc (w0, w1, ()))) n v.1 v.2.1
    | none => loops n (RT packPut.con.rs × BT packPut.con.ps) lo κ body nm K s)
    (loops n (RT packPut.con.rs × BT packPut.con.ps) lo κ body nm K s)
theorem packPut.atl2 (n : Nat) (s : St) (K : Ex → St → Option (RT packPut.con.rs × BT packPut.con.ps)) : packPut.lp n true 2 (evK packPut.env (packPut.lp n) n (sub [1, 1, 0, 0, 0] packPut.body)) packPut.nml2 K s = loops n (RT packPut.con.rs × BT packPut.con.ps) true 2 (evK packPut.env (packPut.lp n) n (sub [1, 1, 0, 0, 0] packPut.body)) packPut.nml2 K s := by
  show (match packPut.shl2.dec s with | some v => packPut.l2 n (fun w0 w1 => K (.exit 0) (packPut.outl2e2.enc (w0, w1, ()))) n v.1 v.2.1 | none => loops n (RT packPut.con.rs × BT packPut.con.ps) true 2 (evK packPut.env (packPut.lp n) n (sub [1, 1, 0, 0, 0] packPut.body)) packPut.nml2 K s) = _
  cases h : packPut.shl2.dec s with
  | none => rfl
  | some v =>
    rw [Shp.dec_enc h]
    exact (evLoop_eq (sh := packPut.shl2) (body := evK packPut.env (packPut.lp n) n (sub [1, 1, 0, 0, 0] packPut.body)) (nm := packPut.nml2) (K := K) (b := fun nx v => packPut.b2 n (fun x0 x1 => nx (x0, x1, ())) (fun w0 w1 => K (.exit 0) (packPut.outl2e2.enc (w0, w1, ()))) v.1 v.2.1) (l := fun m v => packPut.l2 n (fun w0 w1 => K (.exit 0) (packPut.outl2e2.enc (w0, w1, ()))) m v.1 v.2.1) (fun _ => rfl) (fun _ _ => rfl) (fun m v => by kernel_rfl) n v).symm
theorem packPut.eq (n : Nat) (x : PT packPut.con.ps) : evFuncO packPut.env Try.f80 packPut.body packPut.con.ps packPut.con.rs (packPut.lp n) n x = packPut.con.f n x := by kernel_rfl
theorem packPut.sound : SoundO Try.prog globs 80 packPut.con :=
  sound_byO (E := packPut.env) (c := packPut.body) (envOk (G := globs) (lc := [(90, packSize.con)]) (lo := [(81, [packOwn.con])]) (envB_spec (by kernel_rfl)) rfl rfl ⟨.inl ⟨packSize.sound, by kernel_rfl⟩, trivial⟩ rfl ⟨⟨⟨packOwn.sound, trivial⟩, by kernel_rfl⟩, trivial⟩ (by kernel_rfl) (by kernel_rfl)) Try.func80 (by kernel_rfl) (by kernel_rfl) (by kernel_rfl) packPut.lp (l := [(true, sub [1, 1, 0, 0, 0] packPut.body, packPut.nml2)]) (by kernel_rfl) (fun n => ⟨packPut.atl2 n, trivial⟩) packPut.eq
noncomputable def packPutText (fu : Nat) (b : List Int) (sv : List Int) : Option ((List Int) × Unit) :=
  let t1 := IntKind.u64.wrap (sv.length : Int)
  (packPut fu b t1).bind fun r2 =>
  chk (apOk r2.1.1 sv 1) <|
  some (r2.1.1 ++ sv, ())

noncomputable def packPutText.body : Code := Try.f62.body.getD .skip
noncomputable def packPutText.con : Con := { ps := [(.slice (.int .u8)), .str], rs := [(.slice (.int .u8))], f := fun n x => packPutText n x.1 x.2.1 }
noncomputable def packPutText.env : Env := { tys := [(64, ⟨(.slice (.int .u8)), 24⟩), (9, ⟨.str, 16⟩), (22, ⟨(.int .u64), 8⟩), (3, ⟨(.int .i64), 8⟩), (5, ⟨(.int .u8), 1⟩)], elems := [(64, 5)], ptrs := [], cons := [], objs := [(80, [packPut.con])], loops := [], cuts := [], globs := globs, base := 0 }
noncomputable def packPutText.lp (n : Nat) : LP (Kd.struct packPutText.con.rs).T := fun lo κ body nm K s =>
  loops n (Kd.struct packPutText.con.rs).T lo κ body nm K s
theorem packPutText.eq (n : Nat) (x : (Kd.struct packPutText.con.ps).T) : evFunc packPutText.env Try.f62 packPutText.body packPutText.con.ps packPutText.con.rs (packPutText.lp n) n x = packPutText.con.f n x := by kernel_rfl
theorem packPutText.sound : Sound Try.prog globs 62 packPutText.con :=
  sound_by (E := packPutText.env) (c := packPutText.body) (envOk (G := globs) (lc := []) (lo := [(80, [packPut.con])]) (envB_spec (by kernel_rfl)) rfl rfl trivial rfl ⟨⟨⟨packPut.sound, trivial⟩, by kernel_rfl⟩, trivial⟩ (by kernel_rfl) (by kernel_rfl)) Try.func62 (by kernel_rfl) packPutText.lp (l := []) (by kernel_rfl) (fun n => trivial) packPutText.eq
noncomputable def valuePut (fu : Nat) (b : List Int) (v : S0) : Option ((List Int) × Int × Unit) :=
  (valueMay fu v).bind fun r1 =>
  cond (!r1.1) (
    some ([], (1 : Int), ())) (
    let t2 := IntKind.i64.wrap ((b.length : Int) + (1 : Int))
    chk (mkOk (0 : Int) t2 1) <|
    let t3 := List.replicate (0 : Int).toNat (0 : Int)
    chk (apOk t3 b 1) <|
    chk (apOk (t3 ++ b) ([v.1]) 1) <|
    cond (v.1 == (1 : Int)) (
      (packPutInt fu ((t3 ++ b) ++ ([v.1])) v.2.1).bind fun r4 =>
      some (r4.1, (0 : Int), ())) (
      cond (v.1 == (2 : Int)) (
        (packPutRealDat fu ((t3 ++ b) ++ ([v.1])) v.2.2.1).bind fun r5 =>
        some (r5.1, (0 : Int), ())) (
        cond (v.1 == (3 : Int)) (
          (packPutText fu ((t3 ++ b) ++ ([v.1])) v.2.2.2.1).bind fun r6 =>
          some (r6.1, (0 : Int), ())) (
          some ((t3 ++ b) ++ ([v.1]), (0 : Int), ())))))

noncomputable def valuePut.body : Code := Try.f42.body.getD .skip
noncomputable def valuePut.con : Con := { ps := [(.slice (.int .u8)), kS0], rs := [(.slice (.int .u8)), (.int .i64)], f := fun n x => valuePut n x.1 x.2.1 }
noncomputable def valuePut.env : Env := { tys := [(58, ⟨kS0, 40⟩), (64, ⟨(.slice (.int .u8)), 24⟩), (65, ⟨(.int .i64), 8⟩), (5, ⟨(.int .u8), 1⟩), (2, ⟨(.int .i64), 8⟩), (25, ⟨.flt, 8⟩), (9, ⟨.str, 16⟩)], elems := [(64, 5)], ptrs := [], cons := [(38, valueMay.con), (60, packPutInt.con), (61, packPutRealDat.con), (62, packPutText.con)], objs := [], loops := [], cuts := [], globs := globs, base := 0 }
noncomputable def valuePut.lp (n : Nat) : LP (Kd.struct valuePut.con.rs).T := fun lo κ body nm K s =>
  loops n (Kd.struct valuePut.con.rs).T lo κ body nm K s
theorem valuePut.eq (n : Nat) (x : (Kd.struct valuePut.con.ps).T) : evFunc valuePut.env Try.f42 valuePut.body valuePut.con.ps valuePut.con.rs (valuePut.lp n) n x = valuePut.con.f n x := by kernel_rfl
theorem valuePut.sound : Sound Try.prog globs 42 valuePut.con :=
  sound_by (E := valuePut.env) (c := valuePut.body) (envOk (G := globs) (lc := [(38, valueMay.con), (60, packPutInt.con), (61, packPutRealDat.con), (62, packPutText.con)]) (lo := []) (envB_spec (by kernel_rfl)) rfl rfl ⟨.inl ⟨valueMay.sound, by kernel_rfl⟩, ⟨.inl ⟨packPutInt.sound, by kernel_rfl⟩, ⟨.inl ⟨packPutRealDat.sound, by kernel_rfl⟩, ⟨.inl ⟨packPutText.sound, by kernel_rfl⟩, trivial⟩⟩⟩⟩ rfl trivial (by kernel_rfl) (by kernel_rfl)) Try.func42 (by kernel_rfl) valuePut.lp (l := []) (by kernel_rfl) (fun n => trivial) valuePut.eq
noncomputable def law04ValueGets (fu : Nat) (b : List Int) (atv : Int) : Option (Bool × Unit) :=
  let t1 := decide ((b.length : Int) > (2000 : Int))
  cond t1 (
    (law04Fixed fu).bind fun r2 =>
    some (r2.1, ())) (
    (valueGet fu b atv).bind fun r3 =>
    (ref04Get fu b atv).bind fun r4 =>
    (law04Fixed fu).bind fun r5 =>
    cond (!r5.1) (
      some (false, ())) (
      (ref04Same fu r3.1 r4.1).bind fun r6 =>
      cond (!r6.1) (
        some (false, ())) (
        cond (r3.2.1 != r4.2.1) (
          some (false, ())) (
          cond (r3.2.2.1 != r4.2.2.1) (
            some (false, ())) (
            cond (r3.2.2.1 != (0 : Int)) (
              (ref04Same fu r3.1 ((0 : Int), (0 : Int), (0 : Nat), [], ())).bind fun r7 =>
              some (r7.1, ())) (
              (valuePut fu [] r3.1).bind fun r8 =>
              cond (r8.2.1 == (0 : Int)) (
                cond (decide (atv ≥ (0 : Int))) (
                  cond (decide (atv ≤ r3.2.1)) (
                    let t9 := decide (r3.2.1 ≤ (b.length : Int))
                    cond t9 (
                      chk (cutOk b atv r3.2.1) <|
                      let t10 := r8.1 == (cutL b atv r3.2.1)
                      cond t10 (
                        (valueMay fu r3.1).bind fun r11 =>
                        some (r11.1, ())) (
                        some (false, ()))) (
                      some (false, ()))) (
                    some (false, ()))) (
                  some (false, ()))) (
                some (false, ()))))))))

noncomputable def law04ValueGets.body : Code := Try.f12.body.getD .skip
noncomputable def law04ValueGets.con : Con := { ps := [(.slice (.int .u8)), (.int .i64)], rs := [.bool], f := fun n x => law04ValueGets n x.1 x.2.1 }
noncomputable def law04ValueGets.env : Env := { tys := [(4, ⟨.bool, 1⟩), (5, ⟨(.int .u8), 1⟩), (58, ⟨kS0, 40⟩), (9, ⟨.str, 16⟩), (64, ⟨(.slice (.int .u8)), 24⟩)], elems := [(64, 5)], ptrs := [], cons := [(34, law04Fixed.con), (44, valueGet.con), (45, ref04Get.con), (41, ref04Same.con), (42, valuePut.con), (38, valueMay.con)], objs := [], loops := [], cuts := [], globs := globs, base := 0 }
noncomputable def law04ValueGets.lp (n : Nat) : LP (Kd.struct law04ValueGets.con.rs).T := fun lo κ body nm K s =>
  loops n (Kd.struct law04ValueGets.con.rs).T lo κ body nm K s
theorem law04ValueGets.eq (n : Nat) (x : (Kd.struct law04ValueGets.con.ps).T) : evFunc law04ValueGets.env Try.f12 law04ValueGets.body law04ValueGets.con.ps law04ValueGets.con.rs (law04ValueGets.lp n) n x = law04ValueGets.con.f n x := by kernel_rfl
theorem law04ValueGets.sound : Sound Try.prog globs 12 law04ValueGets.con :=
  sound_by (E := law04ValueGets.env) (c := law04ValueGets.body) (envOk (G := globs) (lc := [(34, law04Fixed.con), (44, valueGet.con), (45, ref04Get.con), (41, ref04Same.con), (42, valuePut.con), (38, valueMay.con)]) (lo := []) (envB_spec (by kernel_rfl)) rfl rfl ⟨.inl ⟨law04Fixed.sound, by kernel_rfl⟩, ⟨.inl ⟨valueGet.sound, by kernel_rfl⟩, ⟨.inl ⟨ref04Get.sound, by kernel_rfl⟩, ⟨.inl ⟨ref04Same.sound, by kernel_rfl⟩, ⟨.inl ⟨valuePut.sound, by kernel_rfl⟩, ⟨.inl ⟨valueMay.sound, by kernel_rfl⟩, trivial⟩⟩⟩⟩⟩⟩ rfl trivial (by kernel_rfl) (by kernel_rfl)) Try.func12 (by kernel_rfl) law04ValueGets.lp (l := []) (by kernel_rfl) (fun n => trivial) law04ValueGets.eq
noncomputable def law04Great.b2 (fu : Nat) (next : (List S2) → Int → Int → Option (Bool × Unit)) (k1 : Bool → Option (Bool × Unit)) (k2 : Unit → Option (Bool × Unit)) (v : List S2) (vx2 : Int) (vx3 : Int) : Option (Bool × Unit) :=
  cond (decide (vx3 < vx2)) (
    chk (ixOk v vx3) <|
    let e1 := ixL ((0 : Int), (0 : Int), (0 : Int), [], ()) v vx3
    let t2 := (e1.2.2.2.1.length : Int)
    let t3 := decide (t2 > (2000 : Int))
    cond t3 (
      k1 true) (
      let t4 := IntKind.i64.wrap (vx3 + (1 : Int))
      next v vx2 t4)) (
    k2 ())
noncomputable def law04Great.l2 (fu : Nat) (k1 : Bool → Option (Bool × Unit)) (k2 : Unit → Option (Bool × Unit)) : Nat → (List S2) → Int → Int → Option (Bool × Unit)
  | 0, _, _, _ => none
  | m + 1, v, vx2, vx3 => law04Great.b2 fu (law04Great.l2 fu k1 k2 m) k1 k2 v vx2 vx3
noncomputable def law04Great (fu : Nat) (l : List S2) : Option (Bool × Unit) :=
  law04Great.l2 fu (fun vq3 => 
      some (vq3, ())) (fun (_ : Unit) => 
      some (false, ())) fu l (l.length : Int) (0 : Int)

noncomputable def law04Great.body : Code := Try.f33.body.getD .skip
abbrev law04Great.shl2 : Shp := ⟨[.u, .u, .u, .u, .u, .d (.slice kS2), .d (.int .i64), .d (.int .i64), .u, .u, .u, .u, .u, .u, .u, .u], []⟩
abbrev law04Great.outl2e1 : Shp := ⟨[.u, .u, .d .bool, .u, .u, .u, .u, .u, .u, .u, .u, .u, .u, .u, .u, .u], []⟩
abbrev law04Great.outl2e2 : Shp := ⟨[.u, .u, .u, .u, .u, .u, .u, .u, .u, .u, .u, .u, .u, .u, .u, .u], []⟩
noncomputable def law04Great.nml2 : Norm := ⟨{ keep := [5, 6, 7], shut := [(5, (.slice kS2)), (6, (.int .i64)), (7, (.int .i64))], retag := [], heap := 0, dead := [], cshut := [], cretag := [] }, [(1, { keep := [2], shut := [(2, .bool)], retag := [], heap := 0, dead := [], cshut := [], cretag := [] }), (2, { keep := [], shut := [], retag := [], heap := 0, dead := [], cshut := [], cretag := [] })]⟩
noncomputable def law04Great.con : Con := { ps := [(.slice kS2)], rs := [.bool], f := fun n x => law04Great n x.1 }
noncomputable def law04Great.env : Env := { tys := [(4, ⟨.bool, 1⟩), (54, ⟨kS2, 40⟩), (3, ⟨(.int .i64), 8⟩), (9, ⟨.str, 16⟩)], elems := [(82, 54)], ptrs := [], cons := [], objs := [], loops := [(2, law04Great.nml2)], cuts := [], globs := globs, base := 0 }
noncomputable def law04Great.lp (n : Nat) : LP (Kd.struct law04Great.con.rs).T := fun lo κ body nm K s =>
  cond (lo && Nat.beq κ 2)
    (match law04Great.shl2.dec s with
    | some v => law04Great.l2 n (fun w0 => K .ret (law04Great.outl2e1.enc (w0, ()))) (fun _ => K (.exit 0) (law04Great.outl2e2.enc (()))) n v.1 v.2.1 v.2.2.1
    | none => loops n (Kd.struct law04Great.con.rs).T lo κ body nm K s)
    (loops n (Kd.struct law04Great.con.rs).T lo κ body nm K s)
theorem law04Great.atl2 (n : Nat) (s : St) (K : Ex → St → Option (Kd.struct law04Great.con.rs).T) : law04Great.lp n true 2 (evK law04Great.env (law04Great.lp n) n (sub [1, 0, 1, 0, 0] law04Great.body)) law04Great.nml2 K s = loops n (Kd.struct law04Great.con.rs).T true 2 (evK law04Great.env (law04Great.lp n) n (sub [1, 0, 1, 0, 0] law04Great.body)) law04Great.nml2 K s := by
  show (match law04Great.shl2.dec s with | some v => law04Great.l2 n (fun w0 => K .ret (law04Great.outl2e1.enc (w0, ()))) (fun _ => K (.exit 0) (law04Great.outl2e2.enc (()))) n v.1 v.2.1 v.2.2.1 | none => loops n (Kd.struct law04Great.con.rs).T true 2 (evK law04Great.env (law04Great.lp n) n (sub [1, 0, 1, 0, 0] law04Great.body)) law04Great.nml2 K s) = _
  cases h : law04Great.shl2.dec s with
  | none => rfl
  | some v =>
    rw [Shp.dec_enc h]
    exact (evLoop_eq (sh := law04Great.shl2) (body := evK law04Great.env (law04Great.lp n) n (sub [1, 0, 1, 0, 0] law04Great.body)) (nm := law04Great.nml2) (K := K) (b := fun nx v => law04Great.b2 n (fun x0 x1 x2 => nx (x0, x1, x2, ())) (fun w0 => K .ret (law04Great.outl2e1.enc (w0, ()))) (fun _ => K (.exit 0) (law04Great.outl2e2.enc (()))) v.1 v.2.1 v.2.2.1) (l := fun m v => law04Great.l2 n (fun w0 => K .ret (law04Great.outl2e1.enc (w0, ()))) (fun _ => K (.exit 0) (law04Great.outl2e2.enc (()))) m v.1 v.2.1 v.2.2.1) (fun _ => rfl) (fun _ _ => rfl) (fun m v => by kernel_rfl) n v).symm
theorem law04Great.eq (n : Nat) (x : (Kd.struct law04Great.con.ps).T) : evFunc law04Great.env Try.f33 law04Great.body law04Great.con.ps law04Great.con.rs (law04Great.lp n) n x = law04Great.con.f n x := by kernel_rfl
theorem law04Great.sound : Sound Try.prog globs 33 law04Great.con :=
  sound_by (E := law04Great.env) (c := law04Great.body) (envOk (G := globs) (lc := []) (lo := []) (envB_spec (by kernel_rfl)) rfl rfl trivial rfl trivial (by kernel_rfl) (by kernel_rfl)) Try.func33 (by kernel_rfl) law04Great.lp (l := [(true, sub [1, 0, 1, 0, 0] law04Great.body, law04Great.nml2)]) (by kernel_rfl) (fun n => ⟨law04Great.atl2 n, trivial⟩) law04Great.eq
noncomputable def law04RawValue (fu : Nat) (rv : S2) : Option (S0 × Unit) :=
  (extFrom.f fu (rv.2.2.1, ())).bind fun r1 =>
  some ((rv.1, rv.2.1, r1.1, rv.2.2.2.1, ()), ())

noncomputable def law04RawValue.body : Code := Try.f36.body.getD .skip
noncomputable def law04RawValue.con : Con := { ps := [kS2], rs := [kS0], f := fun n x => law04RawValue n x.1 }
noncomputable def law04RawValue.env : Env := { tys := [(54, ⟨kS2, 40⟩), (58, ⟨kS0, 40⟩), (5, ⟨(.int .u8), 1⟩), (2, ⟨(.int .i64), 8⟩), (22, ⟨(.int .u64), 8⟩), (9, ⟨.str, 16⟩)], elems := [], ptrs := [], cons := [(14, extFrom)], objs := [], loops := [], cuts := [], globs := globs, base := 0 }
noncomputable def law04RawValue.lp (n : Nat) : LP (Kd.struct law04RawValue.con.rs).T := fun lo κ body nm K s =>
  loops n (Kd.struct law04RawValue.con.rs).T lo κ body nm K s
theorem law04RawValue.eq (n : Nat) (x : (Kd.struct law04RawValue.con.ps).T) : evFunc law04RawValue.env Try.f36 law04RawValue.body law04RawValue.con.ps law04RawValue.con.rs (law04RawValue.lp n) n x = law04RawValue.con.f n x := by kernel_rfl
theorem law04RawValue.sound : Sound Try.prog globs 36 law04RawValue.con :=
  sound_by (E := law04RawValue.env) (c := law04RawValue.body) (envOk (G := globs) (lc := [(14, extFrom)]) (lo := []) (envB_spec (by kernel_rfl)) rfl rfl ⟨.inr (extFrom_ok Try.func14 (by kernel_rfl) (by kernel_rfl) (by kernel_rfl) (by kernel_rfl)), trivial⟩ rfl trivial (by kernel_rfl) (by kernel_rfl)) Try.func36 (by kernel_rfl) law04RawValue.lp (l := []) (by kernel_rfl) (fun n => trivial) law04RawValue.eq
noncomputable def ref04May.j4 (fu : Nat) (k1 : Bool → Option (Bool × Unit)) (whole : Bool) (point : Bool) (text : Bool) (b0 : S0) : Option (Bool × Unit) :=
  let t1 := decide (b0.1 < (4 : Int))
  cond t1 (
    cond whole (
      cond point (
        cond text (
          let t2 := (b0.2.2.2.1.length : Int)
          let t3 := decide (t2 ≤ (255 : Int))
          k1 t3) (
          k1 false)) (
        k1 false)) (
      k1 false)) (
    k1 false)
noncomputable def ref04May.j3 (fu : Nat) (k1 : Bool → Option (Bool × Unit)) (whole : Bool) (point : Bool) (b0 : S0) : Option (Bool × Unit) :=
  let t1 := b0.2.2.2.1 == ([] : List Int)
  cond t1 (
    ref04May.j4 fu (fun vq3 => 
        k1 vq3) whole point true b0) (
    ref04May.j4 fu (fun vq4 => 
        k1 vq4) whole point (b0.1 == (3 : Int)) b0)
noncomputable def ref04May.j2 (fu : Nat) (k1 : Bool → Option (Bool × Unit)) (whole : Bool) (b0 : S0) : Option (Bool × Unit) :=
  (extBits.f fu (b0.2.2.1, ())).bind fun r1 =>
  cond (r1.1 == (0 : Int)) (
    ref04May.j3 fu (fun vq5 => 
        k1 vq5) whole true b0) (
    ref04May.j3 fu (fun vq6 => 
        k1 vq6) whole (b0.1 == (2 : Int)) b0)
noncomputable def ref04May (fu : Nat) (v : S0) : Option (Bool × Unit) :=
  cond (v.2.1 == (0 : Int)) (
    ref04May.j2 fu (fun vq1 => 
        some (vq1, ())) true v) (
    ref04May.j2 fu (fun vq2 => 
        some (vq2, ())) (v.1 == (1 : Int)) v)

noncomputable def ref04May.body : Code := Try.f39.body.getD .skip
abbrev ref04May.shj4 : Shp := ⟨[.u, .p 0 0, .u, .d .bool, .d .bool, .d .bool, .u, .u, .u, .u, .u, .u, .u, .u, .u, .u, .u, .u, .u, .u, .u, .u, .u, .u, .u, .u, .u, .u, .u, .u, .u, .u, .u, .u, .u, .u, .u, .u, .u, .u, .u, .u, .u, .u, .u, .u, .u, .u, .u], [.c [.g kS0]]⟩
abbrev ref04May.outj4e1 : Shp := ⟨[.u, .u, .d .bool, .u, .u, .u, .u, .u, .u, .u, .u, .u, .u, .u, .u, .u, .u, .u, .u, .u, .u, .u, .u, .u, .u, .u, .u, .u, .u, .u, .u, .u, .u, .u, .u, .u, .u, .u, .u, .u, .u, .u, .u, .u, .u, .u, .u, .u, .u], []⟩
noncomputable def ref04May.nmj4 : Norm := ⟨{ keep := [1, 3, 4, 5], shut := [(3, .bool), (4, .bool), (5, .bool)], retag := [], heap := 1, dead := [], cshut := [(0, 0, (.int .u8)), (0, 1, (.int .i64)), (0, 2, .flt), (0, 3, .str)], cretag := [] }, [(1, { keep := [2], shut := [(2, .bool)], retag := [], heap := 0, dead := [], cshut := [], cretag := [] })]⟩
abbrev ref04May.shj3 : Shp := ⟨[.u, .p 0 0, .u, .d .bool, .d .bool, .u, .u, .u, .u, .u, .u, .u, .u, .u, .u, .u, .u, .u, .u, .u, .u, .u, .u, .u, .u, .u, .u, .u, .u, .u, .u, .u, .u, .u, .u, .u, .u, .u, .u, .u, .u, .u, .u, .u, .u, .u, .u, .u, .u], [.c [.g kS0]]⟩
abbrev ref04May.outj3e1 : Shp := ⟨[.u, .u, .d .bool, .u, .u, .u, .u, .u, .u, .u, .u, .u, .u, .u, .u, .u, .u, .u, .u, .u, .u, .u, .u, .u, .u, .u, .u, .u, .u, .u, .u, .u, .u, .u, .u, .u, .u, .u, .u, .u, .u, .u, .u, .u, .u, .u, .u, .u, .u], []⟩
noncomputable def ref04May.nmj3 : Norm := ⟨{ keep := [1, 3, 4], shut := [(3, .bool), (4, .bool)], retag := [], heap := 1, dead := [], cshut := [(0, 0, (.int .u8)), (0, 1, (.int .i64)), (0, 2, .flt), (0, 3, .str)], cretag := [] }, [(1, { keep := [2], shut := [(2, .bool)], retag := [], heap := 0, dead := [], cshut := [], cretag := [] })]⟩
abbrev ref04May.shj2 : Shp := ⟨[.u, .p 0 0, .u, .d .bool, .u, .u, .u, .u, .u, .u, .u, .u, .u, .u, .u, .u, .u, .u, .u, .u, .u, .u, .u, .u, .u, .u, .u, .u, .u, .u, .u, .u, .u, .u, .u, .u, .u, .u, .u, .u, .u, .u, .u, .u, .u, .u, .u, .u, .u], [.c [.g kS0]]⟩
abbrev ref04May.outj2e1 : Shp := ⟨[.u, .u, .d .bool, .u, .u, .u, .u, .u, .u, .u, .u, .u, .u, .u, .u, .u, .u, .u, .u, .u, .u, .u, .u, .u, .u, .u, .u, .u, .u, .u, .u, .u, .u, .u, .u, .u, .u, .u, .u, .u, .u, .u, .u, .u, .u, .u, .u, .u, .u], []⟩
noncomputable def ref04May.nmj2 : Norm := ⟨{ keep := [1, 3], shut := [(3, .bool)], retag := [], heap := 1, dead := [], cshut := [(0, 0, (.int .u8)), (0, 1, (.int .i64)), (0, 2, .flt), (0, 3, .str)], cretag := [] }, [(1, { keep := [2], shut := [(2, .bool)], retag := [], heap := 0, dead := [], cshut := [], cretag := [] })]⟩
noncomputable def ref04May.con : Con := { ps := [kS0], rs := [.bool], f := fun n x => ref04May n x.1 }
noncomputable def ref04May.env : Env := { tys := [(58, ⟨kS0, 40⟩), (4, ⟨.bool, 1⟩), (2, ⟨(.int .i64), 8⟩), (5, ⟨(.int .u8), 1⟩), (25, ⟨.flt, 8⟩), (9, ⟨.str, 16⟩)], elems := [], ptrs := [], cons := [(26, extBits)], objs := [], loops := [], cuts := [(4, ref04May.nmj4), (3, ref04May.nmj3), (2, ref04May.nmj2)], globs := globs, base := 0 }
noncomputable def ref04May.lp (n : Nat) : LP (Kd.struct ref04May.con.rs).T := fun lo κ body nm K s =>
  cond (!lo && Nat.beq κ 4)
    (match ref04May.shj4.dec s with
    | some v => ref04May.j4 n (fun w0 => K .ret (ref04May.outj4e1.enc (w0, ()))) v.1 v.2.1 v.2.2.1 v.2.2.2.1
    | none => loops n (Kd.struct ref04May.con.rs).T lo κ body nm K s)
    (cond (!lo && Nat.beq κ 3)
    (match ref04May.shj3.dec s with
    | some v => ref04May.j3 n (fun w0 => K .ret (ref04May.outj3e1.enc (w0, ()))) v.1 v.2.1 v.2.2.1
    | none => loops n (Kd.struct ref04May.con.rs).T lo κ body nm K s)
    (cond (!lo && Nat.beq κ 2)
    (match ref04May.shj2.dec s with
    | some v => ref04May.j2 n (fun w0 => K .ret (ref04May.outj2e1.enc (w0, ()))) v.1 v.2.1
    | none => loops n (Kd.struct ref04May.con.rs).T lo κ body nm K s)
    (loops n (Kd.struct ref04May.con.rs).T lo κ body nm K s)))
theorem ref04May.atj4 (n : Nat) (s : St) (K : Ex → St → Option (Kd.struct ref04May.con.rs).T) : ref04May.lp n false 4 (evK ref04May.env (ref04May.lp n) n (sub [1, 1, 1, 1] ref04May.body)) ref04May.nmj4 K s = loops n (Kd.struct ref04May.con.rs).T false 4 (evK ref04May.env (ref04May.lp n) n (sub [1, 1, 1, 1] ref04May.body)) ref04May.nmj4 K s := by
  show (match ref04May.shj4.dec s with | some v => ref04May.j4 n (fun w0 => K .ret (ref04May.outj4e1.enc (w0, ()))) v.1 v.2.1 v.2.2.1 v.2.2.2.1 | none => loops n (Kd.struct ref04May.con.rs).T false 4 (evK ref04May.env (ref04May.lp n) n (sub [1, 1, 1, 1] ref04May.body)) ref04May.nmj4 K s) = _
  cases h : ref04May.shj4.dec s with
  | none => rfl
  | some v =>
    rw [Shp.dec_enc h]
    kernel_rfl
theorem ref04May.atj3 (n : Nat) (s : St) (K : Ex → St → Option (Kd.struct ref04May.con.rs).T) : ref04May.lp n false 3 (evK ref04May.env (ref04May.lp n) n (sub [1, 1, 1] ref04May.body)) ref04May.nmj3 K s = loops n (Kd.struct ref04May.con.rs).T false 3 (evK ref04May.env (ref04May.lp n) n (sub [1, 1, 1] ref04May.body)) ref04May.nmj3 K s := by
  show (match ref04May.shj3.dec s with | some v => ref04May.j3 n (fun w0 => K .ret (ref04May.outj3e1.enc (w0, ()))) v.1 v.2.1 v.2.2.1 | none => loops n (Kd.struct ref04May.con.rs).T false 3 (evK ref04May.env (ref04May.lp n) n (sub [1, 1, 1] ref04May.body)) ref04May.nmj3 K s) = _
  cases h : ref04May.shj3.dec s with
  | none => rfl
  | some v =>
    rw [Shp.dec_enc h]
    kernel_rfl
theorem ref04May.atj2 (n : Nat) (s : St) (K : Ex → St → Option (Kd.struct ref04May.con.rs).T) : ref04May.lp n false 2 (evK ref04May.env (ref04May.lp n) n (sub [1, 1] ref04May.body)) ref04May.nmj2 K s = loops n (Kd.struct ref04May.con.rs).T false 2 (evK ref04May.env (ref04May.lp n) n (sub [1, 1] ref04May.body)) ref04May.nmj2 K s := by
  show (match ref04May.shj2.dec s with | some v => ref04May.j2 n (fun w0 => K .ret (ref04May.outj2e1.enc (w0, ()))) v.1 v.2.1 | none => loops n (Kd.struct ref04May.con.rs).T false 2 (evK ref04May.env (ref04May.lp n) n (sub [1, 1] ref04May.body)) ref04May.nmj2 K s) = _
  cases h : ref04May.shj2.dec s with
  | none => rfl
  | some v =>
    rw [Shp.dec_enc h]
    kernel_rfl
theorem ref04May.eq (n : Nat) (x : (Kd.struct ref04May.con.ps).T) : evFunc ref04May.env Try.f39 ref04May.body ref04May.con.ps ref04May.con.rs (ref04May.lp n) n x = ref04May.con.f n x := by kernel_rfl
theorem ref04May.sound : Sound Try.prog globs 39 ref04May.con :=
  sound_by (E := ref04May.env) (c := ref04May.body) (envOk (G := globs) (lc := [(26, extBits)]) (lo := []) (envB_spec (by kernel_rfl)) rfl rfl ⟨.inr (extBits_ok Try.func26 (by kernel_rfl) (by kernel_rfl) (by kernel_rfl) (by kernel_rfl)), trivial⟩ rfl trivial (by kernel_rfl) (by kernel_rfl)) Try.func39 (by kernel_rfl) ref04May.lp (l := [(false, sub [1, 1, 1, 1] ref04May.body, ref04May.nmj4), (false, sub [1, 1, 1] ref04May.body, ref04May.nmj3), (false, sub [1, 1] ref04May.body, ref04May.nmj2)]) (by kernel_rfl) (fun n => ⟨ref04May.atj4 n, ⟨ref04May.atj3 n, ⟨ref04May.atj2 n, trivial⟩⟩⟩) ref04May.eq
noncomputable def ref03PutDat.b3 (fu : Nat) (next : Int → (List Int) → Option ((List Int) × Unit)) (k2 : Int → (List Int) → Option ((List Int) × Unit)) (n : Int) (out : List Int) : Option ((List Int) × Unit) :=
  cond (decide (n ≥ (128 : Int))) (
    let t1 := IntKind.u64.wrap (Int.tmod n (128 : Int) + (128 : Int))
    chk (apOk out ([IntKind.u8.wrap t1]) 1) <|
    let t2 := out ++ ([IntKind.u8.wrap t1])
    let t3 := IntKind.u64.wrap (Int.tdiv n (128 : Int))
    next t3 t2) (
    k2 n out)
noncomputable def ref03PutDat.l3 (fu : Nat) (k2 : Int → (List Int) → Option ((List Int) × Unit)) : Nat → Int → (List Int) → Option ((List Int) × Unit)
  | 0, _, _ => none
  | m + 1, n, out => ref03PutDat.b3 fu (ref03PutDat.l3 fu k2 m) k2 n out
noncomputable def ref03PutDat (fu : Nat) (b : List Int) (n : Int) : Option ((List Int) × Unit) :=
  chk (apOk [] b 1) <|
  ref03PutDat.l3 fu (fun nq2 outq2 => 
      chk (apOk outq2 ([IntKind.u8.wrap nq2]) 1) <|
      let t1 := outq2 ++ ([IntKind.u8.wrap nq2])
      some (t1, ())) fu n ([] ++ b)

noncomputable def ref03PutDat.body : Code := Try.f82.body.getD .skip
abbrev ref03PutDat.shl3 : Shp := ⟨[.u, .d (.int .u64), .u, .u, .u, .o 5 (.int .u8), .u, .u, .u, .u, .u, .u, .u, .u, .u, .u, .u, .u, .u, .u, .u, .u, .u, .u, .u, .u], []⟩
abbrev ref03PutDat.outl3e2 : Shp := ⟨[.u, .d (.int .u64), .u, .u, .u, .o 5 (.int .u8), .u, .u, .u, .u, .u, .u, .u, .u, .u, .u, .u, .u, .u, .u, .u, .u, .u, .u, .u, .u], []⟩
noncomputable def ref03PutDat.nml3 : Norm := ⟨{ keep := [1, 5], shut := [(1, (.int .u64))], retag := [(5, 5, (.int .u8))], heap := 0, dead := [], cshut := [], cretag := [] }, [(2, { keep := [1, 5], shut := [(1, (.int .u64))], retag := [(5, 5, (.int .u8))], heap := 0, dead := [], cshut := [], cretag := [] })]⟩
noncomputable def ref03PutDat.con : Con := { ps := [(.slice (.int .u8)), (.int .u64)], rs := [(.slice (.int .u8))], f := fun n x => ref03PutDat n x.1 x.2.1 }
noncomputable def ref03PutDat.env : Env := { tys := [(64, ⟨(.slice (.int .u8)), 24⟩), (5, ⟨(.int .u8), 1⟩), (22, ⟨(.int .u64), 8⟩)], elems := [(64, 5)], ptrs := [], cons := [], objs := [], loops := [(3, ref03PutDat.nml3)], cuts := [], globs := globs, base := 0 }
noncomputable def ref03PutDat.lp (n : Nat) : LP (Kd.struct ref03PutDat.con.rs).T := fun lo κ body nm K s =>
  cond (lo && Nat.beq κ 3)
    (match ref03PutDat.shl3.dec s with
    | some v => ref03PutDat.l3 n (fun w0 w1 => K (.exit 0) (ref03PutDat.outl3e2.enc (w0, w1, ()))) n v.1 v.2.1
    | none => loops n (Kd.struct ref03PutDat.con.rs).T lo κ body nm K s)
    (loops n (Kd.struct ref03PutDat.con.rs).T lo κ body nm K s)
theorem ref03PutDat.atl3 (n : Nat) (s : St) (K : Ex → St → Option (Kd.struct ref03PutDat.con.rs).T) : ref03PutDat.lp n true 3 (evK ref03PutDat.env (ref03PutDat.lp n) n (sub [1, 1, 1, 0, 0, 0] ref03PutDat.body)) ref03PutDat.nml3 K s = loops n (Kd.struct ref03PutDat.con.rs).T true 3 (evK ref03PutDat.env (ref03PutDat.lp n) n (sub [1, 1, 1, 0, 0, 0] ref03PutDat.body)) ref03PutDat.nml3 K s := by
  show (match ref03PutDat.shl3.dec s with | some v => ref03PutDat.l3 n (fun w0 w1 => K (.exit 0) (ref03PutDat.outl3e2.enc (w0, w1, ()))) n v.1 v.2.1 | none => loops n (Kd.struct ref03PutDat.con.rs).T true 3 (evK ref03PutDat.env (ref03PutDat.lp n) n (sub [1, 1, 1, 0, 0, 0] ref03PutDat.body)) ref03PutDat.nml3 K s) = _
  cases h : ref03PutDat.shl3.dec s with
  | none => rfl
  | some v =>
    rw [Shp.dec_enc h]
    exact (evLoop_eq (sh := ref03PutDat.shl3) (body := evK ref03PutDat.env (ref03PutDat.lp n) n (sub [1, 1, 1, 0, 0, 0] ref03PutDat.body)) (nm := ref03PutDat.nml3) (K := K) (b := fun nx v => ref03PutDat.b3 n (fun x0 x1 => nx (x0, x1, ())) (fun w0 w1 => K (.exit 0) (ref03PutDat.outl3e2.enc (w0, w1, ()))) v.1 v.2.1) (l := fun m v => ref03PutDat.l3 n (fun w0 w1 => K (.exit 0) (ref03PutDat.outl3e2.enc (w0, w1, ()))) m v.1 v.2.1) (fun _ => rfl) (fun _ _ => rfl) (fun m v => by kernel_rfl) n v).symm
theorem ref03PutDat.eq (n : Nat) (x : (Kd.struct ref03PutDat.con.ps).T) : evFunc ref03PutDat.env Try.f82 ref03PutDat.body ref03PutDat.con.ps ref03PutDat.con.rs (ref03PutDat.lp n) n x = ref03PutDat.con.f n x := by kernel_rfl
theorem ref03PutDat.sound : Sound Try.prog globs 82 ref03PutDat.con :=
  sound_by (E := ref03PutDat.env) (c := ref03PutDat.body) (envOk (G := globs) (lc := []) (lo := []) (envB_spec (by kernel_rfl)) rfl rfl trivial rfl trivial (by kernel_rfl) (by kernel_rfl)) Try.func82 (by kernel_rfl) ref03PutDat.lp (l := [(true, sub [1, 1, 1, 0, 0, 0] ref03PutDat.body, ref03PutDat.nml3)]) (by kernel_rfl) (fun n => ⟨ref03PutDat.atl3 n, trivial⟩) ref03PutDat.eq
noncomputable def ref03PutInt (fu : Nat) (b : List Int) (n : Int) : Option ((List Int) × Unit) :=
  cond (decide (n ≥ (0 : Int))) (
    let t1 := IntKind.u64.wrap ((2 : Int) * IntKind.u64.wrap n)
    (ref03PutDat fu b t1).bind fun r2 =>
    some (r2.1, ())) (
    let t3 := IntKind.i64.wrap (n + (1 : Int))
    let t4 := IntKind.i64.wrap (0 - t3)
    let t5 := IntKind.u64.wrap ((2 : Int) * IntKind.u64.wrap t4)
    let t6 := IntKind.u64.wrap (t5 + (1 : Int))
    (ref03PutDat fu b t6).bind fun r7 =>
    some (r7.1, ()))

noncomputable def ref03PutInt.body : Code := Try.f63.body.getD .skip
noncomputable def ref03PutInt.con : Con := { ps := [(.slice (.int .u8)), (.int .i64)], rs := [(.slice (.int .u8))], f := fun n x => ref03PutInt n x.1 x.2.1 }
noncomputable def ref03PutInt.env : Env := { tys := [(64, ⟨(.slice (.int .u8)), 24⟩), (22, ⟨(.int .u64), 8⟩), (2, ⟨(.int .i64), 8⟩)], elems := [], ptrs := [], cons := [(82, ref03PutDat.con)], objs := [], loops := [], cuts := [], globs := globs, base := 0 }
noncomputable def ref03PutInt.lp (n : Nat) : LP (Kd.struct ref03PutInt.con.rs).T := fun lo κ body nm K s =>
  loops n (Kd.struct ref03PutInt.con.rs).T lo κ body nm K s
theorem ref03PutInt.eq (n : Nat) (x : (Kd.struct ref03PutInt.con.ps).T) : evFunc ref03PutInt.env Try.f63 ref03PutInt.body ref03PutInt.con.ps ref03PutInt.con.rs (ref03PutInt.lp n) n x = ref03PutInt.con.f n x := by kernel_rfl
theorem ref03PutInt.sound : Sound Try.prog globs 63 ref03PutInt.con :=
  sound_by (E := ref03PutInt.env) (c := ref03PutInt.body) (envOk (G := globs) (lc := [(82, ref03PutDat.con)]) (lo := []) (envB_spec (by kernel_rfl)) rfl rfl ⟨.inl ⟨ref03PutDat.sound, by kernel_rfl⟩, trivial⟩ rfl trivial (by kernel_rfl) (by kernel_rfl)) Try.func63 (by kernel_rfl) ref03PutInt.lp (l := []) (by kernel_rfl) (fun n => trivial) ref03PutInt.eq
noncomputable def ref03PutReal.b6 (fu : Nat) (next : (List Int) → Int → Int → (List Int) → Option ((List Int) × Unit)) (k2 : (List Int) → (List Int) → Option ((List Int) × Unit)) (out : List Int) (n : Int) (i : Int) (c0 : List Int) : Option ((List Int) × Unit) :=
  cond (decide (i ≥ (0 : Int))) (
    let t1 := IntKind.u8.wrap (Int.tmod n (256 : Int))
    chk (ixArr 8 i) <|
    chk (nOk c0 8) <|
    let w2 := stL c0 i t1
    let t3 := IntKind.u64.wrap (Int.tdiv n (256 : Int))
    let t4 := IntKind.i64.wrap (i - (1 : Int))
    next out t3 t4 w2) (
    k2 out c0)
noncomputable def ref03PutReal.l6 (fu : Nat) (k2 : (List Int) → (List Int) → Option ((List Int) × Unit)) : Nat → (List Int) → Int → Int → (List Int) → Option ((List Int) × Unit)
  | 0, _, _, _, _ => none
  | m + 1, out, n, i, c0 => ref03PutReal.b6 fu (ref03PutReal.l6 fu k2 m) k2 out n i c0
noncomputable def ref03PutReal (fu : Nat) (b : List Int) (xv : Nat) : Option ((List Int) × Unit) :=
  chk (apOk [] b 1) <|
  (ref02Of fu xv).bind fun r1 =>
  (ref02PartsBits fu r1.1).bind fun r2 =>
  chk (mkMut (8 : Int) (8 : Int) 1) <|
  ref03PutReal.l6 fu (fun outq2 c0q2 => 
      chk (nOk c0q2 8 && apOk outq2 c0q2 1) <|
      some (outq2 ++ c0q2, ())) fu ([] ++ b) r2.1 (7 : Int) (List.replicate (8 : Int).toNat (0 : Int))

noncomputable def ref03PutReal.body : Code := Try.f64.body.getD .skip
abbrev ref03PutReal.shl6 : Shp := ⟨[.u, .u, .u, .u, .u, .o 5 (.int .u8), .d (.int .u64), .s 0 (.int .u8) 8, .d (.int .i64), .u, .u, .u, .u, .u, .u, .u, .u, .u, .u, .u, .u, .u, .u, .u, .u, .u, .u, .u, .u, .u, .u, .u], [.a (.int .u8)]⟩
abbrev ref03PutReal.outl6e2 : Shp := ⟨[.u, .u, .u, .u, .u, .o 5 (.int .u8), .u, .s 0 (.int .u8) 8, .u, .u, .u, .u, .u, .u, .u, .u, .u, .u, .u, .u, .u, .u, .u, .u, .u, .u, .u, .u, .u, .u, .u, .u], [.a (.int .u8)]⟩
noncomputable def ref03PutReal.nml6 : Norm := ⟨{ keep := [5, 6, 7, 8], shut := [(6, (.int .u64)), (8, (.int .i64))], retag := [(5, 5, (.int .u8))], heap := 1, dead := [], cshut := [], cretag := [] }, [(2, { keep := [5, 7], shut := [], retag := [(5, 5, (.int .u8))], heap := 1, dead := [], cshut := [], cretag := [] })]⟩
noncomputable def ref03PutReal.con : Con := { ps := [(.slice (.int .u8)), .flt], rs := [(.slice (.int .u8))], f := fun n x => ref03PutReal n x.1 x.2.1 }
noncomputable def ref03PutReal.env : Env := { tys := [(64, ⟨(.slice (.int .u8)), 24⟩), (5, ⟨(.int .u8), 1⟩), (3, ⟨(.int .i64), 8⟩), (22, ⟨(.int .u64), 8⟩)], elems := [(64, 5)], ptrs := [], cons := [(58, ref02Of.con), (23, ref02PartsBits.con)], objs := [], loops := [(6, ref03PutReal.nml6)], cuts := [], globs := globs, base := 0, muts := [16] }
noncomputable def ref03PutReal.lp (n : Nat) : LP (Kd.struct ref03PutReal.con.rs).T := fun lo κ body nm K s =>
  cond (lo && Nat.beq κ 6)
    (match ref03PutReal.shl6.dec s with
    | some v => ref03PutReal.l6 n (fun w0 w1 => K (.exit 0) (ref03PutReal.outl6e2.enc (w0, w1, ()))) n v.1 v.2.1 v.2.2.1 v.2.2.2.1
    | none => loops n (Kd.struct ref03PutReal.con.rs).T lo κ body nm K s)
    (loops n (Kd.struct ref03PutReal.con.rs).T lo κ body nm K s)
theorem ref03PutReal.atl6 (n : Nat) (s : St) (K : Ex → St → Option (Kd.struct ref03PutReal.con.rs).T) : ref03PutReal.lp n true 6 (evK ref03PutReal.env (ref03PutReal.lp n) n (sub [1, 1, 1, 1, 1, 0, 1, 0, 0] ref03PutReal.body)) ref03PutReal.nml6 K s = loops n (Kd.struct ref03PutReal.con.rs).T true 6 (evK ref03PutReal.env (ref03PutReal.lp n) n (sub [1, 1, 1, 1, 1, 0, 1, 0, 0] ref03PutReal.body)) ref03PutReal.nml6 K s := by
  show (match ref03PutReal.shl6.dec s with | some v => ref03PutReal.l6 n (fun w0 w1 => K (.exit 0) (ref03PutReal.outl6e2.enc (w0, w1, ()))) n v.1 v.2.1 v.2.2.1 v.2.2.2.1 | none => loops n (Kd.struct ref03PutReal.con.rs).T true 6 (evK ref03PutReal.env (ref03PutReal.lp n) n (sub [1, 1, 1, 1, 1, 0, 1, 0, 0] ref03PutReal.body)) ref03PutReal.nml6 K s) = _
  cases h : ref03PutReal.shl6.dec s with
  | none => rfl
  | some v =>
    rw [Shp.dec_enc h]
    exact (evLoop_eq (sh := ref03PutReal.shl6) (body := evK ref03PutReal.env (ref03PutReal.lp n) n (sub [1, 1, 1, 1, 1, 0, 1, 0, 0] ref03PutReal.body)) (nm := ref03PutReal.nml6) (K := K) (b := fun nx v => ref03PutReal.b6 n (fun x0 x1 x2 x3 => nx (x0, x1, x2, x3, ())) (fun w0 w1 => K (.exit 0) (ref03PutReal.outl6e2.enc (w0, w1, ()))) v.1 v.2.1 v.2.2.1 v.2.2.2.1) (l := fun m v => ref03PutReal.l6 n (fun w0 w1 => K (.exit 0) (ref03PutReal.outl6e2.enc (w0, w1, ()))) m v.1 v.2.1 v.2.2.1 v.2.2.2.1) (fun _ => rfl) (fun _ _ => rfl) (fun m v => by kernel_rfl) n v).symm
theorem ref03PutReal.eq (n : Nat) (x : (Kd.struct ref03PutReal.con.ps).T) : evFunc ref03PutReal.env Try.f64 ref03PutReal.body ref03PutReal.con.ps ref03PutReal.con.rs (ref03PutReal.lp n) n x = ref03PutReal.con.f n x := by kernel_rfl
theorem ref03PutReal.sound : Sound Try.prog globs 64 ref03PutReal.con :=
  sound_by (E := ref03PutReal.env) (c := ref03PutReal.body) (envOk (G := globs) (lc := [(58, ref02Of.con), (23, ref02PartsBits.con)]) (lo := []) (envB_spec (by kernel_rfl)) rfl rfl ⟨.inl ⟨ref02Of.sound, by kernel_rfl⟩, ⟨.inl ⟨ref02PartsBits.sound, by kernel_rfl⟩, trivial⟩⟩ rfl trivial (by kernel_rfl) (by kernel_rfl)) Try.func64 (by kernel_rfl) ref03PutReal.lp (l := [(true, sub [1, 1, 1, 1, 1, 0, 1, 0, 0] ref03PutReal.body, ref03PutReal.nml6)]) (by kernel_rfl) (fun n => ⟨ref03PutReal.atl6 n, trivial⟩) ref03PutReal.eq
noncomputable def ref03Put.b3 (fu : Nat) (next : Int → (List Int) → Option (((List Int) × Unit) × (Unit))) (k2 : Int → (List Int) → Option (((List Int) × Unit) × (Unit))) (n : Int) (out : List Int) : Option (((List Int) × Unit) × (Unit)) :=
  cond (decide (n ≥ (128 : Int))) (
    let t1 := IntKind.u64.wrap (Int.tmod n (128 : Int) + (128 : Int))
    chk (apOk out ([IntKind.u8.wrap t1]) 1) <|
    let t2 := out ++ ([IntKind.u8.wrap t1])
    let t3 := IntKind.u64.wrap (Int.tdiv n (128 : Int))
    next t3 t2) (
    k2 n out)
noncomputable def ref03Put.l3 (fu : Nat) (k2 : Int → (List Int) → Option (((List Int) × Unit) × (Unit))) : Nat → Int → (List Int) → Option (((List Int) × Unit) × (Unit))
  | 0, _, _ => none
  | m + 1, n, out => ref03Put.b3 fu (ref03Put.l3 fu k2 m) k2 n out
noncomputable def ref03Put (fu : Nat) (b : List Int) (n : Int) : Option (((List Int) × Unit) × (Unit)) :=
  chk (apOk [] b 1) <|
  ref03Put.l3 fu (fun nq2 outq2 => 
      chk (apOk outq2 ([IntKind.u8.wrap nq2]) 1) <|
      let t1 := outq2 ++ ([IntKind.u8.wrap nq2])
      some ((t1, ()), (()))) fu n ([] ++ b)

noncomputable def ref03Put.body : Code := Try.f82.body.getD .skip
abbrev ref03Put.shl3 : Shp := ⟨[.u, .d (.int .u64), .u, .u, .u, .o 5 (.int .u8), .u, .u, .u, .u, .u, .u, .u, .u, .u, .u, .u, .u, .u, .u, .u, .u, .u, .u, .u, .u], []⟩
abbrev ref03Put.outl3e2 : Shp := ⟨[.u, .d (.int .u64), .u, .u, .u, .o 5 (.int .u8), .u, .u, .u, .u, .u, .u, .u, .u, .u, .u, .u, .u, .u, .u, .u, .u, .u, .u, .u, .u], []⟩
noncomputable def ref03Put.nml3 : Norm := ⟨{ keep := [1, 5], shut := [(1, (.int .u64))], retag := [(5, 5, (.int .u8))], heap := 0, dead := [], cshut := [], cretag := [] }, [(2, { keep := [1, 5], shut := [(1, (.int .u64))], retag := [(5, 5, (.int .u8))], heap := 0, dead := [], cshut := [], cretag := [] })]⟩
noncomputable def ref03Put.con : OCon := { ps := [.dat (.slice (.int .u8)), .dat (.int .u64)], rs := [.own (.int .u8)], f := fun n x => ref03Put n x.1 x.2.1 }
noncomputable def ref03Put.env : Env := { tys := [(64, ⟨(.slice (.int .u8)), 24⟩), (5, ⟨(.int .u8), 1⟩), (22, ⟨(.int .u64), 8⟩)], elems := [(64, 5)], ptrs := [], cons := [], objs := [], loops := [(3, ref03Put.nml3)], cuts := [], globs := globs, base := 0 }
noncomputable def ref03Put.lp (n : Nat) : LP (RT ref03Put.con.rs × BT ref03Put.con.ps) := fun lo κ body nm K s =>
  cond (lo && Nat.beq κ 3)
    (match ref03Put.shl3.dec s with
    | some v => ref03Put.l3 n (fun w0 w1 => K (.exit 0) (ref03Put.outl3e2.enc (w0, w1, ()))) n v.1 v.2.1
    | none => loops n (RT ref03Put.con.rs × BT ref03Put.con.ps) lo κ body nm K s)
    (loops n (RT ref03Put.con.rs × BT ref03Put.con.ps) lo κ body nm K s)
theorem ref03Put.atl3 (n : Nat) (s : St) (K : Ex → St → Option (RT ref03Put.con.rs × BT ref03Put.con.ps)) : ref03Put.lp n true 3 (evK ref03Put.env (ref03Put.lp n) n (sub [1, 1, 1, 0, 0, 0] ref03Put.body)) ref03Put.nml3 K s = loops n (RT ref03Put.con.rs × BT ref03Put.con.ps) true 3 (evK ref03Put.env (ref03Put.lp n) n (sub [1, 1, 1, 0, 0, 0] ref03Put.body)) ref03Put.nml3 K s := by
  show (match ref03Put.shl3.dec s with | some v => ref03Put.l3 n (fun w0 w1 => K (.exit 0) (ref03Put.outl3e2.enc (w0, w1, ()))) n v.1 v.2.1 | none => loops n (RT ref03Put.con.rs × BT ref03Put.con.ps) true 3 (evK ref03Put.env (ref03Put.lp n) n (sub [1, 1, 1, 0, 0, 0] ref03Put.body)) ref03Put.nml3 K s) = _
  cases h : ref03Put.shl3.dec s with
  | none => rfl
  | some v =>
    rw [Shp.dec_enc h]
    exact (evLoop_eq (sh := ref03Put.shl3) (body := evK ref03Put.env (ref03Put.lp n) n (sub [1, 1, 1, 0, 0, 0] ref03Put.body)) (nm := ref03Put.nml3) (K := K) (b := fun nx v => ref03Put.b3 n (fun x0 x1 => nx (x0, x1, ())) (fun w0 w1 => K (.exit 0) (ref03Put.outl3e2.enc (w0, w1, ()))) v.1 v.2.1) (l := fun m v => ref03Put.l3 n (fun w0 w1 => K (.exit 0) (ref03Put.outl3e2.enc (w0, w1, ()))) m v.1 v.2.1) (fun _ => rfl) (fun _ _ => rfl) (fun m v => by kernel_rfl) n v).symm
theorem ref03Put.eq (n : Nat) (x : PT ref03Put.con.ps) : evFuncO ref03Put.env Try.f82 ref03Put.body ref03Put.con.ps ref03Put.con.rs (ref03Put.lp n) n x = ref03Put.con.f n x := by kernel_rfl
theorem ref03Put.sound : SoundO Try.prog globs 82 ref03Put.con :=
  sound_byO (E := ref03Put.env) (c := ref03Put.body) (envOk (G := globs) (lc := []) (lo := []) (envB_spec (by kernel_rfl)) rfl rfl trivial rfl trivial (by kernel_rfl) (by kernel_rfl)) Try.func82 (by kernel_rfl) (by kernel_rfl) (by kernel_rfl) ref03Put.lp (l := [(true, sub [1, 1, 1, 0, 0, 0] ref03Put.body, ref03Put.nml3)]) (by kernel_rfl) (fun n => ⟨ref03Put.atl3 n, trivial⟩) ref03Put.eq
noncomputable def ref03PutText (fu : Nat) (b : List Int) (sv : List Int) : Option ((List Int) × Unit) :=
  let t1 := IntKind.u64.wrap (sv.length : Int)
  (ref03Put fu b t1).bind fun r2 =>
  chk (apOk r2.1.1 sv 1) <|
  some (r2.1.1 ++ sv, ())

noncomputable def ref03PutText.body : Code := Try.f65.body.getD .skip
noncomputable def ref03PutText.con : Con := { ps := [(.slice (.int .u8)), .str], rs := [(.slice (.int .u8))], f := fun n x => ref03PutText n x.1 x.2.1 }
noncomputable def ref03PutText.env : Env := { tys := [(64, ⟨(.slice (.int .u8)), 24⟩), (9, ⟨.str, 16⟩), (22, ⟨(.int .u64), 8⟩), (3, ⟨(.int .i64), 8⟩), (5, ⟨(.int .u8), 1⟩)], elems := [(64, 5)], ptrs := [], cons := [], objs := [(82, [ref03Put.con])], loops := [], cuts := [], globs := globs, base := 0 }
noncomputable def ref03PutText.lp (n : Nat) : LP (Kd.struct ref03PutText.con.rs).T := fun lo κ body nm K s =>
  loops n (Kd.struct ref03PutText.con.rs).T lo κ body nm K s
theorem ref03PutText.eq (n : Nat) (x : (Kd.struct ref03PutText.con.ps).T) : evFunc ref03PutText.env Try.f65 ref03PutText.body ref03PutText.con.ps ref03PutText.con.rs (ref03PutText.lp n) n x = ref03PutText.con.f n x := by kernel_rfl
theorem ref03PutText.sound : Sound Try.prog globs 65 ref03PutText.con :=
  sound_by (E := ref03PutText.env) (c := ref03PutText.body) (envOk (G := globs) (lc := []) (lo := [(82, [ref03Put.con])]) (envB_spec (by kernel_rfl)) rfl rfl trivial rfl ⟨⟨⟨ref03Put.sound, trivial⟩, by kernel_rfl⟩, trivial⟩ (by kernel_rfl) (by kernel_rfl)) Try.func65 (by kernel_rfl) ref03PutText.lp (l := []) (by kernel_rfl) (fun n => trivial) ref03PutText.eq
noncomputable def ref04Put (fu : Nat) (b : List Int) (v : S0) : Option ((List Int) × Int × Unit) :=
  (ref04May fu v).bind fun r1 =>
  cond (!r1.1) (
    some ([], (1 : Int), ())) (
    chk (apOk [] b 1) <|
    chk (apOk ([] ++ b) ([v.1]) 1) <|
    cond (v.1 == (1 : Int)) (
      (ref03PutInt fu (([] ++ b) ++ ([v.1])) v.2.1).bind fun r2 =>
      some (r2.1, (0 : Int), ())) (
      cond (v.1 == (2 : Int)) (
        (ref03PutReal fu (([] ++ b) ++ ([v.1])) v.2.2.1).bind fun r3 =>
        some (r3.1, (0 : Int), ())) (
        cond (v.1 == (3 : Int)) (
          (ref03PutText fu (([] ++ b) ++ ([v.1])) v.2.2.2.1).bind fun r4 =>
          some (r4.1, (0 : Int), ())) (
          some (([] ++ b) ++ ([v.1]), (0 : Int), ())))))

noncomputable def ref04Put.body : Code := Try.f43.body.getD .skip
noncomputable def ref04Put.con : Con := { ps := [(.slice (.int .u8)), kS0], rs := [(.slice (.int .u8)), (.int .i64)], f := fun n x => ref04Put n x.1 x.2.1 }
noncomputable def ref04Put.env : Env := { tys := [(58, ⟨kS0, 40⟩), (64, ⟨(.slice (.int .u8)), 24⟩), (3, ⟨(.int .i64), 8⟩), (5, ⟨(.int .u8), 1⟩), (2, ⟨(.int .i64), 8⟩), (25, ⟨.flt, 8⟩), (9, ⟨.str, 16⟩)], elems := [(64, 5)], ptrs := [], cons := [(39, ref04May.con), (63, ref03PutInt.con), (64, ref03PutReal.con), (65, ref03PutText.con)], objs := [], loops := [], cuts := [], globs := globs, base := 0 }
noncomputable def ref04Put.lp (n : Nat) : LP (Kd.struct ref04Put.con.rs).T := fun lo κ body nm K s =>
  loops n (Kd.struct ref04Put.con.rs).T lo κ body nm K s
theorem ref04Put.eq (n : Nat) (x : (Kd.struct ref04Put.con.ps).T) : evFunc ref04Put.env Try.f43 ref04Put.body ref04Put.con.ps ref04Put.con.rs (ref04Put.lp n) n x = ref04Put.con.f n x := by kernel_rfl
theorem ref04Put.sound : Sound Try.prog globs 43 ref04Put.con :=
  sound_by (E := ref04Put.env) (c := ref04Put.body) (envOk (G := globs) (lc := [(39, ref04May.con), (63, ref03PutInt.con), (64, ref03PutReal.con), (65, ref03PutText.con)]) (lo := []) (envB_spec (by kernel_rfl)) rfl rfl ⟨.inl ⟨ref04May.sound, by kernel_rfl⟩, ⟨.inl ⟨ref03PutInt.sound, by kernel_rfl⟩, ⟨.inl ⟨ref03PutReal.sound, by kernel_rfl⟩, ⟨.inl ⟨ref03PutText.sound, by kernel_rfl⟩, trivial⟩⟩⟩⟩ rfl trivial (by kernel_rfl) (by kernel_rfl)) Try.func43 (by kernel_rfl) ref04Put.lp (l := []) (by kernel_rfl) (fun n => trivial) ref04Put.eq
noncomputable def law04ValuePuts (fu : Nat) (b : List Int) (xv : S2) : Option (Bool × Unit) :=
  (law04Great fu ([xv])).bind fun r1 =>
  cond r1.1 (
    (law04Fixed fu).bind fun r2 =>
    some (r2.1, ())) (
    let t3 := decide ((b.length : Int) > (2000 : Int))
    cond t3 (
      (law04Fixed fu).bind fun r4 =>
      some (r4.1, ())) (
      (law04RawValue fu xv).bind fun r5 =>
      chk (apOk [] b 1) <|
      (valuePut fu ([] ++ b) r5.1).bind fun r6 =>
      (ref04Put fu b r5.1).bind fun r7 =>
      (law04Fixed fu).bind fun r8 =>
      cond (!r8.1) (
        some (false, ())) (
        cond (r6.1 != r7.1) (
          some (false, ())) (
          cond (r6.2.1 != r7.2.1) (
            some (false, ())) (
            cond (([] ++ b) != b) (
              some (false, ())) (
              cond (r6.2.1 != (0 : Int)) (
                some (true, ())) (
                (valueGet fu r6.1 (b.length : Int)).bind fun r9 =>
                cond (r9.2.2.1 == (0 : Int)) (
                  let t10 := r9.2.1 == (r6.1.length : Int)
                  cond t10 (
                    (ref04Same fu r9.1 r5.1).bind fun r11 =>
                    some (r11.1, ())) (
                    some (false, ()))) (
                  some (false, ())))))))))

noncomputable def law04ValuePuts.body : Code := Try.f11.body.getD .skip
noncomputable def law04ValuePuts.con : Con := { ps := [(.slice (.int .u8)), kS2], rs := [.bool], f := fun n x => law04ValuePuts n x.1 x.2.1 }
noncomputable def law04ValuePuts.env : Env := { tys := [(54, ⟨kS2, 40⟩), (4, ⟨.bool, 1⟩), (5, ⟨(.int .u8), 1⟩), (58, ⟨kS0, 40⟩), (9, ⟨.str, 16⟩), (64, ⟨(.slice (.int .u8)), 24⟩)], elems := [(82, 54), (64, 5)], ptrs := [], cons := [(33, law04Great.con), (34, law04Fixed.con), (36, law04RawValue.con), (42, valuePut.con), (43, ref04Put.con), (44, valueGet.con), (41, ref04Same.con)], objs := [], loops := [], cuts := [], globs := globs, base := 0 }
noncomputable def law04ValuePuts.lp (n : Nat) : LP (Kd.struct law04ValuePuts.con.rs).T := fun lo κ body nm K s =>
  loops n (Kd.struct law04ValuePuts.con.rs).T lo κ body nm K s
theorem law04ValuePuts.eq (n : Nat) (x : (Kd.struct law04ValuePuts.con.ps).T) : evFunc law04ValuePuts.env Try.f11 law04ValuePuts.body law04ValuePuts.con.ps law04ValuePuts.con.rs (law04ValuePuts.lp n) n x = law04ValuePuts.con.f n x := by kernel_rfl
theorem law04ValuePuts.sound : Sound Try.prog globs 11 law04ValuePuts.con :=
  sound_by (E := law04ValuePuts.env) (c := law04ValuePuts.body) (envOk (G := globs) (lc := [(33, law04Great.con), (34, law04Fixed.con), (36, law04RawValue.con), (42, valuePut.con), (43, ref04Put.con), (44, valueGet.con), (41, ref04Same.con)]) (lo := []) (envB_spec (by kernel_rfl)) rfl rfl ⟨.inl ⟨law04Great.sound, by kernel_rfl⟩, ⟨.inl ⟨law04Fixed.sound, by kernel_rfl⟩, ⟨.inl ⟨law04RawValue.sound, by kernel_rfl⟩, ⟨.inl ⟨valuePut.sound, by kernel_rfl⟩, ⟨.inl ⟨ref04Put.sound, by kernel_rfl⟩, ⟨.inl ⟨valueGet.sound, by kernel_rfl⟩, ⟨.inl ⟨ref04Same.sound, by kernel_rfl⟩, trivial⟩⟩⟩⟩⟩⟩⟩ rfl trivial (by kernel_rfl) (by kernel_rfl)) Try.func11 (by kernel_rfl) law04ValuePuts.lp (l := []) (by kernel_rfl) (fun n => trivial) law04ValuePuts.eq
end
end Go.Shal.Pr
