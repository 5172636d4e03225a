/- Prints of functions, and proofs that they are what the code computes. By an AI agent. -/
import Derived.Test.YtfnhgbonlbemhaaShC
import Derived.Test.YtfnhgbonlbemhaaProg
set_option linter.unusedVariables false
set_option maxRecDepth 100000
namespace Go.Shal.Pr
open Go Go.Shal Go.Proofs
noncomputable section
def globs : Globs := []
abbrev kS0 : Kd := .struct [.bool, (.int .i64), (.int .u64)]
abbrev S0 : Type := Bool × Int × Int × Unit
noncomputable def mathFloor (fu : Nat) (xv : Nat) : Option (Nat × Unit) :=
  (extFloor.f fu (xv, ())).bind fun r1 =>
  some (r1.1, ())

noncomputable def mathFloor.body : Code := Try.f46.body.getD .skip
noncomputable def mathFloor.con : Con := { ps := [.flt], rs := [.flt], f := fun n x => mathFloor n x.1 }
noncomputable def mathFloor.env : Env := { tys := [(25, ⟨.flt, 8⟩)], elems := [], ptrs := [], cons := [(72, extFloor)], objs := [], loops := [], cuts := [], globs := globs, base := 0 }
noncomputable def mathFloor.lp (n : Nat) : LP (Kd.struct mathFloor.con.rs).T := fun lo κ body nm K s =>
  loops n (Kd.struct mathFloor.con.rs).T lo κ body nm K s
theorem mathFloor.eq (n : Nat) (x : (Kd.struct mathFloor.con.ps).T) : evFunc mathFloor.env Try.f46 mathFloor.body mathFloor.con.ps mathFloor.con.rs (mathFloor.lp n) n x = mathFloor.con.f n x := by kernel_rfl
theorem mathFloor.sound : Sound Try.prog globs 46 mathFloor.con :=
  sound_by (E := mathFloor.env) (c := mathFloor.body) (envOk (G := globs) (lc := [(72, extFloor)]) (lo := []) (envB_spec (by kernel_rfl)) rfl rfl ⟨.inr (extFloor_ok Try.func72 (by kernel_rfl) (by kernel_rfl) (by kernel_rfl) (by kernel_rfl)), trivial⟩ rfl trivial (by kernel_rfl) (by kernel_rfl)) Try.func46 (by kernel_rfl) mathFloor.lp (l := []) (by kernel_rfl) (fun n => trivial) mathFloor.eq
noncomputable def cmpIsNaN (fu : Nat) (xv : Int) : Option (Bool × Unit) :=
  some (xv != xv, ())

noncomputable def cmpIsNaN.body : Code := Try.f74.body.getD .skip
noncomputable def cmpIsNaN.con : Con := { ps := [(.int .i64)], rs := [.bool], f := fun n x => cmpIsNaN n x.1 }
noncomputable def cmpIsNaN.env : Env := { tys := [(4, ⟨.bool, 1⟩)], elems := [], ptrs := [], cons := [], objs := [], loops := [], cuts := [], globs := globs, base := 0 }
noncomputable def cmpIsNaN.lp (n : Nat) : LP (Kd.struct cmpIsNaN.con.rs).T := fun lo κ body nm K s =>
  loops n (Kd.struct cmpIsNaN.con.rs).T lo κ body nm K s
theorem cmpIsNaN.eq (n : Nat) (x : (Kd.struct cmpIsNaN.con.ps).T) : evFunc cmpIsNaN.env Try.f74 cmpIsNaN.body cmpIsNaN.con.ps cmpIsNaN.con.rs (cmpIsNaN.lp n) n x = cmpIsNaN.con.f n x := by kernel_rfl
theorem cmpIsNaN.sound : Sound Try.prog globs 74 cmpIsNaN.con :=
  sound_by (E := cmpIsNaN.env) (c := cmpIsNaN.body) (envOk (G := globs) (lc := []) (lo := []) (envB_spec (by kernel_rfl)) rfl rfl trivial rfl trivial (by kernel_rfl) (by kernel_rfl)) Try.func74 (by kernel_rfl) cmpIsNaN.lp (l := []) (by kernel_rfl) (fun n => trivial) cmpIsNaN.eq
noncomputable def cmpCompare (fu : Nat) (xv : Int) (yv : Int) : Option (Int × Unit) :=
  (cmpIsNaN fu xv).bind fun r1 =>
  (cmpIsNaN fu yv).bind fun r2 =>
  cond r1.1 (
    cond r2.1 (
      some ((0 : Int), ())) (
      some ((-1 : Int), ()))) (
    cond r2.1 (
      some ((1 : Int), ())) (
      cond (decide (xv < yv)) (
        some ((-1 : Int), ())) (
        cond (decide (xv > yv)) (
          some ((1 : Int), ())) (
          some ((0 : Int), ())))))

noncomputable def cmpCompare.body : Code := Try.f47.body.getD .skip
noncomputable def cmpCompare.con : Con := { ps := [(.int .i64), (.int .i64)], rs := [(.int .i64)], f := fun n x => cmpCompare n x.1 x.2.1 }
noncomputable def cmpCompare.env : Env := { tys := [(3, ⟨(.int .i64), 8⟩)], elems := [], ptrs := [], cons := [(74, cmpIsNaN.con)], objs := [], loops := [], cuts := [], globs := globs, base := 0 }
noncomputable def cmpCompare.lp (n : Nat) : LP (Kd.struct cmpCompare.con.rs).T := fun lo κ body nm K s =>
  loops n (Kd.struct cmpCompare.con.rs).T lo κ body nm K s
theorem cmpCompare.eq (n : Nat) (x : (Kd.struct cmpCompare.con.ps).T) : evFunc cmpCompare.env Try.f47 cmpCompare.body cmpCompare.con.ps cmpCompare.con.rs (cmpCompare.lp n) n x = cmpCompare.con.f n x := by kernel_rfl
theorem cmpCompare.sound : Sound Try.prog globs 47 cmpCompare.con :=
  sound_by (E := cmpCompare.env) (c := cmpCompare.body) (envOk (G := globs) (lc := [(74, cmpIsNaN.con)]) (lo := []) (envB_spec (by kernel_rfl)) rfl rfl ⟨.inl ⟨cmpIsNaN.sound, by kernel_rfl⟩, trivial⟩ rfl trivial (by kernel_rfl) (by kernel_rfl)) Try.func47 (by kernel_rfl) cmpCompare.lp (l := []) (by kernel_rfl) (fun n => trivial) cmpCompare.eq
noncomputable def realAgainst (fu : Nat) (n : Int) (xv : Nat) : Option (Int × Bool × Unit) :=
  cond (fNeq xv xv) (
    some ((0 : Int), false, ())) (
    let t1 := fGeq xv (4890909195324358656 : Nat)
    cond t1 (
      some ((-1 : Int), true, ())) (
      let t2 := fLss xv (14114281232179134464 : Nat)
      cond t2 (
        some ((1 : Int), true, ())) (
        (mathFloor fu xv).bind fun r3 =>
        chk (fIntOk .i64 r3.1) <|
        (cmpCompare fu n (fInt .i64 r3.1)).bind fun r4 =>
        cond (r4.1 == (0 : Int)) (
          cond (fGtr xv r3.1) (
            some ((-1 : Int), true, ())) (
            some (r4.1, true, ()))) (
          some (r4.1, true, ())))))

noncomputable def realAgainst.body : Code := Try.f13.body.getD .skip
noncomputable def realAgainst.con : Con := { ps := [(.int .i64), .flt], rs := [(.int .i64), .bool], f := fun n x => realAgainst n x.1 x.2.1 }
noncomputable def realAgainst.env : Env := { tys := [(3, ⟨(.int .i64), 8⟩), (4, ⟨.bool, 1⟩), (2, ⟨(.int .i64), 8⟩), (25, ⟨.flt, 8⟩)], elems := [], ptrs := [], cons := [(46, mathFloor.con), (47, cmpCompare.con)], objs := [], loops := [], cuts := [], globs := globs, base := 0 }
noncomputable def realAgainst.lp (n : Nat) : LP (Kd.struct realAgainst.con.rs).T := fun lo κ body nm K s =>
  loops n (Kd.struct realAgainst.con.rs).T lo κ body nm K s
theorem realAgainst.eq (n : Nat) (x : (Kd.struct realAgainst.con.ps).T) : evFunc realAgainst.env Try.f13 realAgainst.body realAgainst.con.ps realAgainst.con.rs (realAgainst.lp n) n x = realAgainst.con.f n x := by kernel_rfl
theorem realAgainst.sound : Sound Try.prog globs 13 realAgainst.con :=
  sound_by (E := realAgainst.env) (c := realAgainst.body) (envOk (G := globs) (lc := [(46, mathFloor.con), (47, cmpCompare.con)]) (lo := []) (envB_spec (by kernel_rfl)) rfl rfl ⟨.inl ⟨mathFloor.sound, by kernel_rfl⟩, ⟨.inl ⟨cmpCompare.sound, by kernel_rfl⟩, trivial⟩⟩ rfl trivial (by kernel_rfl) (by kernel_rfl)) Try.func13 (by kernel_rfl) realAgainst.lp (l := []) (by kernel_rfl) (fun n => trivial) realAgainst.eq
noncomputable def ref02OfBits (fu : Nat) (b : Int) : Option (S0 × Unit) :=
  let t1 := decide (b ≥ (9223372036854775808 : Int))
  let t2 := IntKind.u64.wrap (Int.tdiv b (4503599627370496 : Int))
  let t3 := IntKind.i64.wrap (Int.tmod t2 (2048 : Int))
  let t4 := Int.tmod b (4503599627370496 : Int)
  some ((t1, t3, t4, ()), ())

noncomputable def ref02OfBits.body : Code := Try.f16.body.getD .skip
noncomputable def ref02OfBits.con : Con := { ps := [(.int .u64)], rs := [kS0], f := fun n x => ref02OfBits n x.1 }
noncomputable def ref02OfBits.env : Env := { tys := [(29, ⟨kS0, 24⟩), (3, ⟨(.int .i64), 8⟩), (22, ⟨(.int .u64), 8⟩)], elems := [], ptrs := [], cons := [], objs := [], loops := [], cuts := [], globs := globs, base := 0 }
noncomputable def ref02OfBits.lp (n : Nat) : LP (Kd.struct ref02OfBits.con.rs).T := fun lo κ body nm K s =>
  loops n (Kd.struct ref02OfBits.con.rs).T lo κ body nm K s
theorem ref02OfBits.eq (n : Nat) (x : (Kd.struct ref02OfBits.con.ps).T) : evFunc ref02OfBits.env Try.f16 ref02OfBits.body ref02OfBits.con.ps ref02OfBits.con.rs (ref02OfBits.lp n) n x = ref02OfBits.con.f n x := by kernel_rfl
theorem ref02OfBits.sound : Sound Try.prog globs 16 ref02OfBits.con :=
  sound_by (E := ref02OfBits.env) (c := ref02OfBits.body) (envOk (G := globs) (lc := []) (lo := []) (envB_spec (by kernel_rfl)) rfl rfl trivial rfl trivial (by kernel_rfl) (by kernel_rfl)) Try.func16 (by kernel_rfl) ref02OfBits.lp (l := []) (by kernel_rfl) (fun n => trivial) ref02OfBits.eq
noncomputable def ref02PartsNaN (fu : Nat) (p : S0) : Option (Bool × Unit) :=
  cond (p.2.1 == (2047 : Int)) (
    some (p.2.2.1 != (0 : Int), ())) (
    some (false, ()))

noncomputable def ref02PartsNaN.body : Code := Try.f48.body.getD .skip
noncomputable def ref02PartsNaN.con : Con := { ps := [kS0], rs := [.bool], f := fun n x => ref02PartsNaN n x.1 }
noncomputable def ref02PartsNaN.env : Env := { tys := [(29, ⟨kS0, 24⟩), (4, ⟨.bool, 1⟩), (3, ⟨(.int .i64), 8⟩), (22, ⟨(.int .u64), 8⟩)], elems := [], ptrs := [], cons := [], objs := [], loops := [], cuts := [], globs := globs, base := 0 }
noncomputable def ref02PartsNaN.lp (n : Nat) : LP (Kd.struct ref02PartsNaN.con.rs).T := fun lo κ body nm K s =>
  loops n (Kd.struct ref02PartsNaN.con.rs).T lo κ body nm K s
theorem ref02PartsNaN.eq (n : Nat) (x : (Kd.struct ref02PartsNaN.con.ps).T) : evFunc ref02PartsNaN.env Try.f48 ref02PartsNaN.body ref02PartsNaN.con.ps ref02PartsNaN.con.rs (ref02PartsNaN.lp n) n x = ref02PartsNaN.con.f n x := by kernel_rfl
theorem ref02PartsNaN.sound : Sound Try.prog globs 48 ref02PartsNaN.con :=
  sound_by (E := ref02PartsNaN.env) (c := ref02PartsNaN.body) (envOk (G := globs) (lc := []) (lo := []) (envB_spec (by kernel_rfl)) rfl rfl trivial rfl trivial (by kernel_rfl) (by kernel_rfl)) Try.func48 (by kernel_rfl) ref02PartsNaN.lp (l := []) (by kernel_rfl) (fun n => trivial) ref02PartsNaN.eq
noncomputable def ref02PartsValue (fu : Nat) (p : S0) : Option (Int × Int × Unit) :=
  cond (p.2.1 == (0 : Int)) (
    some (p.2.2.1, (-1074 : Int), ())) (
    let t1 := IntKind.u64.wrap (p.2.2.1 + (4503599627370496 : Int))
    let t2 := IntKind.i64.wrap (p.2.1 - (1075 : Int))
    some (t1, t2, ()))

noncomputable def ref02PartsValue.body : Code := Try.f75.body.getD .skip
noncomputable def ref02PartsValue.con : Con := { ps := [kS0], rs := [(.int .u64), (.int .i64)], f := fun n x => ref02PartsValue n x.1 }
noncomputable def ref02PartsValue.env : Env := { tys := [(29, ⟨kS0, 24⟩), (22, ⟨(.int .u64), 8⟩), (3, ⟨(.int .i64), 8⟩)], elems := [], ptrs := [], cons := [], objs := [], loops := [], cuts := [], globs := globs, base := 0 }
noncomputable def ref02PartsValue.lp (n : Nat) : LP (Kd.struct ref02PartsValue.con.rs).T := fun lo κ body nm K s =>
  loops n (Kd.struct ref02PartsValue.con.rs).T lo κ body nm K s
theorem ref02PartsValue.eq (n : Nat) (x : (Kd.struct ref02PartsValue.con.ps).T) : evFunc ref02PartsValue.env Try.f75 ref02PartsValue.body ref02PartsValue.con.ps ref02PartsValue.con.rs (ref02PartsValue.lp n) n x = ref02PartsValue.con.f n x := by kernel_rfl
theorem ref02PartsValue.sound : Sound Try.prog globs 75 ref02PartsValue.con :=
  sound_by (E := ref02PartsValue.env) (c := ref02PartsValue.body) (envOk (G := globs) (lc := []) (lo := []) (envB_spec (by kernel_rfl)) rfl rfl trivial rfl trivial (by kernel_rfl) (by kernel_rfl)) Try.func75 (by kernel_rfl) ref02PartsValue.lp (l := []) (by kernel_rfl) (fun n => trivial) ref02PartsValue.eq
noncomputable def ref02PartsFloor.b10 (fu : Nat) (next : Int → Int → Int → Bool → S0 → Option (Int × Bool × Int × Unit)) (k2 : Int → Int → Int → Bool → S0 → Option (Int × Bool × Int × Unit)) (side : Int) (mv : Int) (ev : Int) (exact : Bool) (b0 : S0) : Option (Int × Bool × Int × Unit) :=
  cond (decide (ev < (0 : Int))) (
    let t1 := Int.tmod mv (2 : Int) == (1 : Int)
    cond t1 (
      let t2 := IntKind.u64.wrap (Int.tdiv mv (2 : Int))
      let t3 := IntKind.i64.wrap (ev + (1 : Int))
      next side t2 t3 false b0) (
      let t4 := IntKind.u64.wrap (Int.tdiv mv (2 : Int))
      let t5 := IntKind.i64.wrap (ev + (1 : Int))
      next side t4 t5 exact b0)) (
    k2 side mv ev exact b0)
noncomputable def ref02PartsFloor.l10 (fu : Nat) (k2 : Int → Int → Int → Bool → S0 → Option (Int × Bool × Int × Unit)) : Nat → Int → Int → Int → Bool → S0 → Option (Int × Bool × Int × Unit)
  | 0, _, _, _, _, _ => none
  | m + 1, side, mv, ev, exact, b0 => ref02PartsFloor.b10 fu (ref02PartsFloor.l10 fu k2 m) k2 side mv ev exact b0
noncomputable def ref02PartsFloor.b15 (fu : Nat) (next : Int → Int → Int → Bool → S0 → Option (Int × Bool × Int × Unit)) (k1 : Int → Bool → Int → Option (Int × Bool × Int × Unit)) (k4 : Int → Bool → S0 → Option (Int × Bool × Int × Unit)) (side : Int) (mv : Int) (ev : Int) (exact : Bool) (b0 : S0) : Option (Int × Bool × Int × Unit) :=
  cond (decide (ev > (0 : Int))) (
    let t1 := decide (mv ≥ (9223372036854775808 : Int))
    cond t1 (
      k1 (0 : Int) false side) (
      let t2 := IntKind.u64.wrap (mv * (2 : Int))
      let t3 := IntKind.i64.wrap (ev - (1 : Int))
      next side t2 t3 exact b0)) (
    k4 mv exact b0)
noncomputable def ref02PartsFloor.l15 (fu : Nat) (k1 : Int → Bool → Int → Option (Int × Bool × Int × Unit)) (k4 : Int → Bool → S0 → Option (Int × Bool × Int × Unit)) : Nat → Int → Int → Int → Bool → S0 → Option (Int × Bool × Int × Unit)
  | 0, _, _, _, _, _ => none
  | m + 1, side, mv, ev, exact, b0 => ref02PartsFloor.b15 fu (ref02PartsFloor.l15 fu k1 k4 m) k1 k4 side mv ev exact b0
noncomputable def ref02PartsFloor.j26 (fu : Nat) (k1 : Int → Bool → Int → Option (Int × Bool × Int × Unit)) (mv : Int) (exact : Bool) : Option (Int × Bool × Int × Unit) :=
  let t1 := decide (mv > (9223372036854775808 : Int))
  cond t1 (
    k1 (0 : Int) false (-1 : Int)) (
    let t2 := IntKind.u64.wrap (0 - mv)
    k1 (IntKind.i64.wrap t2) exact (0 : Int))
noncomputable def ref02PartsFloor.j4 (fu : Nat) (k1 : Int → Bool → Int → Option (Int × Bool × Int × Unit)) (side : Int) (b0 : S0) : Option (Int × Bool × Int × Unit) :=
  cond (b0.2.1 == (2047 : Int)) (
    k1 (0 : Int) false side) (
    (ref02PartsValue fu b0).bind fun r1 =>
    cond (r1.1 == (0 : Int)) (
      k1 (0 : Int) true (0 : Int)) (
      ref02PartsFloor.l10 fu (fun sideq4 mvq4 evq4 exactq4 b0q4 => 
          ref02PartsFloor.l15 fu (fun vq7 vq7x2 vq7x3 => 
              k1 vq7 vq7x2 vq7x3) (fun mvq8 exactq8 b0q8 => 
              cond (!b0q8.1) (
                let t2 := decide (mvq8 ≥ (9223372036854775808 : Int))
                cond t2 (
                  k1 (0 : Int) false (1 : Int)) (
                  k1 (IntKind.i64.wrap mvq8) exactq8 (0 : Int))) (
                cond (!exactq8) (
                  let t3 := IntKind.u64.wrap (mvq8 + (1 : Int))
                  ref02PartsFloor.j26 fu (fun vq9 vq9x2 vq9x3 => 
                      k1 vq9 vq9x2 vq9x3) t3 exactq8) (
                  ref02PartsFloor.j26 fu (fun vq10 vq10x2 vq10x3 => 
                      k1 vq10 vq10x2 vq10x3) mvq8 exactq8))) fu sideq4 mvq4 evq4 exactq4 b0q4) fu side r1.1 r1.2.1 true b0))
noncomputable def ref02PartsFloor (fu : Nat) (p : S0) : Option (Int × Bool × Int × Unit) :=
  cond p.1 (
    ref02PartsFloor.j4 fu (fun vq1 vq1x2 vq1x3 => 
        some (vq1, vq1x2, vq1x3, ())) (-1 : Int) p) (
    ref02PartsFloor.j4 fu (fun vq2 vq2x2 vq2x3 => 
        some (vq2, vq2x2, vq2x3, ())) (1 : Int) p)

noncomputable def ref02PartsFloor.body : Code := Try.f49.body.getD .skip
abbrev ref02PartsFloor.shl10 : Shp := ⟨[.u, .p 0 0, .u, .u, .u, .d (.int .i64), .d (.int .u64), .d (.int .i64), .d .bool, .u, .u, .u, .u, .u, .u, .u, .u, .u, .u, .u, .u, .u, .u, .u, .u, .u, .u, .u, .u, .u, .u, .u, .u, .u, .u, .u, .u, .u, .u, .u, .u, .u, .u, .u, .u, .u, .u, .u, .u, .u, .u, .u, .u, .u, .u, .u, .u, .u], [.c [.g kS0]]⟩
abbrev ref02PartsFloor.outl10e2 : Shp := ⟨[.u, .p 0 0, .u, .u, .u, .d (.int .i64), .d (.int .u64), .d (.int .i64), .d .bool, .u, .u, .u, .u, .u, .u, .u, .u, .u, .u, .u, .u, .u, .u, .u, .u, .u, .u, .u, .u, .u, .u, .u, .u, .u, .u, .u, .u, .u, .u, .u, .u, .u, .u, .u, .u, .u, .u, .u, .u, .u, .u, .u, .u, .u, .u, .u, .u, .u], [.c [.g kS0]]⟩
noncomputable def ref02PartsFloor.nml10 : Norm := ⟨{ keep := [1, 5, 6, 7, 8], shut := [(5, (.int .i64)), (6, (.int .u64)), (7, (.int .i64)), (8, .bool)], retag := [], heap := 1, dead := [], cshut := [(0, 0, .bool), (0, 1, (.int .i64)), (0, 2, (.int .u64))], cretag := [] }, [(2, { keep := [1, 5, 6, 7, 8], shut := [(5, (.int .i64)), (6, (.int .u64)), (7, (.int .i64)), (8, .bool)], retag := [], heap := 1, dead := [], cshut := [(0, 0, .bool), (0, 1, (.int .i64)), (0, 2, (.int .u64))], cretag := [] })]⟩
abbrev ref02PartsFloor.shl15 : Shp := ⟨[.u, .p 0 0, .u, .u, .u, .d (.int .i64), .d (.int .u64), .d (.int .i64), .d .bool, .u, .u, .u, .u, .u, .u, .u, .u, .u, .u, .u, .u, .u, .u, .u, .u, .u, .u, .u, .u, .u, .u, .u, .u, .u, .u, .u, .u, .u, .u, .u, .u, .u, .u, .u, .u, .u, .u, .u, .u, .u, .u, .u, .u, .u, .u, .u, .u, .u], [.c [.g kS0]]⟩
abbrev ref02PartsFloor.outl15e1 : Shp := ⟨[.u, .u, .d (.int .i64), .d .bool, .d (.int .i64), .u, .u, .u, .u, .u, .u, .u, .u, .u, .u, .u, .u, .u, .u, .u, .u, .u, .u, .u, .u, .u, .u, .u, .u, .u, .u, .u, .u, .u, .u, .u, .u, .u, .u, .u, .u, .u, .u, .u, .u, .u, .u, .u, .u, .u, .u, .u, .u, .u, .u, .u, .u, .u], []⟩
abbrev ref02PartsFloor.outl15e4 : Shp := ⟨[.u, .p 0 0, .u, .u, .u, .u, .d (.int .u64), .u, .d .bool, .u, .u, .u, .u, .u, .u, .u, .u, .u, .u, .u, .u, .u, .u, .u, .u, .u, .u, .u, .u, .u, .u, .u, .u, .u, .u, .u, .u, .u, .u, .u, .u, .u, .u, .u, .u, .u, .u, .u, .u, .u, .u, .u, .u, .u, .u, .u, .u, .u], [.c [.g kS0]]⟩
noncomputable def ref02PartsFloor.nml15 : Norm := ⟨{ keep := [1, 5, 6, 7, 8], shut := [(5, (.int .i64)), (6, (.int .u64)), (7, (.int .i64)), (8, .bool)], retag := [], heap := 1, dead := [], cshut := [(0, 0, .bool), (0, 1, (.int .i64)), (0, 2, (.int .u64))], cretag := [] }, [(1, { keep := [2, 3, 4], shut := [(2, (.int .i64)), (3, .bool), (4, (.int .i64))], retag := [], heap := 0, dead := [], cshut := [], cretag := [] }), (4, { keep := [1, 6, 8], shut := [(6, (.int .u64)), (8, .bool)], retag := [], heap := 1, dead := [], cshut := [(0, 0, .bool), (0, 1, (.int .i64)), (0, 2, (.int .u64))], cretag := [] })]⟩
abbrev ref02PartsFloor.shj26 : Shp := ⟨[.u, .u, .u, .u, .u, .u, .d (.int .u64), .u, .d .bool, .u, .u, .u, .u, .u, .u, .u, .u, .u, .u, .u, .u, .u, .u, .u, .u, .u, .u, .u, .u, .u, .u, .u, .u, .u, .u, .u, .u, .u, .u, .u, .u, .u, .u, .u, .u, .u, .u, .u, .u, .u, .u, .u, .u, .u, .u, .u, .u, .u], []⟩
abbrev ref02PartsFloor.outj26e1 : Shp := ⟨[.u, .u, .d (.int .i64), .d .bool, .d (.int .i64), .u, .u, .u, .u, .u, .u, .u, .u, .u, .u, .u, .u, .u, .u, .u, .u, .u, .u, .u, .u, .u, .u, .u, .u, .u, .u, .u, .u, .u, .u, .u, .u, .u, .u, .u, .u, .u, .u, .u, .u, .u, .u, .u, .u, .u, .u, .u, .u, .u, .u, .u, .u, .u], []⟩
noncomputable def ref02PartsFloor.nmj26 : Norm := ⟨{ keep := [6, 8], shut := [(6, (.int .u64)), (8, .bool)], retag := [], heap := 0, dead := [], cshut := [], cretag := [] }, [(1, { keep := [2, 3, 4], shut := [(2, (.int .i64)), (3, .bool), (4, (.int .i64))], retag := [], heap := 0, dead := [], cshut := [], cretag := [] })]⟩
abbrev ref02PartsFloor.shj4 : Shp := ⟨[.u, .p 0 0, .u, .u, .u, .d (.int .i64), .u, .u, .u, .u, .u, .u, .u, .u, .u, .u, .u, .u, .u, .u, .u, .u, .u, .u, .u, .u, .u, .u, .u, .u, .u, .u, .u, .u, .u, .u, .u, .u, .u, .u, .u, .u, .u, .u, .u, .u, .u, .u, .u, .u, .u, .u, .u, .u, .u, .u, .u, .u], [.c [.g kS0]]⟩
abbrev ref02PartsFloor.outj4e1 : Shp := ⟨[.u, .u, .d (.int .i64), .d .bool, .d (.int .i64), .u, .u, .u, .u, .u, .u, .u, .u, .u, .u, .u, .u, .u, .u, .u, .u, .u, .u, .u, .u, .u, .u, .u, .u, .u, .u, .u, .u, .u, .u, .u, .u, .u, .u, .u, .u, .u, .u, .u, .u, .u, .u, .u, .u, .u, .u, .u, .u, .u, .u, .u, .u, .u], []⟩
noncomputable def ref02PartsFloor.nmj4 : Norm := ⟨{ keep := [1, 5], shut := [(5, (.int .i64))], retag := [], heap := 1, dead := [], cshut := [(0, 0, .bool), (0, 1, (.int .i64)), (0, 2, (.int .u64))], cretag := [] }, [(1, { keep := [2, 3, 4], shut := [(2, (.int .i64)), (3, .bool), (4, (.int .i64))], retag := [], heap := 0, dead := [], cshut := [], cretag := [] })]⟩
noncomputable def ref02PartsFloor.con : Con := { ps := [kS0], rs := [(.int .i64), .bool, (.int .i64)], f := fun n x => ref02PartsFloor n x.1 }
noncomputable def ref02PartsFloor.env : Env := { tys := [(29, ⟨kS0, 24⟩), (2, ⟨(.int .i64), 8⟩), (4, ⟨.bool, 1⟩), (3, ⟨(.int .i64), 8⟩), (22, ⟨(.int .u64), 8⟩)], elems := [], ptrs := [], cons := [(75, ref02PartsValue.con)], objs := [], loops := [(10, ref02PartsFloor.nml10), (15, ref02PartsFloor.nml15)], cuts := [(26, ref02PartsFloor.nmj26), (4, ref02PartsFloor.nmj4)], globs := globs, base := 0 }
noncomputable def ref02PartsFloor.lp (n : Nat) : LP (Kd.struct ref02PartsFloor.con.rs).T := fun lo κ body nm K s =>
  cond (lo && Nat.beq κ 10)
    (match ref02PartsFloor.shl10.dec s with
    | some v => ref02PartsFloor.l10 n (fun w0 w1 w2 w3 w4 => K (.exit 0) (ref02PartsFloor.outl10e2.enc (w0, w1, w2, w3, w4, ()))) n v.1 v.2.1 v.2.2.1 v.2.2.2.1 v.2.2.2.2.1
    | none => loops n (Kd.struct ref02PartsFloor.con.rs).T lo κ body nm K s)
    (cond (lo && Nat.beq κ 15)
    (match ref02PartsFloor.shl15.dec s with
    | some v => ref02PartsFloor.l15 n (fun w0 w1 w2 => K .ret (ref02PartsFloor.outl15e1.enc (w0, w1, w2, ()))) (fun w0 w1 w2 => K (.exit 2) (ref02PartsFloor.outl15e4.enc (w0, w1, w2, ()))) n v.1 v.2.1 v.2.2.1 v.2.2.2.1 v.2.2.2.2.1
    | none => loops n (Kd.struct ref02PartsFloor.con.rs).T lo κ body nm K s)
    (cond (!lo && Nat.beq κ 26)
    (match ref02PartsFloor.shj26.dec s with
    | some v => ref02PartsFloor.j26 n (fun w0 w1 w2 => K .ret (ref02PartsFloor.outj26e1.enc (w0, w1, w2, ()))) v.1 v.2.1
    | none => loops n (Kd.struct ref02PartsFloor.con.rs).T lo κ body nm K s)
    (cond (!lo && Nat.beq κ 4)
    (match ref02PartsFloor.shj4.dec s with
    | some v => ref02PartsFloor.j4 n (fun w0 w1 w2 => K .ret (ref02PartsFloor.outj4e1.enc (w0, w1, w2, ()))) v.1 v.2.1
    | none => loops n (Kd.struct ref02PartsFloor.con.rs).T lo κ body nm K s)
    (loops n (Kd.struct ref02PartsFloor.con.rs).T lo κ body nm K s))))
theorem ref02PartsFloor.atl10 (n : Nat) (s : St) (K : Ex → St → Option (Kd.struct ref02PartsFloor.con.rs).T) : ref02PartsFloor.lp n true 10 (evK ref02PartsFloor.env (ref02PartsFloor.lp n) n (sub [1, 1, 1, 1, 1, 1, 1, 0, 0, 0] ref02PartsFloor.body)) ref02PartsFloor.nml10 K s = loops n (Kd.struct ref02PartsFloor.con.rs).T true 10 (evK ref02PartsFloor.env (ref02PartsFloor.lp n) n (sub [1, 1, 1, 1, 1, 1, 1, 0, 0, 0] ref02PartsFloor.body)) ref02PartsFloor.nml10 K s := by
  show (match ref02PartsFloor.shl10.dec s with | some v => ref02PartsFloor.l10 n (fun w0 w1 w2 w3 w4 => K (.exit 0) (ref02PartsFloor.outl10e2.enc (w0, w1, w2, w3, w4, ()))) n v.1 v.2.1 v.2.2.1 v.2.2.2.1 v.2.2.2.2.1 | none => loops n (Kd.struct ref02PartsFloor.con.rs).T true 10 (evK ref02PartsFloor.env (ref02PartsFloor.lp n) n (sub [1, 1, 1, 1, 1, 1, 1, 0, 0, 0] ref02PartsFloor.body)) ref02PartsFloor.nml10 K s) = _
  cases h : ref02PartsFloor.shl10.dec s with
  | none => rfl
  | some v =>
    rw [Shp.dec_enc h]
    exact (evLoop_eq (sh := ref02PartsFloor.shl10) (body := evK ref02PartsFloor.env (ref02PartsFloor.lp n) n (sub [1, 1, 1, 1, 1, 1, 1, 0, 0, 0] ref02PartsFloor.body)) (nm := ref02PartsFloor.nml10) (K := K) (b := fun nx v => ref02PartsFloor.b10 n (fun x0 x1 x2 x3 x4 => nx (x0, x1, x2, x3, x4, ())) (fun w0 w1 w2 w3 w4 => K (.exit 0) (ref02PartsFloor.outl10e2.enc (w0, w1, w2, w3, w4, ()))) v.1 v.2.1 v.2.2.1 v.2.2.2.1 v.2.2.2.2.1) (l := fun m v => ref02PartsFloor.l10 n (fun w0 w1 w2 w3 w4 => K (.exit 0) (ref02PartsFloor.outl10e2.enc (w0, w1, w2, w3, w4, ()))) m v.1 v.2.1 v.2.2.1 v.2.2.2.1 v.2.2.2.2.1) (fun _ => rfl) (fun _ _ => rfl) (fun m v => by kernel_rfl) n v).symm
theorem ref02PartsFloor.atl15 (n : Nat) (s : St) (K : Ex → St → Option (Kd.struct ref02PartsFloor.con.rs).T) : ref02PartsFloor.lp n true 15 (evK ref02PartsFloor.env (ref02PartsFloor.lp n) n (sub [1, 1, 1, 1, 1, 1, 1, 1, 0, 0, 0] ref02PartsFloor.body)) ref02PartsFloor.nml15 K s = loops n (Kd.struct ref02PartsFloor.con.rs).T true 15 (evK ref02PartsFloor.env (ref02PartsFloor.lp n) n (sub [1, 1, 1, 1, 1, 1, 1, 1, 0, 0, 0] ref02PartsFloor.body)) ref02PartsFloor.nml15 K s := by
  show (match ref02PartsFloor.shl15.dec s with | some v => ref02PartsFloor.l15 n (fun w0 w1 w2 => K .ret (ref02PartsFloor.outl15e1.enc (w0, w1, w2, ()))) (fun w0 w1 w2 => K (.exit 2) (ref02PartsFloor.outl15e4.enc (w0, w1, w2, ()))) n v.1 v.2.1 v.2.2.1 v.2.2.2.1 v.2.2.2.2.1 | none => loops n (Kd.struct ref02PartsFloor.con.rs).T true 15 (evK ref02PartsFloor.env (ref02PartsFloor.lp n) n (sub [1, 1, 1, 1, 1, 1, 1, 1, 0, 0, 0] ref02PartsFloor.body)) ref02PartsFloor.nml15 K s) = _
  cases h : ref02PartsFloor.shl15.dec s with
  | none => rfl
  | some v =>
    rw [Shp.dec_enc h]
    exact (evLoop_eq (sh := ref02PartsFloor.shl15) (body := evK ref02PartsFloor.env (ref02PartsFloor.lp n) n (sub [1, 1, 1, 1, 1, 1, 1, 1, 0, 0, 0] ref02PartsFloor.body)) (nm := ref02PartsFloor.nml15) (K := K) (b := fun nx v => ref02PartsFloor.b15 n (fun x0 x1 x2 x3 x4 => nx (x0, x1, x2, x3, x4, ())) (fun w0 w1 w2 => K .ret (ref02PartsFloor.outl15e1.enc (w0, w1, w2, ()))) (fun w0 w1 w2 => K (.exit 2) (ref02PartsFloor.outl15e4.enc (w0, w1, w2, ()))) v.1 v.2.1 v.2.2.1 v.2.2.2.1 v.2.2.2.2.1) (l := fun m v => ref02PartsFloor.l15 n (fun w0 w1 w2 => K .ret (ref02PartsFloor.outl15e1.enc (w0, w1, w2, ()))) (fun w0 w1 w2 => K (.exit 2) (ref02PartsFloor.outl15e4.enc (w0, w1, w2, ()))) m v.1 v.2.1 v.2.2.1 v.2.2.2.1 v.2.2.2.2.1) (fun _ => rfl) (fun _ _ => rfl) (fun m v => by kernel_rfl) n v).symm
theorem ref02PartsFloor.atj26 (n : Nat) (s : St) (K : Ex → St → Option (Kd.struct ref02PartsFloor.con.rs).T) : ref02PartsFloor.lp n false 26 (evK ref02PartsFloor.env (ref02PartsFloor.lp n) n (sub [1, 1, 1, 1, 1, 1, 1, 1, 1, 1, 1] ref02PartsFloor.body)) ref02PartsFloor.nmj26 K s = loops n (Kd.struct ref02PartsFloor.con.rs).T false 26 (evK ref02PartsFloor.env (ref02PartsFloor.lp n) n (sub [1, 1, 1, 1, 1, 1, 1, 1, 1, 1, 1] ref02PartsFloor.body)) ref02PartsFloor.nmj26 K s := by
  show (match ref02PartsFloor.shj26.dec s with | some v => ref02PartsFloor.j26 n (fun w0 w1 w2 => K .ret (ref02PartsFloor.outj26e1.enc (w0, w1, w2, ()))) v.1 v.2.1 | none => loops n (Kd.struct ref02PartsFloor.con.rs).T false 26 (evK ref02PartsFloor.env (ref02PartsFloor.lp n) n (sub [1, 1, 1, 1, 1, 1, 1, 1, 1, 1, 1] ref02PartsFloor.body)) ref02PartsFloor.nmj26 K s) = _
  cases h : ref02PartsFloor.shj26.dec s with
  | none => rfl
  | some v =>
    rw [Shp.dec_enc h]
    kernel_rfl
theorem ref02PartsFloor.atj4 (n : Nat) (s : St) (K : Ex → St → Option (Kd.struct ref02PartsFloor.con.rs).T) : ref02PartsFloor.lp n false 4 (evK ref02PartsFloor.env (ref02PartsFloor.lp n) n (sub [1, 1, 1] ref02PartsFloor.body)) ref02PartsFloor.nmj4 K s = loops n (Kd.struct ref02PartsFloor.con.rs).T false 4 (evK ref02PartsFloor.env (ref02PartsFloor.lp n) n (sub [1, 1, 1] ref02PartsFloor.body)) ref02PartsFloor.nmj4 K s := by
  show (match ref02PartsFloor.shj4.dec s with | some v => ref02PartsFloor.j4 n (fun w0 w1 w2 => K .ret (ref02PartsFloor.outj4e1.enc (w0, w1, w2, ()))) v.1 v.2.1 | none => loops n (Kd.struct ref02PartsFloor.con.rs).T false 4 (evK ref02PartsFloor.env (ref02PartsFloor.lp n) n (sub [1, 1, 1] ref02PartsFloor.body)) ref02PartsFloor.nmj4 K s) = _
  cases h : ref02PartsFloor.shj4.dec s with
  | none => rfl
  | some v =>
    rw [Shp.dec_enc h]
    kernel_rfl
theorem ref02PartsFloor.eq (n : Nat) (x : (Kd.struct ref02PartsFloor.con.ps).T) : evFunc ref02PartsFloor.env Try.f49 ref02PartsFloor.body ref02PartsFloor.con.ps ref02PartsFloor.con.rs (ref02PartsFloor.lp n) n x = ref02PartsFloor.con.f n x := by kernel_rfl
theorem ref02PartsFloor.sound : Sound Try.prog globs 49 ref02PartsFloor.con :=
  sound_by (E := ref02PartsFloor.env) (c := ref02PartsFloor.body) (envOk (G := globs) (lc := [(75, ref02PartsValue.con)]) (lo := []) (envB_spec (by kernel_rfl)) rfl rfl ⟨.inl ⟨ref02PartsValue.sound, by kernel_rfl⟩, trivial⟩ rfl trivial (by kernel_rfl) (by kernel_rfl)) Try.func49 (by kernel_rfl) ref02PartsFloor.lp (l := [(true, sub [1, 1, 1, 1, 1, 1, 1, 0, 0, 0] ref02PartsFloor.body, ref02PartsFloor.nml10), (true, sub [1, 1, 1, 1, 1, 1, 1, 1, 0, 0, 0] ref02PartsFloor.body, ref02PartsFloor.nml15), (false, sub [1, 1, 1, 1, 1, 1, 1, 1, 1, 1, 1] ref02PartsFloor.body, ref02PartsFloor.nmj26), (false, sub [1, 1, 1] ref02PartsFloor.body, ref02PartsFloor.nmj4)]) (by kernel_rfl) (fun n => ⟨ref02PartsFloor.atl10 n, ⟨ref02PartsFloor.atl15 n, ⟨ref02PartsFloor.atj26 n, ⟨ref02PartsFloor.atj4 n, trivial⟩⟩⟩⟩) ref02PartsFloor.eq
noncomputable def ref02Against (fu : Nat) (n : Int) (p : S0) : Option (Int × Bool × Unit) :=
  (ref02PartsNaN fu p).bind fun r1 =>
  cond r1.1 (
    some ((0 : Int), false, ())) (
    (ref02PartsFloor fu p).bind fun r2 =>
    cond (r2.2.2.1 != (0 : Int)) (
      let t3 := IntKind.i64.wrap (0 - r2.2.2.1)
      some (t3, true, ())) (
      cond (decide (n < r2.1)) (
        some ((-1 : Int), true, ())) (
        cond (decide (n > r2.1)) (
          some ((1 : Int), true, ())) (
          cond (!r2.2.1) (
            some ((-1 : Int), true, ())) (
            some ((0 : Int), true, ()))))))

noncomputable def ref02Against.body : Code := Try.f15.body.getD .skip
noncomputable def ref02Against.con : Con := { ps := [(.int .i64), kS0], rs := [(.int .i64), .bool], f := fun n x => ref02Against n x.1 x.2.1 }
noncomputable def ref02Against.env : Env := { tys := [(29, ⟨kS0, 24⟩), (3, ⟨(.int .i64), 8⟩), (4, ⟨.bool, 1⟩)], elems := [], ptrs := [], cons := [(48, ref02PartsNaN.con), (49, ref02PartsFloor.con)], objs := [], loops := [], cuts := [], globs := globs, base := 0 }
noncomputable def ref02Against.lp (n : Nat) : LP (Kd.struct ref02Against.con.rs).T := fun lo κ body nm K s =>
  loops n (Kd.struct ref02Against.con.rs).T lo κ body nm K s
theorem ref02Against.eq (n : Nat) (x : (Kd.struct ref02Against.con.ps).T) : evFunc ref02Against.env Try.f15 ref02Against.body ref02Against.con.ps ref02Against.con.rs (ref02Against.lp n) n x = ref02Against.con.f n x := by kernel_rfl
theorem ref02Against.sound : Sound Try.prog globs 15 ref02Against.con :=
  sound_by (E := ref02Against.env) (c := ref02Against.body) (envOk (G := globs) (lc := [(48, ref02PartsNaN.con), (49, ref02PartsFloor.con)]) (lo := []) (envB_spec (by kernel_rfl)) rfl rfl ⟨.inl ⟨ref02PartsNaN.sound, by kernel_rfl⟩, ⟨.inl ⟨ref02PartsFloor.sound, by kernel_rfl⟩, trivial⟩⟩ rfl trivial (by kernel_rfl) (by kernel_rfl)) Try.func15 (by kernel_rfl) ref02Against.lp (l := []) (by kernel_rfl) (fun n => trivial) ref02Against.eq
noncomputable def realCompare (fu : Nat) (a : Nat) (b : Nat) : Option (Int × Bool × Unit) :=
  cond (fLss a b) (
    some ((-1 : Int), true, ())) (
    cond (fGtr a b) (
      some ((1 : Int), true, ())) (
      some ((0 : Int), fEql a b, ())))

noncomputable def realCompare.body : Code := Try.f18.body.getD .skip
noncomputable def realCompare.con : Con := { ps := [.flt, .flt], rs := [(.int .i64), .bool], f := fun n x => realCompare n x.1 x.2.1 }
noncomputable def realCompare.env : Env := { tys := [(3, ⟨(.int .i64), 8⟩), (4, ⟨.bool, 1⟩)], elems := [], ptrs := [], cons := [], objs := [], loops := [], cuts := [], globs := globs, base := 0 }
noncomputable def realCompare.lp (n : Nat) : LP (Kd.struct realCompare.con.rs).T := fun lo κ body nm K s =>
  loops n (Kd.struct realCompare.con.rs).T lo κ body nm K s
theorem realCompare.eq (n : Nat) (x : (Kd.struct realCompare.con.ps).T) : evFunc realCompare.env Try.f18 realCompare.body realCompare.con.ps realCompare.con.rs (realCompare.lp n) n x = realCompare.con.f n x := by kernel_rfl
theorem realCompare.sound : Sound Try.prog globs 18 realCompare.con :=
  sound_by (E := realCompare.env) (c := realCompare.body) (envOk (G := globs) (lc := []) (lo := []) (envB_spec (by kernel_rfl)) rfl rfl trivial rfl trivial (by kernel_rfl) (by kernel_rfl)) Try.func18 (by kernel_rfl) realCompare.lp (l := []) (by kernel_rfl) (fun n => trivial) realCompare.eq
noncomputable def realBits (fu : Nat) (xv : Nat) : Option (Int × Unit) :=
  cond (fNeq xv xv) (
    some ((9221120237041090560 : Int), ())) (
    (extBits.f fu (xv, ())).bind fun r1 =>
    some (r1.1, ()))

noncomputable def realBits.body : Code := Try.f27.body.getD .skip
noncomputable def realBits.con : Con := { ps := [.flt], rs := [(.int .u64)], f := fun n x => realBits n x.1 }
noncomputable def realBits.env : Env := { tys := [(22, ⟨(.int .u64), 8⟩)], elems := [], ptrs := [], cons := [(26, extBits)], objs := [], loops := [], cuts := [], globs := globs, base := 0 }
noncomputable def realBits.lp (n : Nat) : LP (Kd.struct realBits.con.rs).T := fun lo κ body nm K s =>
  loops n (Kd.struct realBits.con.rs).T lo κ body nm K s
theorem realBits.eq (n : Nat) (x : (Kd.struct realBits.con.ps).T) : evFunc realBits.env Try.f27 realBits.body realBits.con.ps realBits.con.rs (realBits.lp n) n x = realBits.con.f n x := by kernel_rfl
theorem realBits.sound : Sound Try.prog globs 27 realBits.con :=
  sound_by (E := realBits.env) (c := realBits.body) (envOk (G := globs) (lc := [(26, extBits)]) (lo := []) (envB_spec (by kernel_rfl)) rfl rfl ⟨.inr (extBits_ok Try.func26 (by kernel_rfl) (by kernel_rfl) (by kernel_rfl) (by kernel_rfl)), trivial⟩ rfl trivial (by kernel_rfl) (by kernel_rfl)) Try.func27 (by kernel_rfl) realBits.lp (l := []) (by kernel_rfl) (fun n => trivial) realBits.eq
noncomputable def realKey (fu : Nat) (xv : Nat) : Option (Int × Unit) :=
  (realBits fu xv).bind fun r1 =>
  let t2 := decide (r1.1 ≥ (9223372036854775808 : Int))
  cond t2 (
    some (bNot .u64 r1.1, ())) (
    let t3 := IntKind.u64.wrap (r1.1 + (9223372036854775808 : Int))
    some (t3, ()))

noncomputable def realKey.body : Code := Try.f28.body.getD .skip
noncomputable def realKey.con : Con := { ps := [.flt], rs := [(.int .u64)], f := fun n x => realKey n x.1 }
noncomputable def realKey.env : Env := { tys := [(22, ⟨(.int .u64), 8⟩)], elems := [], ptrs := [], cons := [(27, realBits.con)], objs := [], loops := [], cuts := [], globs := globs, base := 0 }
noncomputable def realKey.lp (n : Nat) : LP (Kd.struct realKey.con.rs).T := fun lo κ body nm K s =>
  loops n (Kd.struct realKey.con.rs).T lo κ body nm K s
theorem realKey.eq (n : Nat) (x : (Kd.struct realKey.con.ps).T) : evFunc realKey.env Try.f28 realKey.body realKey.con.ps realKey.con.rs (realKey.lp n) n x = realKey.con.f n x := by kernel_rfl
theorem realKey.sound : Sound Try.prog globs 28 realKey.con :=
  sound_by (E := realKey.env) (c := realKey.body) (envOk (G := globs) (lc := [(27, realBits.con)]) (lo := []) (envB_spec (by kernel_rfl)) rfl rfl ⟨.inl ⟨realBits.sound, by kernel_rfl⟩, trivial⟩ rfl trivial (by kernel_rfl) (by kernel_rfl)) Try.func28 (by kernel_rfl) realKey.lp (l := []) (by kernel_rfl) (fun n => trivial) realKey.eq
noncomputable def cmpIsNaNF76 (fu : Nat) (xv : Int) : Option (Bool × Unit) :=
  some (xv != xv, ())

noncomputable def cmpIsNaNF76.body : Code := Try.f76.body.getD .skip
noncomputable def cmpIsNaNF76.con : Con := { ps := [(.int .u64)], rs := [.bool], f := fun n x => cmpIsNaNF76 n x.1 }
noncomputable def cmpIsNaNF76.env : Env := { tys := [(4, ⟨.bool, 1⟩)], elems := [], ptrs := [], cons := [], objs := [], loops := [], cuts := [], globs := globs, base := 0 }
noncomputable def cmpIsNaNF76.lp (n : Nat) : LP (Kd.struct cmpIsNaNF76.con.rs).T := fun lo κ body nm K s =>
  loops n (Kd.struct cmpIsNaNF76.con.rs).T lo κ body nm K s
theorem cmpIsNaNF76.eq (n : Nat) (x : (Kd.struct cmpIsNaNF76.con.ps).T) : evFunc cmpIsNaNF76.env Try.f76 cmpIsNaNF76.body cmpIsNaNF76.con.ps cmpIsNaNF76.con.rs (cmpIsNaNF76.lp n) n x = cmpIsNaNF76.con.f n x := by kernel_rfl
theorem cmpIsNaNF76.sound : Sound Try.prog globs 76 cmpIsNaNF76.con :=
  sound_by (E := cmpIsNaNF76.env) (c := cmpIsNaNF76.body) (envOk (G := globs) (lc := []) (lo := []) (envB_spec (by kernel_rfl)) rfl rfl trivial rfl trivial (by kernel_rfl) (by kernel_rfl)) Try.func76 (by kernel_rfl) cmpIsNaNF76.lp (l := []) (by kernel_rfl) (fun n => trivial) cmpIsNaNF76.eq
noncomputable def cmpCompareF51 (fu : Nat) (xv : Int) (yv : Int) : Option (Int × Unit) :=
  (cmpIsNaNF76 fu xv).bind fun r1 =>
  (cmpIsNaNF76 fu yv).bind fun r2 =>
  cond r1.1 (
    cond r2.1 (
      some ((0 : Int), ())) (
      some ((-1 : Int), ()))) (
    cond r2.1 (
      some ((1 : Int), ())) (
      cond (decide (xv < yv)) (
        some ((-1 : Int), ())) (
        cond (decide (xv > yv)) (
          some ((1 : Int), ())) (
          some ((0 : Int), ())))))

noncomputable def cmpCompareF51.body : Code := Try.f51.body.getD .skip
noncomputable def cmpCompareF51.con : Con := { ps := [(.int .u64), (.int .u64)], rs := [(.int .i64)], f := fun n x => cmpCompareF51 n x.1 x.2.1 }
noncomputable def cmpCompareF51.env : Env := { tys := [(3, ⟨(.int .i64), 8⟩)], elems := [], ptrs := [], cons := [(76, cmpIsNaNF76.con)], objs := [], loops := [], cuts := [], globs := globs, base := 0 }
noncomputable def cmpCompareF51.lp (n : Nat) : LP (Kd.struct cmpCompareF51.con.rs).T := fun lo κ body nm K s =>
  loops n (Kd.struct cmpCompareF51.con.rs).T lo κ body nm K s
theorem cmpCompareF51.eq (n : Nat) (x : (Kd.struct cmpCompareF51.con.ps).T) : evFunc cmpCompareF51.env Try.f51 cmpCompareF51.body cmpCompareF51.con.ps cmpCompareF51.con.rs (cmpCompareF51.lp n) n x = cmpCompareF51.con.f n x := by kernel_rfl
theorem cmpCompareF51.sound : Sound Try.prog globs 51 cmpCompareF51.con :=
  sound_by (E := cmpCompareF51.env) (c := cmpCompareF51.body) (envOk (G := globs) (lc := [(76, cmpIsNaNF76.con)]) (lo := []) (envB_spec (by kernel_rfl)) rfl rfl ⟨.inl ⟨cmpIsNaNF76.sound, by kernel_rfl⟩, trivial⟩ rfl trivial (by kernel_rfl) (by kernel_rfl)) Try.func51 (by kernel_rfl) cmpCompareF51.lp (l := []) (by kernel_rfl) (fun n => trivial) cmpCompareF51.eq
noncomputable def realOrder (fu : Nat) (a : Nat) (b : Nat) : Option (Int × Unit) :=
  (realKey fu a).bind fun r1 =>
  (realKey fu b).bind fun r2 =>
  (cmpCompareF51 fu r1.1 r2.1).bind fun r3 =>
  some (r3.1, ())

noncomputable def realOrder.body : Code := Try.f20.body.getD .skip
noncomputable def realOrder.con : Con := { ps := [.flt, .flt], rs := [(.int .i64)], f := fun n x => realOrder n x.1 x.2.1 }
noncomputable def realOrder.env : Env := { tys := [(3, ⟨(.int .i64), 8⟩)], elems := [], ptrs := [], cons := [(28, realKey.con), (51, cmpCompareF51.con)], objs := [], loops := [], cuts := [], globs := globs, base := 0 }
noncomputable def realOrder.lp (n : Nat) : LP (Kd.struct realOrder.con.rs).T := fun lo κ body nm K s =>
  loops n (Kd.struct realOrder.con.rs).T lo κ body nm K s
theorem realOrder.eq (n : Nat) (x : (Kd.struct realOrder.con.ps).T) : evFunc realOrder.env Try.f20 realOrder.body realOrder.con.ps realOrder.con.rs (realOrder.lp n) n x = realOrder.con.f n x := by kernel_rfl
theorem realOrder.sound : Sound Try.prog globs 20 realOrder.con :=
  sound_by (E := realOrder.env) (c := realOrder.body) (envOk (G := globs) (lc := [(28, realKey.con), (51, cmpCompareF51.con)]) (lo := []) (envB_spec (by kernel_rfl)) rfl rfl ⟨.inl ⟨realKey.sound, by kernel_rfl⟩, ⟨.inl ⟨cmpCompareF51.sound, by kernel_rfl⟩, trivial⟩⟩ rfl trivial (by kernel_rfl) (by kernel_rfl)) Try.func20 (by kernel_rfl) realOrder.lp (l := []) (by kernel_rfl) (fun n => trivial) realOrder.eq
noncomputable def mathSignbit (fu : Nat) (xv : Nat) : Option (Bool × Unit) :=
  (extBits.f fu (xv, ())).bind fun r1 =>
  let t2 := decide (IntKind.i64.wrap r1.1 < (0 : Int))
  some (t2, ())

noncomputable def mathSignbit.body : Code := Try.f54.body.getD .skip
noncomputable def mathSignbit.con : Con := { ps := [.flt], rs := [.bool], f := fun n x => mathSignbit n x.1 }
noncomputable def mathSignbit.env : Env := { tys := [(4, ⟨.bool, 1⟩), (2, ⟨(.int .i64), 8⟩), (22, ⟨(.int .u64), 8⟩)], elems := [], ptrs := [], cons := [(26, extBits)], objs := [], loops := [], cuts := [], globs := globs, base := 0 }
noncomputable def mathSignbit.lp (n : Nat) : LP (Kd.struct mathSignbit.con.rs).T := fun lo κ body nm K s =>
  loops n (Kd.struct mathSignbit.con.rs).T lo κ body nm K s
theorem mathSignbit.eq (n : Nat) (x : (Kd.struct mathSignbit.con.ps).T) : evFunc mathSignbit.env Try.f54 mathSignbit.body mathSignbit.con.ps mathSignbit.con.rs (mathSignbit.lp n) n x = mathSignbit.con.f n x := by kernel_rfl
theorem mathSignbit.sound : Sound Try.prog globs 54 mathSignbit.con :=
  sound_by (E := mathSignbit.env) (c := mathSignbit.body) (envOk (G := globs) (lc := [(26, extBits)]) (lo := []) (envB_spec (by kernel_rfl)) rfl rfl ⟨.inr (extBits_ok Try.func26 (by kernel_rfl) (by kernel_rfl) (by kernel_rfl) (by kernel_rfl)), trivial⟩ rfl trivial (by kernel_rfl) (by kernel_rfl)) Try.func54 (by kernel_rfl) mathSignbit.lp (l := []) (by kernel_rfl) (fun n => trivial) mathSignbit.eq
noncomputable def realUp.j13004 (fu : Nat) (k0 : Nat → Option (Nat × Unit)) (k1 : Nat → Option (Nat × Unit)) (xv : Nat) (v : Bool) : Option (Nat × Unit) :=
  cond v (
    k1 (0 : Nat)) (
    (mathSignbit fu xv).bind fun r1 =>
    cond r1.1 (
      (extBits.f fu (xv, ())).bind fun r2 =>
      let t3 := IntKind.u64.wrap (r2.1 - (1 : Int))
      (extFrom.f fu (t3, ())).bind fun r4 =>
      k1 r4.1) (
      k0 xv))
noncomputable def realUp.j4002 (fu : Nat) (k0 : Nat → Option (Nat × Unit)) (k1 : Nat → Option (Nat × Unit)) (xv : Nat) (v : Bool) : Option (Nat × Unit) :=
  cond v (
    (extFrom.f fu ((9221120237041090560 : Int), ())).bind fun r1 =>
    k1 r1.1) (
    cond (fEql xv (0 : Nat)) (
      (mathSignbit fu xv).bind fun r2 =>
      realUp.j13004 fu (fun xvq9 => 
          k0 xvq9) (fun vq10 => 
          k1 vq10) xv r2.1) (
      realUp.j13004 fu (fun xvq11 => 
          k0 xvq11) (fun vq12 => 
          k1 vq12) xv false))
noncomputable def realUp (fu : Nat) (xv : Nat) : Option (Nat × Unit) :=
  cond (fNeq xv xv) (
    realUp.j4002 fu (fun xvq5 => 
        (extBits.f fu (xvq5, ())).bind fun r1 =>
        let t2 := IntKind.u64.wrap (r1.1 + (1 : Int))
        (extFrom.f fu (t2, ())).bind fun r3 =>
        some (r3.1, ())) (fun vq6 => 
        some (vq6, ())) xv true) (
    let t4 := fGtr xv (9218868437227405311 : Nat)
    realUp.j4002 fu (fun xvq7 => 
        (extBits.f fu (xvq7, ())).bind fun r5 =>
        let t6 := IntKind.u64.wrap (r5.1 + (1 : Int))
        (extFrom.f fu (t6, ())).bind fun r7 =>
        some (r7.1, ())) (fun vq8 => 
        some (vq8, ())) xv t4)

noncomputable def realUp.body : Code := Try.f29.body.getD .skip
abbrev realUp.shj13004 : Shp := ⟨[.d .flt, .u, .u, .u, .u, .u, .u, .u, .u, .u, .u, .u, .d .bool, .u, .u, .u, .u, .u, .u, .u, .u, .u, .u, .u, .u, .u, .u, .u, .u, .u], []⟩
abbrev realUp.outj13004e0 : Shp := ⟨[.d .flt, .u, .u, .u, .u, .u, .u, .u, .u, .u, .u, .u, .u, .u, .u, .u, .u, .u, .u, .u, .u, .u, .u, .u, .u, .u, .u, .u, .u, .u], []⟩
abbrev realUp.outj13004e1 : Shp := ⟨[.u, .u, .d .flt, .u, .u, .u, .u, .u, .u, .u, .u, .u, .u, .u, .u, .u, .u, .u, .u, .u, .u, .u, .u, .u, .u, .u, .u, .u, .u, .u], []⟩
noncomputable def realUp.nmj13004 : Norm := ⟨{ keep := [0, 12], shut := [(0, .flt), (12, .bool)], retag := [], heap := 0, dead := [], cshut := [], cretag := [] }, [(0, { keep := [0], shut := [(0, .flt)], retag := [], heap := 0, dead := [], cshut := [], cretag := [] }), (1, { keep := [2], shut := [(2, .flt)], retag := [], heap := 0, dead := [], cshut := [], cretag := [] })]⟩
abbrev realUp.shj4002 : Shp := ⟨[.d .flt, .u, .u, .d .bool, .u, .u, .u, .u, .u, .u, .u, .u, .u, .u, .u, .u, .u, .u, .u, .u, .u, .u, .u, .u, .u, .u, .u, .u, .u, .u], []⟩
abbrev realUp.outj4002e0 : Shp := ⟨[.d .flt, .u, .u, .u, .u, .u, .u, .u, .u, .u, .u, .u, .u, .u, .u, .u, .u, .u, .u, .u, .u, .u, .u, .u, .u, .u, .u, .u, .u, .u], []⟩
abbrev realUp.outj4002e1 : Shp := ⟨[.u, .u, .d .flt, .u, .u, .u, .u, .u, .u, .u, .u, .u, .u, .u, .u, .u, .u, .u, .u, .u, .u, .u, .u, .u, .u, .u, .u, .u, .u, .u], []⟩
noncomputable def realUp.nmj4002 : Norm := ⟨{ keep := [0, 3], shut := [(0, .flt), (3, .bool)], retag := [], heap := 0, dead := [], cshut := [], cretag := [] }, [(0, { keep := [0], shut := [(0, .flt)], retag := [], heap := 0, dead := [], cshut := [], cretag := [] }), (1, { keep := [2], shut := [(2, .flt)], retag := [], heap := 0, dead := [], cshut := [], cretag := [] })]⟩
noncomputable def realUp.con : Con := { ps := [.flt], rs := [.flt], f := fun n x => realUp n x.1 }
noncomputable def realUp.env : Env := { tys := [(25, ⟨.flt, 8⟩), (4, ⟨.bool, 1⟩)], elems := [], ptrs := [], cons := [(14, extFrom), (54, mathSignbit.con), (26, extBits)], objs := [], loops := [], cuts := [(13004, realUp.nmj13004), (4002, realUp.nmj4002)], globs := globs, base := 0 }
noncomputable def realUp.lp (n : Nat) : LP (Kd.struct realUp.con.rs).T := fun lo κ body nm K s =>
  cond (!lo && Nat.beq κ 13004)
    (match realUp.shj13004.dec s with
    | some v => realUp.j13004 n (fun w0 => K .normal (realUp.outj13004e0.enc (w0, ()))) (fun w0 => K .ret (realUp.outj13004e1.enc (w0, ()))) v.1 v.2.1
    | none => loops n (Kd.struct realUp.con.rs).T lo κ body nm K s)
    (cond (!lo && Nat.beq κ 4002)
    (match realUp.shj4002.dec s with
    | some v => realUp.j4002 n (fun w0 => K .normal (realUp.outj4002e0.enc (w0, ()))) (fun w0 => K .ret (realUp.outj4002e1.enc (w0, ()))) v.1 v.2.1
    | none => loops n (Kd.struct realUp.con.rs).T lo κ body nm K s)
    (loops n (Kd.struct realUp.con.rs).T lo κ body nm K s))
theorem realUp.atj13004 (n : Nat) (s : St) (K : Ex → St → Option (Kd.struct realUp.con.rs).T) : realUp.lp n false 13004 (evK realUp.env (realUp.lp n) n (sub [1, 0, 0, 1, 1, 1] realUp.body)) realUp.nmj13004 K s = loops n (Kd.struct realUp.con.rs).T false 13004 (evK realUp.env (realUp.lp n) n (sub [1, 0, 0, 1, 1, 1] realUp.body)) realUp.nmj13004 K s := by
  show (match realUp.shj13004.dec s with | some v => realUp.j13004 n (fun w0 => K .normal (realUp.outj13004e0.enc (w0, ()))) (fun w0 => K .ret (realUp.outj13004e1.enc (w0, ()))) v.1 v.2.1 | none => loops n (Kd.struct realUp.con.rs).T false 13004 (evK realUp.env (realUp.lp n) n (sub [1, 0, 0, 1, 1, 1] realUp.body)) realUp.nmj13004 K s) = _
  cases h : realUp.shj13004.dec s with
  | none => rfl
  | some v =>
    rw [Shp.dec_enc h]
    kernel_rfl
theorem realUp.atj4002 (n : Nat) (s : St) (K : Ex → St → Option (Kd.struct realUp.con.rs).T) : realUp.lp n false 4002 (evK realUp.env (realUp.lp n) n (sub [1, 0, 0, 1] realUp.body)) realUp.nmj4002 K s = loops n (Kd.struct realUp.con.rs).T false 4002 (evK realUp.env (realUp.lp n) n (sub [1, 0, 0, 1] realUp.body)) realUp.nmj4002 K s := by
  show (match realUp.shj4002.dec s with | some v => realUp.j4002 n (fun w0 => K .normal (realUp.outj4002e0.enc (w0, ()))) (fun w0 => K .ret (realUp.outj4002e1.enc (w0, ()))) v.1 v.2.1 | none => loops n (Kd.struct realUp.con.rs).T false 4002 (evK realUp.env (realUp.lp n) n (sub [1, 0, 0, 1] realUp.body)) realUp.nmj4002 K s) = _
  cases h : realUp.shj4002.dec s with
  | none => rfl
  | some v =>
    rw [Shp.dec_enc h]
    kernel_rfl
theorem realUp.eq (n : Nat) (x : (Kd.struct realUp.con.ps).T) : evFunc realUp.env Try.f29 realUp.body realUp.con.ps realUp.con.rs (realUp.lp n) n x = realUp.con.f n x := by kernel_rfl
theorem realUp.sound : Sound Try.prog globs 29 realUp.con :=
  sound_by (E := realUp.env) (c := realUp.body) (envOk (G := globs) (lc := [(14, extFrom), (54, mathSignbit.con), (26, extBits)]) (lo := []) (envB_spec (by kernel_rfl)) rfl rfl ⟨.inr (extFrom_ok Try.func14 (by kernel_rfl) (by kernel_rfl) (by kernel_rfl) (by kernel_rfl)), ⟨.inl ⟨mathSignbit.sound, by kernel_rfl⟩, ⟨.inr (extBits_ok Try.func26 (by kernel_rfl) (by kernel_rfl) (by kernel_rfl) (by kernel_rfl)), trivial⟩⟩⟩ rfl trivial (by kernel_rfl) (by kernel_rfl)) Try.func29 (by kernel_rfl) realUp.lp (l := [(false, sub [1, 0, 0, 1, 1, 1] realUp.body, realUp.nmj13004), (false, sub [1, 0, 0, 1] realUp.body, realUp.nmj4002)]) (by kernel_rfl) (fun n => ⟨realUp.atj13004 n, ⟨realUp.atj4002 n, trivial⟩⟩) realUp.eq
noncomputable def law02Fixed (fu : Nat) : Option (Bool × Unit) :=
  (extFrom.f fu ((9223372036854775808 : Int), ())).bind fun r1 =>
  (realCompare fu r1.1 (0 : Nat)).bind fun r2 =>
  (realAgainst fu (9007199254740993 : Int) (4845873199050653696 : Nat)).bind fun r3 =>
  (realOrder fu r1.1 (0 : Nat)).bind fun r4 =>
  cond (r4.1 == (-1 : Int)) (
    cond (r2.1 == (0 : Int)) (
      cond r2.2.1 (
        cond (r3.1 == (1 : Int)) (
          cond r3.2.1 (
            (realUp fu (0 : Nat)).bind fun r5 =>
            (realBits fu r5.1).bind fun r6 =>
            some (r6.1 == (1 : Int), ())) (
            some (false, ()))) (
          some (false, ()))) (
        some (false, ()))) (
      some (false, ()))) (
    some (false, ()))

noncomputable def law02Fixed.body : Code := Try.f17.body.getD .skip
noncomputable def law02Fixed.con : Con := { ps := [], rs := [.bool], f := fun n x => law02Fixed n }
noncomputable def law02Fixed.env : Env := { tys := [(4, ⟨.bool, 1⟩)], elems := [], ptrs := [], cons := [(14, extFrom), (18, realCompare.con), (13, realAgainst.con), (20, realOrder.con), (29, realUp.con), (27, realBits.con)], objs := [], loops := [], cuts := [], globs := globs, base := 0 }
noncomputable def law02Fixed.lp (n : Nat) : LP (Kd.struct law02Fixed.con.rs).T := fun lo κ body nm K s =>
  loops n (Kd.struct law02Fixed.con.rs).T lo κ body nm K s
theorem law02Fixed.eq (n : Nat) (x : (Kd.struct law02Fixed.con.ps).T) : evFunc law02Fixed.env Try.f17 law02Fixed.body law02Fixed.con.ps law02Fixed.con.rs (law02Fixed.lp n) n x = law02Fixed.con.f n x := by kernel_rfl
theorem law02Fixed.sound : Sound Try.prog globs 17 law02Fixed.con :=
  sound_by (E := law02Fixed.env) (c := law02Fixed.body) (envOk (G := globs) (lc := [(14, extFrom), (18, realCompare.con), (13, realAgainst.con), (20, realOrder.con), (29, realUp.con), (27, realBits.con)]) (lo := []) (envB_spec (by kernel_rfl)) rfl rfl ⟨.inr (extFrom_ok Try.func14 (by kernel_rfl) (by kernel_rfl) (by kernel_rfl) (by kernel_rfl)), ⟨.inl ⟨realCompare.sound, by kernel_rfl⟩, ⟨.inl ⟨realAgainst.sound, by kernel_rfl⟩, ⟨.inl ⟨realOrder.sound, by kernel_rfl⟩, ⟨.inl ⟨realUp.sound, by kernel_rfl⟩, ⟨.inl ⟨realBits.sound, by kernel_rfl⟩, trivial⟩⟩⟩⟩⟩⟩ rfl trivial (by kernel_rfl) (by kernel_rfl)) Try.func17 (by kernel_rfl) law02Fixed.lp (l := []) (by kernel_rfl) (fun n => trivial) law02Fixed.eq
noncomputable def law02RealAgainst (fu : Nat) (n : Int) (bits : Int) : Option (Bool × Unit) :=
  (extFrom.f fu (bits, ())).bind fun r1 =>
  (realAgainst fu n r1.1).bind fun r2 =>
  (ref02OfBits fu bits).bind fun r3 =>
  (ref02Against fu n r3.1).bind fun r4 =>
  (law02Fixed fu).bind fun r5 =>
  cond r5.1 (
    cond (r2.1 == r4.1) (
      some (r2.2.1 == r4.2.1, ())) (
      some (false, ()))) (
    some (false, ()))

noncomputable def law02RealAgainst.body : Code := Try.f3.body.getD .skip
noncomputable def law02RealAgainst.con : Con := { ps := [(.int .i64), (.int .u64)], rs := [.bool], f := fun n x => law02RealAgainst n x.1 x.2.1 }
noncomputable def law02RealAgainst.env : Env := { tys := [(4, ⟨.bool, 1⟩)], elems := [], ptrs := [], cons := [(14, extFrom), (13, realAgainst.con), (16, ref02OfBits.con), (15, ref02Against.con), (17, law02Fixed.con)], objs := [], loops := [], cuts := [], globs := globs, base := 0 }
noncomputable def law02RealAgainst.lp (n : Nat) : LP (Kd.struct law02RealAgainst.con.rs).T := fun lo κ body nm K s =>
  loops n (Kd.struct law02RealAgainst.con.rs).T lo κ body nm K s
theorem law02RealAgainst.eq (n : Nat) (x : (Kd.struct law02RealAgainst.con.ps).T) : evFunc law02RealAgainst.env Try.f3 law02RealAgainst.body law02RealAgainst.con.ps law02RealAgainst.con.rs (law02RealAgainst.lp n) n x = law02RealAgainst.con.f n x := by kernel_rfl
theorem law02RealAgainst.sound : Sound Try.prog globs 3 law02RealAgainst.con :=
  sound_by (E := law02RealAgainst.env) (c := law02RealAgainst.body) (envOk (G := globs) (lc := [(14, extFrom), (13, realAgainst.con), (16, ref02OfBits.con), (15, ref02Against.con), (17, law02Fixed.con)]) (lo := []) (envB_spec (by kernel_rfl)) rfl rfl ⟨.inr (extFrom_ok Try.func14 (by kernel_rfl) (by kernel_rfl) (by kernel_rfl) (by kernel_rfl)), ⟨.inl ⟨realAgainst.sound, by kernel_rfl⟩, ⟨.inl ⟨ref02OfBits.sound, by kernel_rfl⟩, ⟨.inl ⟨ref02Against.sound, by kernel_rfl⟩, ⟨.inl ⟨law02Fixed.sound, by kernel_rfl⟩, trivial⟩⟩⟩⟩⟩ rfl trivial (by kernel_rfl) (by kernel_rfl)) Try.func3 (by kernel_rfl) law02RealAgainst.lp (l := []) (by kernel_rfl) (fun n => trivial) law02RealAgainst.eq
noncomputable def ref02PartsClass (fu : Nat) (p : S0) : Option (Int × Unit) :=
  cond (p.2.1 == (2047 : Int)) (
    cond (p.2.2.1 != (0 : Int)) (
      some ((4 : Int), ())) (
      some ((3 : Int), ()))) (
    cond (p.2.1 == (0 : Int)) (
      cond (p.2.2.1 != (0 : Int)) (
        some ((1 : Int), ())) (
        some ((0 : Int), ()))) (
      some ((2 : Int), ())))

noncomputable def ref02PartsClass.body : Code := Try.f50.body.getD .skip
noncomputable def ref02PartsClass.con : Con := { ps := [kS0], rs := [(.int .i64)], f := fun n x => ref02PartsClass n x.1 }
noncomputable def ref02PartsClass.env : Env := { tys := [(29, ⟨kS0, 24⟩), (3, ⟨(.int .i64), 8⟩), (22, ⟨(.int .u64), 8⟩)], elems := [], ptrs := [], cons := [], objs := [], loops := [], cuts := [], globs := globs, base := 0 }
noncomputable def ref02PartsClass.lp (n : Nat) : LP (Kd.struct ref02PartsClass.con.rs).T := fun lo κ body nm K s =>
  loops n (Kd.struct ref02PartsClass.con.rs).T lo κ body nm K s
theorem ref02PartsClass.eq (n : Nat) (x : (Kd.struct ref02PartsClass.con.ps).T) : evFunc ref02PartsClass.env Try.f50 ref02PartsClass.body ref02PartsClass.con.ps ref02PartsClass.con.rs (ref02PartsClass.lp n) n x = ref02PartsClass.con.f n x := by kernel_rfl
theorem ref02PartsClass.sound : Sound Try.prog globs 50 ref02PartsClass.con :=
  sound_by (E := ref02PartsClass.env) (c := ref02PartsClass.body) (envOk (G := globs) (lc := []) (lo := []) (envB_spec (by kernel_rfl)) rfl rfl trivial rfl trivial (by kernel_rfl) (by kernel_rfl)) Try.func50 (by kernel_rfl) ref02PartsClass.lp (l := []) (by kernel_rfl) (fun n => trivial) ref02PartsClass.eq
noncomputable def ref02PartsSize (fu : Nat) (p : S0) : Option (Int × Unit) :=
  let t1 := IntKind.u64.wrap (IntKind.u64.wrap p.2.1 * (4503599627370496 : Int))
  let t2 := IntKind.u64.wrap (t1 + p.2.2.1)
  some (t2, ())

noncomputable def ref02PartsSize.body : Code := Try.f52.body.getD .skip
noncomputable def ref02PartsSize.con : Con := { ps := [kS0], rs := [(.int .u64)], f := fun n x => ref02PartsSize n x.1 }
noncomputable def ref02PartsSize.env : Env := { tys := [(29, ⟨kS0, 24⟩), (22, ⟨(.int .u64), 8⟩), (3, ⟨(.int .i64), 8⟩)], elems := [], ptrs := [], cons := [], objs := [], loops := [], cuts := [], globs := globs, base := 0 }
noncomputable def ref02PartsSize.lp (n : Nat) : LP (Kd.struct ref02PartsSize.con.rs).T := fun lo κ body nm K s =>
  loops n (Kd.struct ref02PartsSize.con.rs).T lo κ body nm K s
theorem ref02PartsSize.eq (n : Nat) (x : (Kd.struct ref02PartsSize.con.ps).T) : evFunc ref02PartsSize.env Try.f52 ref02PartsSize.body ref02PartsSize.con.ps ref02PartsSize.con.rs (ref02PartsSize.lp n) n x = ref02PartsSize.con.f n x := by kernel_rfl
theorem ref02PartsSize.sound : Sound Try.prog globs 52 ref02PartsSize.con :=
  sound_by (E := ref02PartsSize.env) (c := ref02PartsSize.body) (envOk (G := globs) (lc := []) (lo := []) (envB_spec (by kernel_rfl)) rfl rfl trivial rfl trivial (by kernel_rfl) (by kernel_rfl)) Try.func52 (by kernel_rfl) ref02PartsSize.lp (l := []) (by kernel_rfl) (fun n => trivial) ref02PartsSize.eq
noncomputable def ref02Order.j13002 (fu : Nat) (k0 : S0 → S0 → Option (Int × Unit)) (k1 : Int → Option (Int × Unit)) (v : Bool) (b0 : S0) (b1 : S0) : Option (Int × Unit) :=
  cond v (
    (ref02PartsNaN fu b0).bind fun r1 =>
    cond r1.1 (
      (ref02PartsNaN fu b1).bind fun r2 =>
      cond r2.1 (
        k1 (0 : Int)) (
        (ref02PartsNaN fu b0).bind fun r3 =>
        cond r3.1 (
          k1 (1 : Int)) (
          k1 (-1 : Int)))) (
      (ref02PartsNaN fu b0).bind fun r4 =>
      cond r4.1 (
        k1 (1 : Int)) (
        k1 (-1 : Int)))) (
    k0 b0 b1)
noncomputable def ref02Order.j16 (fu : Nat) (k1 : Int → Option (Int × Unit)) (xv : Int) (yv : Int) : Option (Int × Unit) :=
  cond (decide (xv < yv)) (
    k1 (-1 : Int)) (
    cond (decide (xv > yv)) (
      k1 (1 : Int)) (
      k1 (0 : Int)))
noncomputable def ref02Order.j7 (fu : Nat) (k1 : Int → Option (Int × Unit)) (b0 : S0) (b1 : S0) : Option (Int × Unit) :=
  cond (!(b0.1 == b1.1)) (
    cond b0.1 (
      k1 (-1 : Int)) (
      k1 (1 : Int))) (
    (ref02PartsSize fu b0).bind fun r1 =>
    (ref02PartsSize fu b1).bind fun r2 =>
    cond b0.1 (
      (ref02PartsSize fu b1).bind fun r3 =>
      (ref02PartsSize fu b0).bind fun r4 =>
      ref02Order.j16 fu (fun vq7 => 
          k1 vq7) r3.1 r4.1) (
      ref02Order.j16 fu (fun vq8 => 
          k1 vq8) r1.1 r2.1))
noncomputable def ref02Order (fu : Nat) (a : S0) (b : S0) : Option (Int × Unit) :=
  (ref02PartsNaN fu a).bind fun r1 =>
  cond r1.1 (
    ref02Order.j13002 fu (fun b0q1 b1q1 => 
        ref02Order.j7 fu (fun vq2 => 
            some (vq2, ())) b0q1 b1q1) (fun vq3 => 
        some (vq3, ())) true a b) (
    (ref02PartsNaN fu b).bind fun r2 =>
    ref02Order.j13002 fu (fun b0q4 b1q4 => 
        ref02Order.j7 fu (fun vq5 => 
            some (vq5, ())) b0q4 b1q4) (fun vq6 => 
        some (vq6, ())) r2.1 a b)

noncomputable def ref02Order.body : Code := Try.f21.body.getD .skip
abbrev ref02Order.shj13002 : Shp := ⟨[.u, .u, .p 0 0, .p 1 0, .u, .u, .u, .u, .u, .u, .u, .u, .d .bool, .u, .u, .u, .u, .u, .u, .u, .u, .u, .u, .u, .u, .u, .u, .u, .u, .u, .u, .u, .u, .u, .u, .u, .u, .u, .u, .u, .u, .u, .u, .u], [.c [.g kS0], .c [.g kS0]]⟩
abbrev ref02Order.outj13002e0 : Shp := ⟨[.u, .u, .p 0 0, .p 1 0, .u, .u, .u, .u, .u, .u, .u, .u, .u, .u, .u, .u, .u, .u, .u, .u, .u, .u, .u, .u, .u, .u, .u, .u, .u, .u, .u, .u, .u, .u, .u, .u, .u, .u, .u, .u, .u, .u, .u, .u], [.c [.g kS0], .c [.g kS0]]⟩
abbrev ref02Order.outj13002e1 : Shp := ⟨[.u, .u, .u, .u, .d (.int .i64), .u, .u, .u, .u, .u, .u, .u, .u, .u, .u, .u, .u, .u, .u, .u, .u, .u, .u, .u, .u, .u, .u, .u, .u, .u, .u, .u, .u, .u, .u, .u, .u, .u, .u, .u, .u, .u, .u, .u], []⟩
noncomputable def ref02Order.nmj13002 : Norm := ⟨{ keep := [2, 3, 12], shut := [(12, .bool)], retag := [], heap := 2, dead := [], cshut := [(0, 0, .bool), (0, 1, (.int .i64)), (0, 2, (.int .u64)), (1, 0, .bool), (1, 1, (.int .i64)), (1, 2, (.int .u64))], cretag := [] }, [(0, { keep := [2, 3], shut := [], retag := [], heap := 2, dead := [], cshut := [(0, 0, .bool), (0, 1, (.int .i64)), (0, 2, (.int .u64)), (1, 0, .bool), (1, 1, (.int .i64)), (1, 2, (.int .u64))], cretag := [] }), (1, { keep := [4], shut := [(4, (.int .i64))], retag := [], heap := 0, dead := [], cshut := [], cretag := [] })]⟩
abbrev ref02Order.shj16 : Shp := ⟨[.u, .u, .u, .u, .u, .d (.int .u64), .d (.int .u64), .u, .u, .u, .u, .u, .u, .u, .u, .u, .u, .u, .u, .u, .u, .u, .u, .u, .u, .u, .u, .u, .u, .u, .u, .u, .u, .u, .u, .u, .u, .u, .u, .u, .u, .u, .u, .u], []⟩
abbrev ref02Order.outj16e1 : Shp := ⟨[.u, .u, .u, .u, .d (.int .i64), .u, .u, .u, .u, .u, .u, .u, .u, .u, .u, .u, .u, .u, .u, .u, .u, .u, .u, .u, .u, .u, .u, .u, .u, .u, .u, .u, .u, .u, .u, .u, .u, .u, .u, .u, .u, .u, .u, .u], []⟩
noncomputable def ref02Order.nmj16 : Norm := ⟨{ keep := [5, 6], shut := [(5, (.int .u64)), (6, (.int .u64))], retag := [], heap := 0, dead := [], cshut := [], cretag := [] }, [(1, { keep := [4], shut := [(4, (.int .i64))], retag := [], heap := 0, dead := [], cshut := [], cretag := [] })]⟩
abbrev ref02Order.shj7 : Shp := ⟨[.u, .u, .p 0 0, .p 1 0, .u, .u, .u, .u, .u, .u, .u, .u, .u, .u, .u, .u, .u, .u, .u, .u, .u, .u, .u, .u, .u, .u, .u, .u, .u, .u, .u, .u, .u, .u, .u, .u, .u, .u, .u, .u, .u, .u, .u, .u], [.c [.g kS0], .c [.g kS0]]⟩
abbrev ref02Order.outj7e1 : Shp := ⟨[.u, .u, .u, .u, .d (.int .i64), .u, .u, .u, .u, .u, .u, .u, .u, .u, .u, .u, .u, .u, .u, .u, .u, .u, .u, .u, .u, .u, .u, .u, .u, .u, .u, .u, .u, .u, .u, .u, .u, .u, .u, .u, .u, .u, .u, .u], []⟩
noncomputable def ref02Order.nmj7 : Norm := ⟨{ keep := [2, 3], shut := [], retag := [], heap := 2, dead := [], cshut := [(0, 0, .bool), (0, 1, (.int .i64)), (0, 2, (.int .u64)), (1, 0, .bool), (1, 1, (.int .i64)), (1, 2, (.int .u64))], cretag := [] }, [(1, { keep := [4], shut := [(4, (.int .i64))], retag := [], heap := 0, dead := [], cshut := [], cretag := [] })]⟩
noncomputable def ref02Order.con : Con := { ps := [kS0, kS0], rs := [(.int .i64)], f := fun n x => ref02Order n x.1 x.2.1 }
noncomputable def ref02Order.env : Env := { tys := [(29, ⟨kS0, 24⟩), (3, ⟨(.int .i64), 8⟩), (4, ⟨.bool, 1⟩)], elems := [], ptrs := [], cons := [(48, ref02PartsNaN.con), (52, ref02PartsSize.con)], objs := [], loops := [], cuts := [(13002, ref02Order.nmj13002), (16, ref02Order.nmj16), (7, ref02Order.nmj7)], globs := globs, base := 0 }
noncomputable def ref02Order.lp (n : Nat) : LP (Kd.struct ref02Order.con.rs).T := fun lo κ body nm K s =>
  cond (!lo && Nat.beq κ 13002)
    (match ref02Order.shj13002.dec s with
    | some v => ref02Order.j13002 n (fun w0 w1 => K .normal (ref02Order.outj13002e0.enc (w0, w1, ()))) (fun w0 => K .ret (ref02Order.outj13002e1.enc (w0, ()))) v.1 v.2.1 v.2.2.1
    | none => loops n (Kd.struct ref02Order.con.rs).T lo κ body nm K s)
    (cond (!lo && Nat.beq κ 16)
    (match ref02Order.shj16.dec s with
    | some v => ref02Order.j16 n (fun w0 => K .ret (ref02Order.outj16e1.enc (w0, ()))) v.1 v.2.1
    | none => loops n (Kd.struct ref02Order.con.rs).T lo κ body nm K s)
    (cond (!lo && Nat.beq κ 7)
    (match ref02Order.shj7.dec s with
    | some v => ref02Order.j7 n (fun w0 => K .ret (ref02Order.outj7e1.enc (w0, ()))) v.1 v.2.1
    | none => loops n (Kd.struct ref02Order.con.rs).T lo κ body nm K s)
    (loops n (Kd.struct ref02Order.con.rs).T lo κ body nm K s)))
theorem ref02Order.atj13002 (n : Nat) (s : St) (K : Ex → St → Option (Kd.struct ref02Order.con.rs).T) : ref02Order.lp n false 13002 (evK ref02Order.env (ref02Order.lp n) n (sub [1, 0, 1] ref02Order.body)) ref02Order.nmj13002 K s = loops n (Kd.struct ref02Order.con.rs).T false 13002 (evK ref02Order.env (ref02Order.lp n) n (sub [1, 0, 1] ref02Order.body)) ref02Order.nmj13002 K s := by
  show (match ref02Order.shj13002.dec s with | some v => ref02Order.j13002 n (fun w0 w1 => K .normal (ref02Order.outj13002e0.enc (w0, w1, ()))) (fun w0 => K .ret (ref02Order.outj13002e1.enc (w0, ()))) v.1 v.2.1 v.2.2.1 | none => loops n (Kd.struct ref02Order.con.rs).T false 13002 (evK ref02Order.env (ref02Order.lp n) n (sub [1, 0, 1] ref02Order.body)) ref02Order.nmj13002 K s) = _
  cases h : ref02Order.shj13002.dec s with
  | none => rfl
  | some v =>
    rw [Shp.dec_enc h]
    kernel_rfl
theorem ref02Order.atj16 (n : Nat) (s : St) (K : Ex → St → Option (Kd.struct ref02Order.con.rs).T) : ref02Order.lp n false 16 (evK ref02Order.env (ref02Order.lp n) n (sub [1, 1, 1, 1, 1, 1] ref02Order.body)) ref02Order.nmj16 K s = loops n (Kd.struct ref02Order.con.rs).T false 16 (evK ref02Order.env (ref02Order.lp n) n (sub [1, 1, 1, 1, 1, 1] ref02Order.body)) ref02Order.nmj16 K s := by
  show (match ref02Order.shj16.dec s with | some v => ref02Order.j16 n (fun w0 => K .ret (ref02Order.outj16e1.enc (w0, ()))) v.1 v.2.1 | none => loops n (Kd.struct ref02Order.con.rs).T false 16 (evK ref02Order.env (ref02Order.lp n) n (sub [1, 1, 1, 1, 1, 1] ref02Order.body)) ref02Order.nmj16 K s) = _
  cases h : ref02Order.shj16.dec s with
  | none => rfl
  | some v =>
    rw [Shp.dec_enc h]
    kernel_rfl
theorem ref02Order.atj7 (n : Nat) (s : St) (K : Ex → St → Option (Kd.struct ref02Order.con.rs).T) : ref02Order.lp n false 7 (evK ref02Order.env (ref02Order.lp n) n (sub [1, 1] ref02Order.body)) ref02Order.nmj7 K s = loops n (Kd.struct ref02Order.con.rs).T false 7 (evK ref02Order.env (ref02Order.lp n) n (sub [1, 1] ref02Order.body)) ref02Order.nmj7 K s := by
  show (match ref02Order.shj7.dec s with | some v => ref02Order.j7 n (fun w0 => K .ret (ref02Order.outj7e1.enc (w0, ()))) v.1 v.2.1 | none => loops n (Kd.struct ref02Order.con.rs).T false 7 (evK ref02Order.env (ref02Order.lp n) n (sub [1, 1] ref02Order.body)) ref02Order.nmj7 K s) = _
  cases h : ref02Order.shj7.dec s with
  | none => rfl
  | some v =>
    rw [Shp.dec_enc h]
    kernel_rfl
theorem ref02Order.eq (n : Nat) (x : (Kd.struct ref02Order.con.ps).T) : evFunc ref02Order.env Try.f21 ref02Order.body ref02Order.con.ps ref02Order.con.rs (ref02Order.lp n) n x = ref02Order.con.f n x := by kernel_rfl
theorem ref02Order.sound : Sound Try.prog globs 21 ref02Order.con :=
  sound_by (E := ref02Order.env) (c := ref02Order.body) (envOk (G := globs) (lc := [(48, ref02PartsNaN.con), (52, ref02PartsSize.con)]) (lo := []) (envB_spec (by kernel_rfl)) rfl rfl ⟨.inl ⟨ref02PartsNaN.sound, by kernel_rfl⟩, ⟨.inl ⟨ref02PartsSize.sound, by kernel_rfl⟩, trivial⟩⟩ rfl trivial (by kernel_rfl) (by kernel_rfl)) Try.func21 (by kernel_rfl) ref02Order.lp (l := [(false, sub [1, 0, 1] ref02Order.body, ref02Order.nmj13002), (false, sub [1, 1, 1, 1, 1, 1] ref02Order.body, ref02Order.nmj16), (false, sub [1, 1] ref02Order.body, ref02Order.nmj7)]) (by kernel_rfl) (fun n => ⟨ref02Order.atj13002 n, ⟨ref02Order.atj16 n, ⟨ref02Order.atj7 n, trivial⟩⟩⟩) ref02Order.eq
noncomputable def ref02Compare (fu : Nat) (a : S0) (b : S0) : Option (Int × Bool × Unit) :=
  (ref02PartsNaN fu a).bind fun r1 =>
  cond r1.1 (
    some ((0 : Int), false, ())) (
    (ref02PartsNaN fu b).bind fun r2 =>
    cond r2.1 (
      some ((0 : Int), false, ())) (
      (ref02PartsClass fu a).bind fun r3 =>
      cond (r3.1 == (0 : Int)) (
        (ref02PartsClass fu b).bind fun r4 =>
        cond (r4.1 == (0 : Int)) (
          some ((0 : Int), true, ())) (
          (ref02Order fu a b).bind fun r5 =>
          some (r5.1, true, ()))) (
        (ref02Order fu a b).bind fun r6 =>
        some (r6.1, true, ()))))

noncomputable def ref02Compare.body : Code := Try.f19.body.getD .skip
noncomputable def ref02Compare.con : Con := { ps := [kS0, kS0], rs := [(.int .i64), .bool], f := fun n x => ref02Compare n x.1 x.2.1 }
noncomputable def ref02Compare.env : Env := { tys := [(29, ⟨kS0, 24⟩), (3, ⟨(.int .i64), 8⟩), (4, ⟨.bool, 1⟩)], elems := [], ptrs := [], cons := [(48, ref02PartsNaN.con), (50, ref02PartsClass.con), (21, ref02Order.con)], objs := [], loops := [], cuts := [], globs := globs, base := 0 }
noncomputable def ref02Compare.lp (n : Nat) : LP (Kd.struct ref02Compare.con.rs).T := fun lo κ body nm K s =>
  loops n (Kd.struct ref02Compare.con.rs).T lo κ body nm K s
theorem ref02Compare.eq (n : Nat) (x : (Kd.struct ref02Compare.con.ps).T) : evFunc ref02Compare.env Try.f19 ref02Compare.body ref02Compare.con.ps ref02Compare.con.rs (ref02Compare.lp n) n x = ref02Compare.con.f n x := by kernel_rfl
theorem ref02Compare.sound : Sound Try.prog globs 19 ref02Compare.con :=
  sound_by (E := ref02Compare.env) (c := ref02Compare.body) (envOk (G := globs) (lc := [(48, ref02PartsNaN.con), (50, ref02PartsClass.con), (21, ref02Order.con)]) (lo := []) (envB_spec (by kernel_rfl)) rfl rfl ⟨.inl ⟨ref02PartsNaN.sound, by kernel_rfl⟩, ⟨.inl ⟨ref02PartsClass.sound, by kernel_rfl⟩, ⟨.inl ⟨ref02Order.sound, by kernel_rfl⟩, trivial⟩⟩⟩ rfl trivial (by kernel_rfl) (by kernel_rfl)) Try.func19 (by kernel_rfl) ref02Compare.lp (l := []) (by kernel_rfl) (fun n => trivial) ref02Compare.eq
noncomputable def realSame (fu : Nat) (a : Nat) (b : Nat) : Option (Bool × Unit) :=
  (realBits fu a).bind fun r1 =>
  (realBits fu b).bind fun r2 =>
  some (r1.1 == r2.1, ())

noncomputable def realSame.body : Code := Try.f22.body.getD .skip
noncomputable def realSame.con : Con := { ps := [.flt, .flt], rs := [.bool], f := fun n x => realSame n x.1 x.2.1 }
noncomputable def realSame.env : Env := { tys := [(4, ⟨.bool, 1⟩)], elems := [], ptrs := [], cons := [(27, realBits.con)], objs := [], loops := [], cuts := [], globs := globs, base := 0 }
noncomputable def realSame.lp (n : Nat) : LP (Kd.struct realSame.con.rs).T := fun lo κ body nm K s =>
  loops n (Kd.struct realSame.con.rs).T lo κ body nm K s
theorem realSame.eq (n : Nat) (x : (Kd.struct realSame.con.ps).T) : evFunc realSame.env Try.f22 realSame.body realSame.con.ps realSame.con.rs (realSame.lp n) n x = realSame.con.f n x := by kernel_rfl
theorem realSame.sound : Sound Try.prog globs 22 realSame.con :=
  sound_by (E := realSame.env) (c := realSame.body) (envOk (G := globs) (lc := [(27, realBits.con)]) (lo := []) (envB_spec (by kernel_rfl)) rfl rfl ⟨.inl ⟨realBits.sound, by kernel_rfl⟩, trivial⟩ rfl trivial (by kernel_rfl) (by kernel_rfl)) Try.func22 (by kernel_rfl) realSame.lp (l := []) (by kernel_rfl) (fun n => trivial) realSame.eq
noncomputable def ref02PartsBits (fu : Nat) (p : S0) : Option (Int × Unit) :=
  (ref02PartsNaN fu p).bind fun r1 =>
  cond r1.1 (
    some ((9221120237041090560 : Int), ())) (
    let t2 := IntKind.u64.wrap (IntKind.u64.wrap p.2.1 * (4503599627370496 : Int))
    let t3 := IntKind.u64.wrap (t2 + p.2.2.1)
    cond p.1 (
      let t4 := IntKind.u64.wrap (t3 + (9223372036854775808 : Int))
      some (t4, ())) (
      some (t3, ())))

noncomputable def ref02PartsBits.body : Code := Try.f23.body.getD .skip
noncomputable def ref02PartsBits.con : Con := { ps := [kS0], rs := [(.int .u64)], f := fun n x => ref02PartsBits n x.1 }
noncomputable def ref02PartsBits.env : Env := { tys := [(29, ⟨kS0, 24⟩), (22, ⟨(.int .u64), 8⟩), (3, ⟨(.int .i64), 8⟩), (4, ⟨.bool, 1⟩)], elems := [], ptrs := [], cons := [(48, ref02PartsNaN.con)], objs := [], loops := [], cuts := [], globs := globs, base := 0 }
noncomputable def ref02PartsBits.lp (n : Nat) : LP (Kd.struct ref02PartsBits.con.rs).T := fun lo κ body nm K s =>
  loops n (Kd.struct ref02PartsBits.con.rs).T lo κ body nm K s
theorem ref02PartsBits.eq (n : Nat) (x : (Kd.struct ref02PartsBits.con.ps).T) : evFunc ref02PartsBits.env Try.f23 ref02PartsBits.body ref02PartsBits.con.ps ref02PartsBits.con.rs (ref02PartsBits.lp n) n x = ref02PartsBits.con.f n x := by kernel_rfl
theorem ref02PartsBits.sound : Sound Try.prog globs 23 ref02PartsBits.con :=
  sound_by (E := ref02PartsBits.env) (c := ref02PartsBits.body) (envOk (G := globs) (lc := [(48, ref02PartsNaN.con)]) (lo := []) (envB_spec (by kernel_rfl)) rfl rfl ⟨.inl ⟨ref02PartsNaN.sound, by kernel_rfl⟩, trivial⟩ rfl trivial (by kernel_rfl) (by kernel_rfl)) Try.func23 (by kernel_rfl) ref02PartsBits.lp (l := []) (by kernel_rfl) (fun n => trivial) ref02PartsBits.eq
noncomputable def law02RealTwo (fu : Nat) (a : Int) (b : Int) : Option (Bool × Unit) :=
  (extFrom.f fu (a, ())).bind fun r1 =>
  (extFrom.f fu (b, ())).bind fun r2 =>
  (ref02OfBits fu a).bind fun r3 =>
  (ref02OfBits fu b).bind fun r4 =>
  (realCompare fu r1.1 r2.1).bind fun r5 =>
  (ref02Compare fu r3.1 r4.1).bind fun r6 =>
  (law02Fixed fu).bind fun r7 =>
  cond r7.1 (
    (realOrder fu r1.1 r2.1).bind fun r8 =>
    (ref02Order fu r3.1 r4.1).bind fun r9 =>
    cond (r8.1 == r9.1) (
      cond (r5.1 == r6.1) (
        cond (r5.2.1 == r6.2.1) (
          (realSame fu r1.1 r2.1).bind fun r10 =>
          (ref02PartsBits fu r3.1).bind fun r11 =>
          (ref02PartsBits fu r4.1).bind fun r12 =>
          let t13 := r10.1 == (r11.1 == r12.1)
          some (t13, ())) (
          some (false, ()))) (
        some (false, ()))) (
      some (false, ()))) (
    some (false, ()))

noncomputable def law02RealTwo.body : Code := Try.f4.body.getD .skip
noncomputable def law02RealTwo.con : Con := { ps := [(.int .u64), (.int .u64)], rs := [.bool], f := fun n x => law02RealTwo n x.1 x.2.1 }
noncomputable def law02RealTwo.env : Env := { tys := [(4, ⟨.bool, 1⟩), (29, ⟨kS0, 24⟩)], elems := [], ptrs := [], cons := [(14, extFrom), (16, ref02OfBits.con), (18, realCompare.con), (19, ref02Compare.con), (17, law02Fixed.con), (20, realOrder.con), (21, ref02Order.con), (22, realSame.con), (23, ref02PartsBits.con)], objs := [], loops := [], cuts := [], globs := globs, base := 0 }
noncomputable def law02RealTwo.lp (n : Nat) : LP (Kd.struct law02RealTwo.con.rs).T := fun lo κ body nm K s =>
  loops n (Kd.struct law02RealTwo.con.rs).T lo κ body nm K s
theorem law02RealTwo.eq (n : Nat) (x : (Kd.struct law02RealTwo.con.ps).T) : evFunc law02RealTwo.env Try.f4 law02RealTwo.body law02RealTwo.con.ps law02RealTwo.con.rs (law02RealTwo.lp n) n x = law02RealTwo.con.f n x := by kernel_rfl
theorem law02RealTwo.sound : Sound Try.prog globs 4 law02RealTwo.con :=
  sound_by (E := law02RealTwo.env) (c := law02RealTwo.body) (envOk (G := globs) (lc := [(14, extFrom), (16, ref02OfBits.con), (18, realCompare.con), (19, ref02Compare.con), (17, law02Fixed.con), (20, realOrder.con), (21, ref02Order.con), (22, realSame.con), (23, ref02PartsBits.con)]) (lo := []) (envB_spec (by kernel_rfl)) rfl rfl ⟨.inr (extFrom_ok Try.func14 (by kernel_rfl) (by kernel_rfl) (by kernel_rfl) (by kernel_rfl)), ⟨.inl ⟨ref02OfBits.sound, by kernel_rfl⟩, ⟨.inl ⟨realCompare.sound, by kernel_rfl⟩, ⟨.inl ⟨ref02Compare.sound, by kernel_rfl⟩, ⟨.inl ⟨law02Fixed.sound, by kernel_rfl⟩, ⟨.inl ⟨realOrder.sound, by kernel_rfl⟩, ⟨.inl ⟨ref02Order.sound, by kernel_rfl⟩, ⟨.inl ⟨realSame.sound, by kernel_rfl⟩, ⟨.inl ⟨ref02PartsBits.sound, by kernel_rfl⟩, trivial⟩⟩⟩⟩⟩⟩⟩⟩⟩ rfl trivial (by kernel_rfl) (by kernel_rfl)) Try.func4 (by kernel_rfl) law02RealTwo.lp (l := []) (by kernel_rfl) (fun n => trivial) law02RealTwo.eq
noncomputable def mathTrunc (fu : Nat) (xv : Nat) : Option (Nat × Unit) :=
  (extTrunc.f fu (xv, ())).bind fun r1 =>
  some (r1.1, ())

noncomputable def mathTrunc.body : Code := Try.f53.body.getD .skip
noncomputable def mathTrunc.con : Con := { ps := [.flt], rs := [.flt], f := fun n x => mathTrunc n x.1 }
noncomputable def mathTrunc.env : Env := { tys := [(25, ⟨.flt, 8⟩)], elems := [], ptrs := [], cons := [(77, extTrunc)], objs := [], loops := [], cuts := [], globs := globs, base := 0 }
noncomputable def mathTrunc.lp (n : Nat) : LP (Kd.struct mathTrunc.con.rs).T := fun lo κ body nm K s =>
  loops n (Kd.struct mathTrunc.con.rs).T lo κ body nm K s
theorem mathTrunc.eq (n : Nat) (x : (Kd.struct mathTrunc.con.ps).T) : evFunc mathTrunc.env Try.f53 mathTrunc.body mathTrunc.con.ps mathTrunc.con.rs (mathTrunc.lp n) n x = mathTrunc.con.f n x := by kernel_rfl
theorem mathTrunc.sound : Sound Try.prog globs 53 mathTrunc.con :=
  sound_by (E := mathTrunc.env) (c := mathTrunc.body) (envOk (G := globs) (lc := [(77, extTrunc)]) (lo := []) (envB_spec (by kernel_rfl)) rfl rfl ⟨.inr (extTrunc_ok Try.func77 (by kernel_rfl) (by kernel_rfl) (by kernel_rfl) (by kernel_rfl)), trivial⟩ rfl trivial (by kernel_rfl) (by kernel_rfl)) Try.func53 (by kernel_rfl) mathTrunc.lp (l := []) (by kernel_rfl) (fun n => trivial) mathTrunc.eq
noncomputable def realWhole (fu : Nat) (xv : Nat) : Option (Int × Bool × Unit) :=
  (mathTrunc fu xv).bind fun r1 =>
  cond (fNeq xv r1.1) (
    some ((0 : Int), false, ())) (
    let t2 := fGeq xv (4890909195324358656 : Nat)
    cond t2 (
      some ((0 : Int), false, ())) (
      let t3 := fLss xv (14114281232179134464 : Nat)
      cond t3 (
        some ((0 : Int), false, ())) (
        chk (fIntOk .i64 xv) <|
        some (fInt .i64 xv, true, ()))))

noncomputable def realWhole.body : Code := Try.f24.body.getD .skip
noncomputable def realWhole.con : Con := { ps := [.flt], rs := [(.int .i64), .bool], f := fun n x => realWhole n x.1 }
noncomputable def realWhole.env : Env := { tys := [(2, ⟨(.int .i64), 8⟩), (4, ⟨.bool, 1⟩), (25, ⟨.flt, 8⟩)], elems := [], ptrs := [], cons := [(53, mathTrunc.con)], objs := [], loops := [], cuts := [], globs := globs, base := 0 }
noncomputable def realWhole.lp (n : Nat) : LP (Kd.struct realWhole.con.rs).T := fun lo κ body nm K s =>
  loops n (Kd.struct realWhole.con.rs).T lo κ body nm K s
theorem realWhole.eq (n : Nat) (x : (Kd.struct realWhole.con.ps).T) : evFunc realWhole.env Try.f24 realWhole.body realWhole.con.ps realWhole.con.rs (realWhole.lp n) n x = realWhole.con.f n x := by kernel_rfl
theorem realWhole.sound : Sound Try.prog globs 24 realWhole.con :=
  sound_by (E := realWhole.env) (c := realWhole.body) (envOk (G := globs) (lc := [(53, mathTrunc.con)]) (lo := []) (envB_spec (by kernel_rfl)) rfl rfl ⟨.inl ⟨mathTrunc.sound, by kernel_rfl⟩, trivial⟩ rfl trivial (by kernel_rfl) (by kernel_rfl)) Try.func24 (by kernel_rfl) realWhole.lp (l := []) (by kernel_rfl) (fun n => trivial) realWhole.eq
noncomputable def law02RealWhole.j34007 (fu : Nat) (k0 : Nat → Bool → Bool → Option (Bool × Unit)) (k1 : Bool → Option (Bool × Unit)) (n : Int) (xv : Nat) (c : Int) (ok : Bool) (mv : Int) (isv : Bool) (v : Bool) : Option (Bool × Unit) :=
  cond v (
    (law02Fixed fu).bind fun r1 =>
    cond r1.1 (
      cond ok (
        cond (c == (0 : Int)) (
          cond isv (
            k1 (mv == n)) (
            k1 false)) (
          k1 false)) (
        k1 false)) (
      k1 false)) (
    k0 xv ok isv)
noncomputable def law02RealWhole.j8 (fu : Nat) (k1 : Bool → Option (Bool × Unit)) (xv : Nat) (ok : Bool) (isv : Bool) : Option (Bool × Unit) :=
  (law02Fixed fu).bind fun r1 =>
  cond r1.1 (
    cond ok (
      let t2 := fLss xv (4890909195324358656 : Nat)
      k1 (isv == t2)) (
      k1 false)) (
    k1 false)
noncomputable def law02RealWhole (fu : Nat) (n : Int) : Option (Bool × Unit) :=
  (realAgainst fu n (iFlt n)).bind fun r1 =>
  (realWhole fu (iFlt n)).bind fun r2 =>
  let t3 := Int.tmod n (9007199254740992 : Int)
  chk (fIntOk .i64 (iFlt t3)) <|
  let t4 := Int.tmod n (9007199254740992 : Int)
  let t5 := fInt .i64 (iFlt t3) != t4
  cond t5 (
    some (false, ())) (
    let t6 := decide (n > (-9007199254740992 : Int))
    cond t6 (
      let t7 := decide (n < (9007199254740992 : Int))
      law02RealWhole.j34007 fu (fun xvq1 okq1 isvq1 => 
          law02RealWhole.j8 fu (fun vq2 => 
              some (vq2, ())) xvq1 okq1 isvq1) (fun vq3 => 
          some (vq3, ())) n (iFlt n) r1.1 r1.2.1 r2.1 r2.2.1 t7) (
      law02RealWhole.j34007 fu (fun xvq4 okq4 isvq4 => 
          law02RealWhole.j8 fu (fun vq5 => 
              some (vq5, ())) xvq4 okq4 isvq4) (fun vq6 => 
          some (vq6, ())) n (iFlt n) r1.1 r1.2.1 r2.1 r2.2.1 false))

noncomputable def law02RealWhole.body : Code := Try.f5.body.getD .skip
abbrev law02RealWhole.shj34007 : Shp := ⟨[.d (.int .i64), .u, .u, .d .flt, .d (.int .i64), .d .bool, .d (.int .i64), .d .bool, .u, .u, .u, .u, .u, .u, .u, .u, .u, .u, .u, .u, .u, .u, .u, .u, .u, .u, .u, .u, .u, .u, .u, .u, .u, .d .bool, .u, .u, .u, .u, .u, .u, .u, .u, .u, .u, .u, .u, .u, .u, .u, .u, .u, .u, .u, .u, .u, .u, .u, .u, .u, .u], []⟩
abbrev law02RealWhole.outj34007e0 : Shp := ⟨[.u, .u, .u, .d .flt, .u, .d .bool, .u, .d .bool, .u, .u, .u, .u, .u, .u, .u, .u, .u, .u, .u, .u, .u, .u, .u, .u, .u, .u, .u, .u, .u, .u, .u, .u, .u, .u, .u, .u, .u, .u, .u, .u, .u, .u, .u, .u, .u, .u, .u, .u, .u, .u, .u, .u, .u, .u, .u, .u, .u, .u, .u, .u], []⟩
abbrev law02RealWhole.outj34007e1 : Shp := ⟨[.u, .u, .d .bool, .u, .u, .u, .u, .u, .u, .u, .u, .u, .u, .u, .u, .u, .u, .u, .u, .u, .u, .u, .u, .u, .u, .u, .u, .u, .u, .u, .u, .u, .u, .u, .u, .u, .u, .u, .u, .u, .u, .u, .u, .u, .u, .u, .u, .u, .u, .u, .u, .u, .u, .u, .u, .u, .u, .u, .u, .u], []⟩
noncomputable def law02RealWhole.nmj34007 : Norm := ⟨{ keep := [0, 3, 4, 5, 6, 7, 33], shut := [(0, (.int .i64)), (3, .flt), (4, (.int .i64)), (5, .bool), (6, (.int .i64)), (7, .bool), (33, .bool)], retag := [], heap := 0, dead := [], cshut := [], cretag := [] }, [(0, { keep := [3, 5, 7], shut := [(3, .flt), (5, .bool), (7, .bool)], retag := [], heap := 0, dead := [], cshut := [], cretag := [] }), (1, { keep := [2], shut := [(2, .bool)], retag := [], heap := 0, dead := [], cshut := [], cretag := [] })]⟩
abbrev law02RealWhole.shj8 : Shp := ⟨[.u, .u, .u, .d .flt, .u, .d .bool, .u, .d .bool, .u, .u, .u, .u, .u, .u, .u, .u, .u, .u, .u, .u, .u, .u, .u, .u, .u, .u, .u, .u, .u, .u, .u, .u, .u, .u, .u, .u, .u, .u, .u, .u, .u, .u, .u, .u, .u, .u, .u, .u, .u, .u, .u, .u, .u, .u, .u, .u, .u, .u, .u, .u], []⟩
abbrev law02RealWhole.outj8e1 : Shp := ⟨[.u, .u, .d .bool, .u, .u, .u, .u, .u, .u, .u, .u, .u, .u, .u, .u, .u, .u, .u, .u, .u, .u, .u, .u, .u, .u, .u, .u, .u, .u, .u, .u, .u, .u, .u, .u, .u, .u, .u, .u, .u, .u, .u, .u, .u, .u, .u, .u, .u, .u, .u, .u, .u, .u, .u, .u, .u, .u, .u, .u, .u], []⟩
noncomputable def law02RealWhole.nmj8 : Norm := ⟨{ keep := [3, 5, 7], shut := [(3, .flt), (5, .bool), (7, .bool)], retag := [], heap := 0, dead := [], cshut := [], cretag := [] }, [(1, { keep := [2], shut := [(2, .bool)], retag := [], heap := 0, dead := [], cshut := [], cretag := [] })]⟩
noncomputable def law02RealWhole.con : Con := { ps := [(.int .i64)], rs := [.bool], f := fun n x => law02RealWhole n x.1 }
noncomputable def law02RealWhole.env : Env := { tys := [(4, ⟨.bool, 1⟩), (25, ⟨.flt, 8⟩), (2, ⟨(.int .i64), 8⟩)], elems := [], ptrs := [], cons := [(13, realAgainst.con), (24, realWhole.con), (17, law02Fixed.con)], objs := [], loops := [], cuts := [(34007, law02RealWhole.nmj34007), (8, law02RealWhole.nmj8)], globs := globs, base := 0 }
noncomputable def law02RealWhole.lp (n : Nat) : LP (Kd.struct law02RealWhole.con.rs).T := fun lo κ body nm K s =>
  cond (!lo && Nat.beq κ 34007)
    (match law02RealWhole.shj34007.dec s with
    | some v => law02RealWhole.j34007 n (fun w0 w1 w2 => K .normal (law02RealWhole.outj34007e0.enc (w0, w1, w2, ()))) (fun w0 => K .ret (law02RealWhole.outj34007e1.enc (w0, ()))) v.1 v.2.1 v.2.2.1 v.2.2.2.1 v.2.2.2.2.1 v.2.2.2.2.2.1 v.2.2.2.2.2.2.1
    | none => loops n (Kd.struct law02RealWhole.con.rs).T lo κ body nm K s)
    (cond (!lo && Nat.beq κ 8)
    (match law02RealWhole.shj8.dec s with
    | some v => law02RealWhole.j8 n (fun w0 => K .ret (law02RealWhole.outj8e1.enc (w0, ()))) v.1 v.2.1 v.2.2.1
    | none => loops n (Kd.struct law02RealWhole.con.rs).T lo κ body nm K s)
    (loops n (Kd.struct law02RealWhole.con.rs).T lo κ body nm K s))
theorem law02RealWhole.atj34007 (n : Nat) (s : St) (K : Ex → St → Option (Kd.struct law02RealWhole.con.rs).T) : law02RealWhole.lp n false 34007 (evK law02RealWhole.env (law02RealWhole.lp n) n (sub [1, 1, 1, 1, 1, 0, 1] law02RealWhole.body)) law02RealWhole.nmj34007 K s = loops n (Kd.struct law02RealWhole.con.rs).T false 34007 (evK law02RealWhole.env (law02RealWhole.lp n) n (sub [1, 1, 1, 1, 1, 0, 1] law02RealWhole.body)) law02RealWhole.nmj34007 K s := by
  show (match law02RealWhole.shj34007.dec s with | some v => law02RealWhole.j34007 n (fun w0 w1 w2 => K .normal (law02RealWhole.outj34007e0.enc (w0, w1, w2, ()))) (fun w0 => K .ret (law02RealWhole.outj34007e1.enc (w0, ()))) v.1 v.2.1 v.2.2.1 v.2.2.2.1 v.2.2.2.2.1 v.2.2.2.2.2.1 v.2.2.2.2.2.2.1 | none => loops n (Kd.struct law02RealWhole.con.rs).T false 34007 (evK law02RealWhole.env (law02RealWhole.lp n) n (sub [1, 1, 1, 1, 1, 0, 1] law02RealWhole.body)) law02RealWhole.nmj34007 K s) = _
  cases h : law02RealWhole.shj34007.dec s with
  | none => rfl
  | some v =>
    rw [Shp.dec_enc h]
    kernel_rfl
theorem law02RealWhole.atj8 (n : Nat) (s : St) (K : Ex → St → Option (Kd.struct law02RealWhole.con.rs).T) : law02RealWhole.lp n false 8 (evK law02RealWhole.env (law02RealWhole.lp n) n (sub [1, 1, 1, 1, 1, 1] law02RealWhole.body)) law02RealWhole.nmj8 K s = loops n (Kd.struct law02RealWhole.con.rs).T false 8 (evK law02RealWhole.env (law02RealWhole.lp n) n (sub [1, 1, 1, 1, 1, 1] law02RealWhole.body)) law02RealWhole.nmj8 K s := by
  show (match law02RealWhole.shj8.dec s with | some v => law02RealWhole.j8 n (fun w0 => K .ret (law02RealWhole.outj8e1.enc (w0, ()))) v.1 v.2.1 v.2.2.1 | none => loops n (Kd.struct law02RealWhole.con.rs).T false 8 (evK law02RealWhole.env (law02RealWhole.lp n) n (sub [1, 1, 1, 1, 1, 1] law02RealWhole.body)) law02RealWhole.nmj8 K s) = _
  cases h : law02RealWhole.shj8.dec s with
  | none => rfl
  | some v =>
    rw [Shp.dec_enc h]
    kernel_rfl
theorem law02RealWhole.eq (n : Nat) (x : (Kd.struct law02RealWhole.con.ps).T) : evFunc law02RealWhole.env Try.f5 law02RealWhole.body law02RealWhole.con.ps law02RealWhole.con.rs (law02RealWhole.lp n) n x = law02RealWhole.con.f n x := by kernel_rfl
theorem law02RealWhole.sound : Sound Try.prog globs 5 law02RealWhole.con :=
  sound_by (E := law02RealWhole.env) (c := law02RealWhole.body) (envOk (G := globs) (lc := [(13, realAgainst.con), (24, realWhole.con), (17, law02Fixed.con)]) (lo := []) (envB_spec (by kernel_rfl)) rfl rfl ⟨.inl ⟨realAgainst.sound, by kernel_rfl⟩, ⟨.inl ⟨realWhole.sound, by kernel_rfl⟩, ⟨.inl ⟨law02Fixed.sound, by kernel_rfl⟩, trivial⟩⟩⟩ rfl trivial (by kernel_rfl) (by kernel_rfl)) Try.func5 (by kernel_rfl) law02RealWhole.lp (l := [(false, sub [1, 1, 1, 1, 1, 0, 1] law02RealWhole.body, law02RealWhole.nmj34007), (false, sub [1, 1, 1, 1, 1, 1] law02RealWhole.body, law02RealWhole.nmj8)]) (by kernel_rfl) (fun n => ⟨law02RealWhole.atj34007 n, ⟨law02RealWhole.atj8 n, trivial⟩⟩) law02RealWhole.eq
noncomputable def realFrom (fu : Nat) (bits : Int) : Option (Nat × Bool × Unit) :=
  (extFrom.f fu (bits, ())).bind fun r1 =>
  (realBits fu r1.1).bind fun r2 =>
  cond (r2.1 != bits) (
    some ((0 : Nat), false, ())) (
    some (r1.1, true, ()))

noncomputable def realFrom.body : Code := Try.f25.body.getD .skip
noncomputable def realFrom.con : Con := { ps := [(.int .u64)], rs := [.flt, .bool], f := fun n x => realFrom n x.1 }
noncomputable def realFrom.env : Env := { tys := [(25, ⟨.flt, 8⟩), (4, ⟨.bool, 1⟩)], elems := [], ptrs := [], cons := [(14, extFrom), (27, realBits.con)], objs := [], loops := [], cuts := [], globs := globs, base := 0 }
noncomputable def realFrom.lp (n : Nat) : LP (Kd.struct realFrom.con.rs).T := fun lo κ body nm K s =>
  loops n (Kd.struct realFrom.con.rs).T lo κ body nm K s
theorem realFrom.eq (n : Nat) (x : (Kd.struct realFrom.con.ps).T) : evFunc realFrom.env Try.f25 realFrom.body realFrom.con.ps realFrom.con.rs (realFrom.lp n) n x = realFrom.con.f n x := by kernel_rfl
theorem realFrom.sound : Sound Try.prog globs 25 realFrom.con :=
  sound_by (E := realFrom.env) (c := realFrom.body) (envOk (G := globs) (lc := [(14, extFrom), (27, realBits.con)]) (lo := []) (envB_spec (by kernel_rfl)) rfl rfl ⟨.inr (extFrom_ok Try.func14 (by kernel_rfl) (by kernel_rfl) (by kernel_rfl) (by kernel_rfl)), ⟨.inl ⟨realBits.sound, by kernel_rfl⟩, trivial⟩⟩ rfl trivial (by kernel_rfl) (by kernel_rfl)) Try.func25 (by kernel_rfl) realFrom.lp (l := []) (by kernel_rfl) (fun n => trivial) realFrom.eq
noncomputable def law02RealFrom (fu : Nat) (bits : Int) : Option (Bool × Unit) :=
  (realFrom fu bits).bind fun r1 =>
  (ref02OfBits fu bits).bind fun r2 =>
  (ref02PartsBits fu r2.1).bind fun r3 =>
  cond (!r1.2.1) (
    (law02Fixed fu).bind fun r4 =>
    cond r4.1 (
      cond (!(r3.1 == bits)) (
        (extBits.f fu (r1.1, ())).bind fun r5 =>
        some (r5.1 == (0 : Int), ())) (
        some (false, ()))) (
      some (false, ()))) (
    (law02Fixed fu).bind fun r6 =>
    cond r6.1 (
      cond (r3.1 == bits) (
        (realBits fu r1.1).bind fun r7 =>
        some (r7.1 == bits, ())) (
        some (false, ()))) (
      some (false, ())))

noncomputable def law02RealFrom.body : Code := Try.f6.body.getD .skip
noncomputable def law02RealFrom.con : Con := { ps := [(.int .u64)], rs := [.bool], f := fun n x => law02RealFrom n x.1 }
noncomputable def law02RealFrom.env : Env := { tys := [(4, ⟨.bool, 1⟩)], elems := [], ptrs := [], cons := [(25, realFrom.con), (16, ref02OfBits.con), (23, ref02PartsBits.con), (17, law02Fixed.con), (26, extBits), (27, realBits.con)], objs := [], loops := [], cuts := [], globs := globs, base := 0 }
noncomputable def law02RealFrom.lp (n : Nat) : LP (Kd.struct law02RealFrom.con.rs).T := fun lo κ body nm K s =>
  loops n (Kd.struct law02RealFrom.con.rs).T lo κ body nm K s
theorem law02RealFrom.eq (n : Nat) (x : (Kd.struct law02RealFrom.con.ps).T) : evFunc law02RealFrom.env Try.f6 law02RealFrom.body law02RealFrom.con.ps law02RealFrom.con.rs (law02RealFrom.lp n) n x = law02RealFrom.con.f n x := by kernel_rfl
theorem law02RealFrom.sound : Sound Try.prog globs 6 law02RealFrom.con :=
  sound_by (E := law02RealFrom.env) (c := law02RealFrom.body) (envOk (G := globs) (lc := [(25, realFrom.con), (16, ref02OfBits.con), (23, ref02PartsBits.con), (17, law02Fixed.con), (26, extBits), (27, realBits.con)]) (lo := []) (envB_spec (by kernel_rfl)) rfl rfl ⟨.inl ⟨realFrom.sound, by kernel_rfl⟩, ⟨.inl ⟨ref02OfBits.sound, by kernel_rfl⟩, ⟨.inl ⟨ref02PartsBits.sound, by kernel_rfl⟩, ⟨.inl ⟨law02Fixed.sound, by kernel_rfl⟩, ⟨.inr (extBits_ok Try.func26 (by kernel_rfl) (by kernel_rfl) (by kernel_rfl) (by kernel_rfl)), ⟨.inl ⟨realBits.sound, by kernel_rfl⟩, trivial⟩⟩⟩⟩⟩⟩ rfl trivial (by kernel_rfl) (by kernel_rfl)) Try.func6 (by kernel_rfl) law02RealFrom.lp (l := []) (by kernel_rfl) (fun n => trivial) law02RealFrom.eq
noncomputable def mathAbs (fu : Nat) (xv : Nat) : Option (Nat × Unit) :=
  (extBits.f fu (xv, ())).bind fun r1 =>
  let t2 := bAndNot .u64 r1.1 (9223372036854775808 : Int)
  (extFrom.f fu (t2, ())).bind fun r3 =>
  some (r3.1, ())

noncomputable def mathAbs.body : Code := Try.f55.body.getD .skip
noncomputable def mathAbs.con : Con := { ps := [.flt], rs := [.flt], f := fun n x => mathAbs n x.1 }
noncomputable def mathAbs.env : Env := { tys := [(25, ⟨.flt, 8⟩)], elems := [], ptrs := [], cons := [(26, extBits), (14, extFrom)], objs := [], loops := [], cuts := [], globs := globs, base := 0 }
noncomputable def mathAbs.lp (n : Nat) : LP (Kd.struct mathAbs.con.rs).T := fun lo κ body nm K s =>
  loops n (Kd.struct mathAbs.con.rs).T lo κ body nm K s
theorem mathAbs.eq (n : Nat) (x : (Kd.struct mathAbs.con.ps).T) : evFunc mathAbs.env Try.f55 mathAbs.body mathAbs.con.ps mathAbs.con.rs (mathAbs.lp n) n x = mathAbs.con.f n x := by kernel_rfl
theorem mathAbs.sound : Sound Try.prog globs 55 mathAbs.con :=
  sound_by (E := mathAbs.env) (c := mathAbs.body) (envOk (G := globs) (lc := [(26, extBits), (14, extFrom)]) (lo := []) (envB_spec (by kernel_rfl)) rfl rfl ⟨.inr (extBits_ok Try.func26 (by kernel_rfl) (by kernel_rfl) (by kernel_rfl) (by kernel_rfl)), ⟨.inr (extFrom_ok Try.func14 (by kernel_rfl) (by kernel_rfl) (by kernel_rfl) (by kernel_rfl)), trivial⟩⟩ rfl trivial (by kernel_rfl) (by kernel_rfl)) Try.func55 (by kernel_rfl) mathAbs.lp (l := []) (by kernel_rfl) (fun n => trivial) mathAbs.eq
noncomputable def realClass (fu : Nat) (xv : Nat) : Option (Int × Unit) :=
  (mathAbs fu xv).bind fun r1 =>
  cond (fNeq xv xv) (
    some ((4 : Int), ())) (
    cond (fEql r1.1 (0 : Nat)) (
      some ((0 : Int), ())) (
      let t2 := fLss r1.1 (4503599627370496 : Nat)
      cond t2 (
        some ((1 : Int), ())) (
        let t3 := fGtr r1.1 (9218868437227405311 : Nat)
        cond t3 (
          some ((3 : Int), ())) (
          some ((2 : Int), ())))))

noncomputable def realClass.body : Code := Try.f30.body.getD .skip
noncomputable def realClass.con : Con := { ps := [.flt], rs := [(.int .i64)], f := fun n x => realClass n x.1 }
noncomputable def realClass.env : Env := { tys := [(3, ⟨(.int .i64), 8⟩)], elems := [], ptrs := [], cons := [(55, mathAbs.con)], objs := [], loops := [], cuts := [], globs := globs, base := 0 }
noncomputable def realClass.lp (n : Nat) : LP (Kd.struct realClass.con.rs).T := fun lo κ body nm K s =>
  loops n (Kd.struct realClass.con.rs).T lo κ body nm K s
theorem realClass.eq (n : Nat) (x : (Kd.struct realClass.con.ps).T) : evFunc realClass.env Try.f30 realClass.body realClass.con.ps realClass.con.rs (realClass.lp n) n x = realClass.con.f n x := by kernel_rfl
theorem realClass.sound : Sound Try.prog globs 30 realClass.con :=
  sound_by (E := realClass.env) (c := realClass.body) (envOk (G := globs) (lc := [(55, mathAbs.con)]) (lo := []) (envB_spec (by kernel_rfl)) rfl rfl ⟨.inl ⟨mathAbs.sound, by kernel_rfl⟩, trivial⟩ rfl trivial (by kernel_rfl) (by kernel_rfl)) Try.func30 (by kernel_rfl) realClass.lp (l := []) (by kernel_rfl) (fun n => trivial) realClass.eq
noncomputable def law02RealRow.j8 (fu : Nat) (k1 : Bool → Option (Bool × Unit)) (xv : Nat) (up : Nat) : Option (Bool × Unit) :=
  (law02Fixed fu).bind fun r1 =>
  cond r1.1 (
    (realOrder fu xv up).bind fun r2 =>
    let t3 := decide (r2.1 < (0 : Int))
    cond t3 (
      k1 true) (
      (realClass fu xv).bind fun r4 =>
      k1 (r4.1 == (4 : Int)))) (
    k1 false)
noncomputable def law02RealRow.j5 (fu : Nat) (k1 : Bool → Option (Bool × Unit)) (xv : Nat) (yv : Nat) : Option (Bool × Unit) :=
  (realUp fu xv).bind fun r1 =>
  (realOrder fu xv yv).bind fun r2 =>
  let t3 := decide (r2.1 < (0 : Int))
  cond t3 (
    (realOrder fu yv r1.1).bind fun r4 =>
    let t5 := decide (r4.1 < (0 : Int))
    cond t5 (
      k1 false) (
      law02RealRow.j8 fu (fun vq4 => 
          k1 vq4) xv r1.1)) (
    law02RealRow.j8 fu (fun vq5 => 
        k1 vq5) xv r1.1)
noncomputable def law02RealRow (fu : Nat) (a : Int) (b : Int) (c : Int) : Option (Bool × Unit) :=
  (extFrom.f fu (a, ())).bind fun r1 =>
  (extFrom.f fu (b, ())).bind fun r2 =>
  (extFrom.f fu (c, ())).bind fun r3 =>
  (realOrder fu r1.1 r2.1).bind fun r4 =>
  (realOrder fu r2.1 r3.1).bind fun r5 =>
  (realOrder fu r1.1 r3.1).bind fun r6 =>
  (realOrder fu r2.1 r1.1).bind fun r7 =>
  let t8 := IntKind.i64.wrap (0 - r7.1)
  cond (r4.1 != t8) (
    some (false, ())) (
    let t9 := decide (r4.1 ≤ (0 : Int))
    cond t9 (
      let t10 := decide (r5.1 ≤ (0 : Int))
      cond t10 (
        let t11 := decide (r6.1 > (0 : Int))
        cond t11 (
          some (false, ())) (
          (realSame fu r1.1 r2.1).bind fun r12 =>
          let t13 := !((r4.1 == (0 : Int)) == r12.1)
          cond t13 (
            some (false, ())) (
            let t14 := decide (r4.1 < (0 : Int))
            (realKey fu r1.1).bind fun r15 =>
            (realKey fu r2.1).bind fun r16 =>
            let t17 := !(t14 == (decide (r15.1 < r16.1)))
            cond t17 (
              some (false, ())) (
              law02RealRow.j5 fu (fun vq1 => 
                  some (vq1, ())) r1.1 r2.1)))) (
        (realSame fu r1.1 r2.1).bind fun r18 =>
        let t19 := !((r4.1 == (0 : Int)) == r18.1)
        cond t19 (
          some (false, ())) (
          let t20 := decide (r4.1 < (0 : Int))
          (realKey fu r1.1).bind fun r21 =>
          (realKey fu r2.1).bind fun r22 =>
          let t23 := !(t20 == (decide (r21.1 < r22.1)))
          cond t23 (
            some (false, ())) (
            law02RealRow.j5 fu (fun vq2 => 
                some (vq2, ())) r1.1 r2.1)))) (
      (realSame fu r1.1 r2.1).bind fun r24 =>
      let t25 := !((r4.1 == (0 : Int)) == r24.1)
      cond t25 (
        some (false, ())) (
        let t26 := decide (r4.1 < (0 : Int))
        (realKey fu r1.1).bind fun r27 =>
        (realKey fu r2.1).bind fun r28 =>
        let t29 := !(t26 == (decide (r27.1 < r28.1)))
        cond t29 (
          some (false, ())) (
          law02RealRow.j5 fu (fun vq3 => 
              some (vq3, ())) r1.1 r2.1))))

noncomputable def law02RealRow.body : Code := Try.f7.body.getD .skip
abbrev law02RealRow.shj8 : Shp := ⟨[.u, .u, .u, .u, .u, .u, .u, .d .flt, .u, .u, .u, .u, .u, .d .flt, .u, .u, .u, .u, .u, .u, .u, .u, .u, .u, .u, .u, .u, .u, .u, .u, .u, .u, .u, .u, .u, .u, .u, .u, .u, .u, .u, .u, .u, .u, .u, .u, .u, .u, .u, .u, .u, .u, .u, .u, .u, .u, .u, .u, .u, .u, .u, .u, .u, .u, .u, .u, .u, .u, .u, .u, .u, .u, .u, .u, .u, .u, .u, .u, .u, .u, .u, .u, .u, .u, .u, .u, .u, .u, .u], []⟩
abbrev law02RealRow.outj8e1 : Shp := ⟨[.u, .u, .u, .u, .u, .u, .d .bool, .u, .u, .u, .u, .u, .u, .u, .u, .u, .u, .u, .u, .u, .u, .u, .u, .u, .u, .u, .u, .u, .u, .u, .u, .u, .u, .u, .u, .u, .u, .u, .u, .u, .u, .u, .u, .u, .u, .u, .u, .u, .u, .u, .u, .u, .u, .u, .u, .u, .u, .u, .u, .u, .u, .u, .u, .u, .u, .u, .u, .u, .u, .u, .u, .u, .u, .u, .u, .u, .u, .u, .u, .u, .u, .u, .u, .u, .u, .u, .u, .u, .u], []⟩
noncomputable def law02RealRow.nmj8 : Norm := ⟨{ keep := [7, 13], shut := [(7, .flt), (13, .flt)], retag := [], heap := 0, dead := [], cshut := [], cretag := [] }, [(1, { keep := [6], shut := [(6, .bool)], retag := [], heap := 0, dead := [], cshut := [], cretag := [] })]⟩
abbrev law02RealRow.shj5 : Shp := ⟨[.u, .u, .u, .u, .u, .u, .u, .d .flt, .d .flt, .u, .u, .u, .u, .u, .u, .u, .u, .u, .u, .u, .u, .u, .u, .u, .u, .u, .u, .u, .u, .u, .u, .u, .u, .u, .u, .u, .u, .u, .u, .u, .u, .u, .u, .u, .u, .u, .u, .u, .u, .u, .u, .u, .u, .u, .u, .u, .u, .u, .u, .u, .u, .u, .u, .u, .u, .u, .u, .u, .u, .u, .u, .u, .u, .u, .u, .u, .u, .u, .u, .u, .u, .u, .u, .u, .u, .u, .u, .u, .u], []⟩
abbrev law02RealRow.outj5e1 : Shp := ⟨[.u, .u, .u, .u, .u, .u, .d .bool, .u, .u, .u, .u, .u, .u, .u, .u, .u, .u, .u, .u, .u, .u, .u, .u, .u, .u, .u, .u, .u, .u, .u, .u, .u, .u, .u, .u, .u, .u, .u, .u, .u, .u, .u, .u, .u, .u, .u, .u, .u, .u, .u, .u, .u, .u, .u, .u, .u, .u, .u, .u, .u, .u, .u, .u, .u, .u, .u, .u, .u, .u, .u, .u, .u, .u, .u, .u, .u, .u, .u, .u, .u, .u, .u, .u, .u, .u, .u, .u, .u, .u], []⟩
noncomputable def law02RealRow.nmj5 : Norm := ⟨{ keep := [7, 8], shut := [(7, .flt), (8, .flt)], retag := [], heap := 0, dead := [], cshut := [], cretag := [] }, [(1, { keep := [6], shut := [(6, .bool)], retag := [], heap := 0, dead := [], cshut := [], cretag := [] })]⟩
noncomputable def law02RealRow.con : Con := { ps := [(.int .u64), (.int .u64), (.int .u64)], rs := [.bool], f := fun n x => law02RealRow n x.1 x.2.1 x.2.2.1 }
noncomputable def law02RealRow.env : Env := { tys := [(4, ⟨.bool, 1⟩)], elems := [], ptrs := [], cons := [(14, extFrom), (20, realOrder.con), (22, realSame.con), (28, realKey.con), (29, realUp.con), (17, law02Fixed.con), (30, realClass.con)], objs := [], loops := [], cuts := [(8, law02RealRow.nmj8), (5, law02RealRow.nmj5)], globs := globs, base := 0 }
noncomputable def law02RealRow.lp (n : Nat) : LP (Kd.struct law02RealRow.con.rs).T := fun lo κ body nm K s =>
  cond (!lo && Nat.beq κ 8)
    (match law02RealRow.shj8.dec s with
    | some v => law02RealRow.j8 n (fun w0 => K .ret (law02RealRow.outj8e1.enc (w0, ()))) v.1 v.2.1
    | none => loops n (Kd.struct law02RealRow.con.rs).T lo κ body nm K s)
    (cond (!lo && Nat.beq κ 5)
    (match law02RealRow.shj5.dec s with
    | some v => law02RealRow.j5 n (fun w0 => K .ret (law02RealRow.outj5e1.enc (w0, ()))) v.1 v.2.1
    | none => loops n (Kd.struct law02RealRow.con.rs).T lo κ body nm K s)
    (loops n (Kd.struct law02RealRow.con.rs).T lo κ body nm K s))
theorem law02RealRow.atj8 (n : Nat) (s : St) (K : Ex → St → Option (Kd.struct law02RealRow.con.rs).T) : law02RealRow.lp n false 8 (evK law02RealRow.env (law02RealRow.lp n) n (sub [1, 1, 1, 1, 1, 1] law02RealRow.body)) law02RealRow.nmj8 K s = loops n (Kd.struct law02RealRow.con.rs).T false 8 (evK law02RealRow.env (law02RealRow.lp n) n (sub [1, 1, 1, 1, 1, 1] law02RealRow.body)) law02RealRow.nmj8 K s := by
  show (match law02RealRow.shj8.dec s with | some v => law02RealRow.j8 n (fun w0 => K .ret (law02RealRow.outj8e1.enc (w0, ()))) v.1 v.2.1 | none => loops n (Kd.struct law02RealRow.con.rs).T false 8 (evK law02RealRow.env (law02RealRow.lp n) n (sub [1, 1, 1, 1, 1, 1] law02RealRow.body)) law02RealRow.nmj8 K s) = _
  cases h : law02RealRow.shj8.dec s with
  | none => rfl
  | some v =>
    rw [Shp.dec_enc h]
    kernel_rfl
theorem law02RealRow.atj5 (n : Nat) (s : St) (K : Ex → St → Option (Kd.struct law02RealRow.con.rs).T) : law02RealRow.lp n false 5 (evK law02RealRow.env (law02RealRow.lp n) n (sub [1, 1, 1, 1] law02RealRow.body)) law02RealRow.nmj5 K s = loops n (Kd.struct law02RealRow.con.rs).T false 5 (evK law02RealRow.env (law02RealRow.lp n) n (sub [1, 1, 1, 1] law02RealRow.body)) law02RealRow.nmj5 K s := by
  show (match law02RealRow.shj5.dec s with | some v => law02RealRow.j5 n (fun w0 => K .ret (law02RealRow.outj5e1.enc (w0, ()))) v.1 v.2.1 | none => loops n (Kd.struct law02RealRow.con.rs).T false 5 (evK law02RealRow.env (law02RealRow.lp n) n (sub [1, 1, 1, 1] law02RealRow.body)) law02RealRow.nmj5 K s) = _
  cases h : law02RealRow.shj5.dec s with
  | none => rfl
  | some v =>
    rw [Shp.dec_enc h]
    kernel_rfl
theorem law02RealRow.eq (n : Nat) (x : (Kd.struct law02RealRow.con.ps).T) : evFunc law02RealRow.env Try.f7 law02RealRow.body law02RealRow.con.ps law02RealRow.con.rs (law02RealRow.lp n) n x = law02RealRow.con.f n x := by kernel_rfl
theorem law02RealRow.sound : Sound Try.prog globs 7 law02RealRow.con :=
  sound_by (E := law02RealRow.env) (c := law02RealRow.body) (envOk (G := globs) (lc := [(14, extFrom), (20, realOrder.con), (22, realSame.con), (28, realKey.con), (29, realUp.con), (17, law02Fixed.con), (30, realClass.con)]) (lo := []) (envB_spec (by kernel_rfl)) rfl rfl ⟨.inr (extFrom_ok Try.func14 (by kernel_rfl) (by kernel_rfl) (by kernel_rfl) (by kernel_rfl)), ⟨.inl ⟨realOrder.sound, by kernel_rfl⟩, ⟨.inl ⟨realSame.sound, by kernel_rfl⟩, ⟨.inl ⟨realKey.sound, by kernel_rfl⟩, ⟨.inl ⟨realUp.sound, by kernel_rfl⟩, ⟨.inl ⟨law02Fixed.sound, by kernel_rfl⟩, ⟨.inl ⟨realClass.sound, by kernel_rfl⟩, trivial⟩⟩⟩⟩⟩⟩⟩ rfl trivial (by kernel_rfl) (by kernel_rfl)) Try.func7 (by kernel_rfl) law02RealRow.lp (l := [(false, sub [1, 1, 1, 1, 1, 1] law02RealRow.body, law02RealRow.nmj8), (false, sub [1, 1, 1, 1] law02RealRow.body, law02RealRow.nmj5)]) (by kernel_rfl) (fun n => ⟨law02RealRow.atj8 n, ⟨law02RealRow.atj5 n, trivial⟩⟩) law02RealRow.eq
noncomputable def mathNaN (fu : Nat) : Option (Nat × Unit) :=
  (extFrom.f fu ((9221120237041090561 : Int), ())).bind fun r1 =>
  some (r1.1, ())

noncomputable def mathNaN.body : Code := Try.f31.body.getD .skip
noncomputable def mathNaN.con : Con := { ps := [], rs := [.flt], f := fun n x => mathNaN n }
noncomputable def mathNaN.env : Env := { tys := [(25, ⟨.flt, 8⟩)], elems := [], ptrs := [], cons := [(14, extFrom)], objs := [], loops := [], cuts := [], globs := globs, base := 0 }
noncomputable def mathNaN.lp (n : Nat) : LP (Kd.struct mathNaN.con.rs).T := fun lo κ body nm K s =>
  loops n (Kd.struct mathNaN.con.rs).T lo κ body nm K s
theorem mathNaN.eq (n : Nat) (x : (Kd.struct mathNaN.con.ps).T) : evFunc mathNaN.env Try.f31 mathNaN.body mathNaN.con.ps mathNaN.con.rs (mathNaN.lp n) n x = mathNaN.con.f n x := by kernel_rfl
theorem mathNaN.sound : Sound Try.prog globs 31 mathNaN.con :=
  sound_by (E := mathNaN.env) (c := mathNaN.body) (envOk (G := globs) (lc := [(14, extFrom)]) (lo := []) (envB_spec (by kernel_rfl)) rfl rfl ⟨.inr (extFrom_ok Try.func14 (by kernel_rfl) (by kernel_rfl) (by kernel_rfl) (by kernel_rfl)), trivial⟩ rfl trivial (by kernel_rfl) (by kernel_rfl)) Try.func31 (by kernel_rfl) mathNaN.lp (l := []) (by kernel_rfl) (fun n => trivial) mathNaN.eq
noncomputable def mathInf (fu : Nat) (sign : Int) : Option (Nat × Unit) :=
  let t1 := decide (sign ≥ (0 : Int))
  cond t1 (
    (extFrom.f fu ((9218868437227405312 : Int), ())).bind fun r2 =>
    some (r2.1, ())) (
    (extFrom.f fu ((18442240474082181120 : Int), ())).bind fun r3 =>
    some (r3.1, ()))

noncomputable def mathInf.body : Code := Try.f32.body.getD .skip
noncomputable def mathInf.con : Con := { ps := [(.int .i64)], rs := [.flt], f := fun n x => mathInf n x.1 }
noncomputable def mathInf.env : Env := { tys := [(25, ⟨.flt, 8⟩), (22, ⟨(.int .u64), 8⟩)], elems := [], ptrs := [], cons := [(14, extFrom)], objs := [], loops := [], cuts := [], globs := globs, base := 0 }
noncomputable def mathInf.lp (n : Nat) : LP (Kd.struct mathInf.con.rs).T := fun lo κ body nm K s =>
  loops n (Kd.struct mathInf.con.rs).T lo κ body nm K s
theorem mathInf.eq (n : Nat) (x : (Kd.struct mathInf.con.ps).T) : evFunc mathInf.env Try.f32 mathInf.body mathInf.con.ps mathInf.con.rs (mathInf.lp n) n x = mathInf.con.f n x := by kernel_rfl
theorem mathInf.sound : Sound Try.prog globs 32 mathInf.con :=
  sound_by (E := mathInf.env) (c := mathInf.body) (envOk (G := globs) (lc := [(14, extFrom)]) (lo := []) (envB_spec (by kernel_rfl)) rfl rfl ⟨.inr (extFrom_ok Try.func14 (by kernel_rfl) (by kernel_rfl) (by kernel_rfl) (by kernel_rfl)), trivial⟩ rfl trivial (by kernel_rfl) (by kernel_rfl)) Try.func32 (by kernel_rfl) mathInf.lp (l := []) (by kernel_rfl) (fun n => trivial) mathInf.eq
noncomputable def law02RealSteps.b5 (fu : Nat) (next : Int → Int → Nat → Int → Int → Option (Bool × Unit)) (k2 : Int → Int → Nat → Option (Bool × Unit)) (n : Int) (kv : Int) (yv : Nat) (v : Int) (vx2 : Int) : Option (Bool × Unit) :=
  cond (decide (vx2 < v)) (
    (realUp fu yv).bind fun r1 =>
    let t2 := IntKind.u8.wrap (vx2 + (1 : Int))
    next n kv r1.1 v t2) (
    k2 n kv yv)
noncomputable def law02RealSteps.l5 (fu : Nat) (k2 : Int → Int → Nat → Option (Bool × Unit)) : Nat → Int → Int → Nat → Int → Int → Option (Bool × Unit)
  | 0, _, _, _, _, _ => none
  | m + 1, n, kv, yv, v, vx2 => law02RealSteps.b5 fu (law02RealSteps.l5 fu k2 m) k2 n kv yv v vx2
noncomputable def law02RealSteps (fu : Nat) (bits : Int) (n : Int) : Option (Bool × Unit) :=
  (extFrom.f fu (bits, ())).bind fun r1 =>
  (realKey fu r1.1).bind fun r2 =>
  law02RealSteps.l5 fu (fun nq2 kvq2 yvq2 => 
      (mathNaN fu).bind fun r3 =>
      (realKey fu r3.1).bind fun r4 =>
      let t5 := IntKind.u64.wrap (r4.1 - kvq2)
      let t6 := decide (t5 < IntKind.u64.wrap nq2)
      cond t6 (
        (law02Fixed fu).bind fun r7 =>
        cond r7.1 (
          (realClass fu yvq2).bind fun r8 =>
          some (r8.1 == (4 : Int), ())) (
          some (false, ()))) (
        let t9 := IntKind.u64.wrap (kvq2 + IntKind.u64.wrap nq2)
        (mathInf fu (1 : Int)).bind fun r10 =>
        (realKey fu r10.1).bind fun r11 =>
        cond (decide (t9 > r11.1)) (
          (law02Fixed fu).bind fun r12 =>
          cond r12.1 (
            (realClass fu yvq2).bind fun r13 =>
            some (r13.1 == (4 : Int), ())) (
            some (false, ()))) (
          (law02Fixed fu).bind fun r14 =>
          cond r14.1 (
            (realKey fu yvq2).bind fun r15 =>
            let t16 := IntKind.u64.wrap (kvq2 + IntKind.u64.wrap nq2)
            some (r15.1 == t16, ())) (
            some (false, ()))))) fu n r2.1 r1.1 n (0 : Int)

noncomputable def law02RealSteps.body : Code := Try.f8.body.getD .skip
abbrev law02RealSteps.shl5 : Shp := ⟨[.u, .d (.int .u8), .u, .u, .u, .u, .d (.int .u64), .d .flt, .u, .u, .u, .u, .u, .u, .d (.int .u8), .d (.int .u8), .u, .u, .u, .u, .u, .u, .u, .u, .u, .u, .u, .u, .u, .u, .u, .u, .u, .u, .u, .u, .u, .u, .u, .u, .u, .u, .u, .u, .u, .u, .u, .u, .u, .u, .u, .u, .u, .u, .u, .u, .u], []⟩
abbrev law02RealSteps.outl5e2 : Shp := ⟨[.u, .d (.int .u8), .u, .u, .u, .u, .d (.int .u64), .d .flt, .u, .u, .u, .u, .u, .u, .u, .u, .u, .u, .u, .u, .u, .u, .u, .u, .u, .u, .u, .u, .u, .u, .u, .u, .u, .u, .u, .u, .u, .u, .u, .u, .u, .u, .u, .u, .u, .u, .u, .u, .u, .u, .u, .u, .u, .u, .u, .u, .u], []⟩
noncomputable def law02RealSteps.nml5 : Norm := ⟨{ keep := [1, 6, 7, 14, 15], shut := [(1, (.int .u8)), (6, (.int .u64)), (7, .flt), (14, (.int .u8)), (15, (.int .u8))], retag := [], heap := 0, dead := [], cshut := [], cretag := [] }, [(2, { keep := [1, 6, 7], shut := [(1, (.int .u8)), (6, (.int .u64)), (7, .flt)], retag := [], heap := 0, dead := [], cshut := [], cretag := [] })]⟩
noncomputable def law02RealSteps.con : Con := { ps := [(.int .u64), (.int .u8)], rs := [.bool], f := fun n x => law02RealSteps n x.1 x.2.1 }
noncomputable def law02RealSteps.env : Env := { tys := [(4, ⟨.bool, 1⟩), (5, ⟨(.int .u8), 1⟩), (22, ⟨(.int .u64), 8⟩)], elems := [], ptrs := [], cons := [(14, extFrom), (28, realKey.con), (29, realUp.con), (31, mathNaN.con), (17, law02Fixed.con), (30, realClass.con), (32, mathInf.con)], objs := [], loops := [(5, law02RealSteps.nml5)], cuts := [], globs := globs, base := 0 }
noncomputable def law02RealSteps.lp (n : Nat) : LP (Kd.struct law02RealSteps.con.rs).T := fun lo κ body nm K s =>
  cond (lo && Nat.beq κ 5)
    (match law02RealSteps.shl5.dec s with
    | some v => law02RealSteps.l5 n (fun w0 w1 w2 => K (.exit 0) (law02RealSteps.outl5e2.enc (w0, w1, w2, ()))) n v.1 v.2.1 v.2.2.1 v.2.2.2.1 v.2.2.2.2.1
    | none => loops n (Kd.struct law02RealSteps.con.rs).T lo κ body nm K s)
    (loops n (Kd.struct law02RealSteps.con.rs).T lo κ body nm K s)
theorem law02RealSteps.atl5 (n : Nat) (s : St) (K : Ex → St → Option (Kd.struct law02RealSteps.con.rs).T) : law02RealSteps.lp n true 5 (evK law02RealSteps.env (law02RealSteps.lp n) n (sub [1, 1, 1, 1, 0, 1, 0, 0] law02RealSteps.body)) law02RealSteps.nml5 K s = loops n (Kd.struct law02RealSteps.con.rs).T true 5 (evK law02RealSteps.env (law02RealSteps.lp n) n (sub [1, 1, 1, 1, 0, 1, 0, 0] law02RealSteps.body)) law02RealSteps.nml5 K s := by
  show (match law02RealSteps.shl5.dec s with | some v => law02RealSteps.l5 n (fun w0 w1 w2 => K (.exit 0) (law02RealSteps.outl5e2.enc (w0, w1, w2, ()))) n v.1 v.2.1 v.2.2.1 v.2.2.2.1 v.2.2.2.2.1 | none => loops n (Kd.struct law02RealSteps.con.rs).T true 5 (evK law02RealSteps.env (law02RealSteps.lp n) n (sub [1, 1, 1, 1, 0, 1, 0, 0] law02RealSteps.body)) law02RealSteps.nml5 K s) = _
  cases h : law02RealSteps.shl5.dec s with
  | none => rfl
  | some v =>
    rw [Shp.dec_enc h]
    exact (evLoop_eq (sh := law02RealSteps.shl5) (body := evK law02RealSteps.env (law02RealSteps.lp n) n (sub [1, 1, 1, 1, 0, 1, 0, 0] law02RealSteps.body)) (nm := law02RealSteps.nml5) (K := K) (b := fun nx v => law02RealSteps.b5 n (fun x0 x1 x2 x3 x4 => nx (x0, x1, x2, x3, x4, ())) (fun w0 w1 w2 => K (.exit 0) (law02RealSteps.outl5e2.enc (w0, w1, w2, ()))) v.1 v.2.1 v.2.2.1 v.2.2.2.1 v.2.2.2.2.1) (l := fun m v => law02RealSteps.l5 n (fun w0 w1 w2 => K (.exit 0) (law02RealSteps.outl5e2.enc (w0, w1, w2, ()))) m v.1 v.2.1 v.2.2.1 v.2.2.2.1 v.2.2.2.2.1) (fun _ => rfl) (fun _ _ => rfl) (fun m v => by kernel_rfl) n v).symm
theorem law02RealSteps.eq (n : Nat) (x : (Kd.struct law02RealSteps.con.ps).T) : evFunc law02RealSteps.env Try.f8 law02RealSteps.body law02RealSteps.con.ps law02RealSteps.con.rs (law02RealSteps.lp n) n x = law02RealSteps.con.f n x := by kernel_rfl
theorem law02RealSteps.sound : Sound Try.prog globs 8 law02RealSteps.con :=
  sound_by (E := law02RealSteps.env) (c := law02RealSteps.body) (envOk (G := globs) (lc := [(14, extFrom), (28, realKey.con), (29, realUp.con), (31, mathNaN.con), (17, law02Fixed.con), (30, realClass.con), (32, mathInf.con)]) (lo := []) (envB_spec (by kernel_rfl)) rfl rfl ⟨.inr (extFrom_ok Try.func14 (by kernel_rfl) (by kernel_rfl) (by kernel_rfl) (by kernel_rfl)), ⟨.inl ⟨realKey.sound, by kernel_rfl⟩, ⟨.inl ⟨realUp.sound, by kernel_rfl⟩, ⟨.inl ⟨mathNaN.sound, by kernel_rfl⟩, ⟨.inl ⟨law02Fixed.sound, by kernel_rfl⟩, ⟨.inl ⟨realClass.sound, by kernel_rfl⟩, ⟨.inl ⟨mathInf.sound, by kernel_rfl⟩, trivial⟩⟩⟩⟩⟩⟩⟩ rfl trivial (by kernel_rfl) (by kernel_rfl)) Try.func8 (by kernel_rfl) law02RealSteps.lp (l := [(true, sub [1, 1, 1, 1, 0, 1, 0, 0] law02RealSteps.body, law02RealSteps.nml5)]) (by kernel_rfl) (fun n => ⟨law02RealSteps.atl5 n, trivial⟩) law02RealSteps.eq
end
end Go.Shal.Pr
