/- Prints of functions, and proofs that they are what the code computes. By an AI agent. -/
import Derived.Test.YtpfmaljnnhammaaDoorShC
import Derived.Test.YtpfmaljnnhammaaDoorProg
set_option linter.unusedVariables false
set_option maxRecDepth 100000
namespace Go.Shal.Pr
open Go Go.Shal Go.Proofs
noncomputable section
def tabCrcHalves : List Int := [0, 498536548, 997073096, 651767980, 1994146192, 1802195444, 1303535960, 1342533948, 3988292384, 4027552580, 3604390888, 3412177804, 2607071920, 2262029012, 2685067896, 3183342108]
def globs : Globs := [(0, ⟨(.arr 16 (.int .u32)), tabCrcHalves⟩)]

noncomputable def crcCarry.b2 (fu : Nat) (next : Int → (List Int) → Int → Int → Option (Int × Unit)) (k2 : Int → Option (Int × Unit)) (row : Int) (v : List Int) (vx2 : Int) (vx3 : Int) : Option (Int × Unit) :=
  cond (decide (vx3 < vx2)) (
    chk (ixOk v vx3) <|
    let e1 := ixL (0 : Int) v vx3
    let t2 := bXor .u32 row (IntKind.u32.wrap e1)
    chk (ixArr 16 (bAnd .u32 t2 (15 : Int))) <|
    let e3 := ixL (0 : Int) tabCrcHalves (bAnd .u32 t2 (15 : Int))
    let t4 := bXor .u32 (sShr .u32 t2 (4 : Int)) e3
    chk (ixArr 16 (bAnd .u32 t4 (15 : Int))) <|
    let e5 := ixL (0 : Int) tabCrcHalves (bAnd .u32 t4 (15 : Int))
    let t6 := bXor .u32 (sShr .u32 t4 (4 : Int)) e5
    let t7 := IntKind.i64.wrap (vx3 + (1 : Int))
    next t6 v vx2 t7) (
    k2 row)
noncomputable def crcCarry.l2 (fu : Nat) (k2 : Int → Option (Int × Unit)) : Nat → Int → (List Int) → Int → Int → Option (Int × Unit)
  | 0, _, _, _, _ => none
  | m + 1, row, v, vx2, vx3 => crcCarry.b2 fu (crcCarry.l2 fu k2 m) k2 row v vx2 vx3
noncomputable def crcCarry (fu : Nat) (row : Int) (b : List Int) : Option (Int × Unit) :=
  crcCarry.l2 fu (fun rowq2 => 
      some (rowq2, ())) fu row b (b.length : Int) (0 : Int)

noncomputable def crcCarry.body : Code := Tryd.f27.body.getD .skip
abbrev crcCarry.shl2 : Shp := ⟨[.d (.int .u32), .u, .u, .u, .u, .u, .u, .d (.slice (.int .u8)), .d (.int .i64), .d (.int .i64), .u, .u, .u, .u, .u, .u, .u, .u, .u, .u, .u, .u, .u, .u, .u, .u, .u, .u, .u, .u, .u, .u, .u], []⟩
abbrev crcCarry.outl2e2 : Shp := ⟨[.d (.int .u32), .u, .u, .u, .u, .u, .u, .u, .u, .u, .u, .u, .u, .u, .u, .u, .u, .u, .u, .u, .u, .u, .u, .u, .u, .u, .u, .u, .u, .u, .u, .u, .u], []⟩
noncomputable def crcCarry.nml2 : Norm := ⟨{ keep := [0, 7, 8, 9], shut := [(0, (.int .u32)), (7, (.slice (.int .u8))), (8, (.int .i64)), (9, (.int .i64))], retag := [], heap := 0, dead := [], cshut := [], cretag := [] }, [(2, { keep := [0], shut := [(0, (.int .u32))], retag := [], heap := 0, dead := [], cshut := [], cretag := [] })]⟩
noncomputable def crcCarry.con : Con := { ps := [(.int .u32), (.slice (.int .u8))], rs := [(.int .u32)], f := fun n x => crcCarry n x.1 x.2.1 }
noncomputable def crcCarry.env : Env := { tys := [(23, ⟨(.int .u32), 4⟩), (5, ⟨(.int .u8), 1⟩), (3, ⟨(.int .i64), 8⟩), (61, ⟨(.arr 16 (.int .u32)), 64⟩)], elems := [(22, 5)], ptrs := [], cons := [], objs := [], loops := [(2, crcCarry.nml2)], cuts := [], globs := globs, base := 0 }
noncomputable def crcCarry.lp (n : Nat) : LP (Kd.struct crcCarry.con.rs).T := fun lo κ body nm K s =>
  cond (lo && Nat.beq κ 2)
    (match crcCarry.shl2.dec s with
    | some v => crcCarry.l2 n (fun w0 => K (.exit 0) (crcCarry.outl2e2.enc (w0, ()))) n v.1 v.2.1 v.2.2.1 v.2.2.2.1
    | none => loops n (Kd.struct crcCarry.con.rs).T lo κ body nm K s)
    (loops n (Kd.struct crcCarry.con.rs).T lo κ body nm K s)
theorem crcCarry.atl2 (n : Nat) (s : St) (K : Ex → St → Option (Kd.struct crcCarry.con.rs).T) : crcCarry.lp n true 2 (evK crcCarry.env (crcCarry.lp n) n (sub [1, 0, 1, 0, 0] crcCarry.body)) crcCarry.nml2 K s = loops n (Kd.struct crcCarry.con.rs).T true 2 (evK crcCarry.env (crcCarry.lp n) n (sub [1, 0, 1, 0, 0] crcCarry.body)) crcCarry.nml2 K s := by
  show (match crcCarry.shl2.dec s with | some v => crcCarry.l2 n (fun w0 => K (.exit 0) (crcCarry.outl2e2.enc (w0, ()))) n v.1 v.2.1 v.2.2.1 v.2.2.2.1 | none => loops n (Kd.struct crcCarry.con.rs).T true 2 (evK crcCarry.env (crcCarry.lp n) n (sub [1, 0, 1, 0, 0] crcCarry.body)) crcCarry.nml2 K s) = _
  cases h : crcCarry.shl2.dec s with
  | none => rfl
  | some v =>
    rw [Shp.dec_enc h]
    exact (evLoop_eq (sh := crcCarry.shl2) (body := evK crcCarry.env (crcCarry.lp n) n (sub [1, 0, 1, 0, 0] crcCarry.body)) (nm := crcCarry.nml2) (K := K) (b := fun nx v => crcCarry.b2 n (fun x0 x1 x2 x3 => nx (x0, x1, x2, x3, ())) (fun w0 => K (.exit 0) (crcCarry.outl2e2.enc (w0, ()))) v.1 v.2.1 v.2.2.1 v.2.2.2.1) (l := fun m v => crcCarry.l2 n (fun w0 => K (.exit 0) (crcCarry.outl2e2.enc (w0, ()))) m v.1 v.2.1 v.2.2.1 v.2.2.2.1) (fun _ => rfl) (fun _ _ => rfl) (fun m v => by kernel_rfl) n v).symm
theorem crcCarry.eq (n : Nat) (x : (Kd.struct crcCarry.con.ps).T) : evFunc crcCarry.env Tryd.f27 crcCarry.body crcCarry.con.ps crcCarry.con.rs (crcCarry.lp n) n x = crcCarry.con.f n x := by kernel_rfl
theorem crcCarry.sound : Sound Tryd.prog globs 27 crcCarry.con :=
  sound_by (E := crcCarry.env) (c := crcCarry.body) (envOk (G := globs) (lc := []) (lo := []) (envB_spec (by kernel_rfl)) rfl rfl trivial rfl trivial (by kernel_rfl) (by kernel_rfl)) Tryd.func27 (by kernel_rfl) crcCarry.lp (l := [(true, sub [1, 0, 1, 0, 0] crcCarry.body, crcCarry.nml2)]) (by kernel_rfl) (fun n => ⟨crcCarry.atl2 n, trivial⟩) crcCarry.eq
noncomputable def crcMore (fu : Nat) (sum : Int) (b : List Int) : Option (Int × Unit) :=
  (crcCarry fu (bNot .u32 sum) b).bind fun r1 =>
  some (bNot .u32 r1.1, ())

noncomputable def crcMore.body : Code := Tryd.f13.body.getD .skip
noncomputable def crcMore.con : Con := { ps := [(.int .u32), (.slice (.int .u8))], rs := [(.int .u32)], f := fun n x => crcMore n x.1 x.2.1 }
noncomputable def crcMore.env : Env := { tys := [(23, ⟨(.int .u32), 4⟩)], elems := [], ptrs := [], cons := [(27, crcCarry.con)], objs := [], loops := [], cuts := [], globs := globs, base := 0 }
noncomputable def crcMore.lp (n : Nat) : LP (Kd.struct crcMore.con.rs).T := fun lo κ body nm K s =>
  loops n (Kd.struct crcMore.con.rs).T lo κ body nm K s
theorem crcMore.eq (n : Nat) (x : (Kd.struct crcMore.con.ps).T) : evFunc crcMore.env Tryd.f13 crcMore.body crcMore.con.ps crcMore.con.rs (crcMore.lp n) n x = crcMore.con.f n x := by kernel_rfl
theorem crcMore.sound : Sound Tryd.prog globs 13 crcMore.con :=
  sound_by (E := crcMore.env) (c := crcMore.body) (envOk (G := globs) (lc := [(27, crcCarry.con)]) (lo := []) (envB_spec (by kernel_rfl)) rfl rfl ⟨.inl ⟨crcCarry.sound, by kernel_rfl⟩, trivial⟩ rfl trivial (by kernel_rfl) (by kernel_rfl)) Tryd.func13 (by kernel_rfl) crcMore.lp (l := []) (by kernel_rfl) (fun n => trivial) crcMore.eq
noncomputable def crcSum (fu : Nat) (b : List Int) : Option (Int × Unit) :=
  (crcMore fu (0 : Int) b).bind fun r1 =>
  some (r1.1, ())

noncomputable def crcSum.body : Code := Tryd.f11.body.getD .skip
noncomputable def crcSum.con : Con := { ps := [(.slice (.int .u8))], rs := [(.int .u32)], f := fun n x => crcSum n x.1 }
noncomputable def crcSum.env : Env := { tys := [(23, ⟨(.int .u32), 4⟩)], elems := [], ptrs := [], cons := [(13, crcMore.con)], objs := [], loops := [], cuts := [], globs := globs, base := 0 }
noncomputable def crcSum.lp (n : Nat) : LP (Kd.struct crcSum.con.rs).T := fun lo κ body nm K s =>
  loops n (Kd.struct crcSum.con.rs).T lo κ body nm K s
theorem crcSum.eq (n : Nat) (x : (Kd.struct crcSum.con.ps).T) : evFunc crcSum.env Tryd.f11 crcSum.body crcSum.con.ps crcSum.con.rs (crcSum.lp n) n x = crcSum.con.f n x := by kernel_rfl
theorem crcSum.sound : Sound Tryd.prog globs 11 crcSum.con :=
  sound_by (E := crcSum.env) (c := crcSum.body) (envOk (G := globs) (lc := [(13, crcMore.con)]) (lo := []) (envB_spec (by kernel_rfl)) rfl rfl ⟨.inl ⟨crcMore.sound, by kernel_rfl⟩, trivial⟩ rfl trivial (by kernel_rfl) (by kernel_rfl)) Tryd.func11 (by kernel_rfl) crcSum.lp (l := []) (by kernel_rfl) (fun n => trivial) crcSum.eq
noncomputable def law01Fixed (fu : Nat) : Option (Bool × Unit) :=
  let t1 := [(49 : Int), (50 : Int), (51 : Int), (52 : Int), (53 : Int), (54 : Int), (55 : Int), (56 : Int), (57 : Int)]
  (crcSum fu t1).bind fun r2 =>
  let t3 := r2.1 == (3421780262 : Int)
  cond t3 (
    (crcSum fu []).bind fun r4 =>
    some (r4.1 == (0 : Int), ())) (
    some (false, ()))

noncomputable def law01Fixed.body : Code := Tryd.f10.body.getD .skip
noncomputable def law01Fixed.con : Con := { ps := [], rs := [.bool], f := fun n x => law01Fixed n }
noncomputable def law01Fixed.env : Env := { tys := [(4, ⟨.bool, 1⟩), (5, ⟨(.int .u8), 1⟩), (22, ⟨(.slice (.int .u8)), 24⟩)], elems := [(22, 5)], ptrs := [], cons := [(11, crcSum.con)], objs := [], loops := [], cuts := [], globs := globs, base := 0 }
noncomputable def law01Fixed.lp (n : Nat) : LP (Kd.struct law01Fixed.con.rs).T := fun lo κ body nm K s =>
  loops n (Kd.struct law01Fixed.con.rs).T lo κ body nm K s
theorem law01Fixed.eq (n : Nat) (x : (Kd.struct law01Fixed.con.ps).T) : evFunc law01Fixed.env Tryd.f10 law01Fixed.body law01Fixed.con.ps law01Fixed.con.rs (law01Fixed.lp n) n x = law01Fixed.con.f n x := by kernel_rfl
theorem law01Fixed.sound : Sound Tryd.prog globs 10 law01Fixed.con :=
  sound_by (E := law01Fixed.env) (c := law01Fixed.body) (envOk (G := globs) (lc := [(11, crcSum.con)]) (lo := []) (envB_spec (by kernel_rfl)) rfl rfl ⟨.inl ⟨crcSum.sound, by kernel_rfl⟩, trivial⟩ rfl trivial (by kernel_rfl) (by kernel_rfl)) Tryd.func10 (by kernel_rfl) law01Fixed.lp (l := []) (by kernel_rfl) (fun n => trivial) law01Fixed.eq
noncomputable def ref01Row.b6 (fu : Nat) (next : Int → (List Int) → Int → Int → Int → Option (Int × Unit)) (k4 : Int → (List Int) → Int → Int → Option (Int × Unit)) (row : Int) (b : List Int) (kv : Int) (v : Int) (vx2 : Int) : Option (Int × Unit) :=
  cond (decide (kv < (8 : Int))) (
    let t1 := Int.tmod row (2 : Int) == (1 : Int)
    let t2 := IntKind.u32.wrap (Int.tdiv row (2 : Int))
    cond t1 (
      let t3 := bXor .u32 t2 (3988292384 : Int)
      let t4 := IntKind.i64.wrap (kv + (1 : Int))
      next t3 b t4 v vx2) (
      let t5 := IntKind.i64.wrap (kv + (1 : Int))
      next t2 b t5 v vx2)) (
    k4 row b v vx2)
noncomputable def ref01Row.l6 (fu : Nat) (k4 : Int → (List Int) → Int → Int → Option (Int × Unit)) : Nat → Int → (List Int) → Int → Int → Int → Option (Int × Unit)
  | 0, _, _, _, _, _ => none
  | m + 1, row, b, kv, v, vx2 => ref01Row.b6 fu (ref01Row.l6 fu k4 m) k4 row b kv v vx2
noncomputable def ref01Row.b2 (fu : Nat) (next : Int → (List Int) → Int → Int → Option (Int × Unit)) (k2 : Int → Option (Int × Unit)) (row : Int) (b : List Int) (v : Int) (vx2 : Int) : Option (Int × Unit) :=
  cond (decide (vx2 < v)) (
    chk (ixOk b vx2) <|
    let e1 := ixL (0 : Int) b vx2
    let t2 := bXor .u32 row (IntKind.u32.wrap e1)
    ref01Row.l6 fu (fun rowq4 bq4 vq4 vq4x2 => 
        let t3 := IntKind.i64.wrap (vq4x2 + (1 : Int))
        next rowq4 bq4 vq4 t3) fu t2 b (0 : Int) v vx2) (
    k2 row)
noncomputable def ref01Row.l2 (fu : Nat) (k2 : Int → Option (Int × Unit)) : Nat → Int → (List Int) → Int → Int → Option (Int × Unit)
  | 0, _, _, _, _ => none
  | m + 1, row, b, v, vx2 => ref01Row.b2 fu (ref01Row.l2 fu k2 m) k2 row b v vx2
noncomputable def ref01Row (fu : Nat) (row : Int) (b : List Int) : Option (Int × Unit) :=
  ref01Row.l2 fu (fun rowq2 => 
      some (rowq2, ())) fu row b (b.length : Int) (0 : Int)

noncomputable def ref01Row.body : Code := Tryd.f26.body.getD .skip
abbrev ref01Row.shl6 : Shp := ⟨[.d (.int .u32), .d (.slice (.int .u8)), .u, .u, .u, .u, .d (.int .i64), .u, .u, .d (.int .i64), .d (.int .i64), .u, .u, .u, .u, .u, .u, .u, .u, .u, .u, .u, .u, .u, .u, .u, .u, .u, .u, .u, .u, .u, .u, .u], []⟩
abbrev ref01Row.outl6e4 : Shp := ⟨[.d (.int .u32), .d (.slice (.int .u8)), .u, .u, .u, .u, .u, .u, .u, .d (.int .i64), .d (.int .i64), .u, .u, .u, .u, .u, .u, .u, .u, .u, .u, .u, .u, .u, .u, .u, .u, .u, .u, .u, .u, .u, .u, .u], []⟩
noncomputable def ref01Row.nml6 : Norm := ⟨{ keep := [0, 1, 6, 9, 10], shut := [(0, (.int .u32)), (1, (.slice (.int .u8))), (6, (.int .i64)), (9, (.int .i64)), (10, (.int .i64))], retag := [], heap := 0, dead := [], cshut := [], cretag := [] }, [(4, { keep := [0, 1, 9, 10], shut := [(0, (.int .u32)), (1, (.slice (.int .u8))), (9, (.int .i64)), (10, (.int .i64))], retag := [], heap := 0, dead := [], cshut := [], cretag := [] })]⟩
abbrev ref01Row.shl2 : Shp := ⟨[.d (.int .u32), .d (.slice (.int .u8)), .u, .u, .u, .u, .u, .u, .u, .d (.int .i64), .d (.int .i64), .u, .u, .u, .u, .u, .u, .u, .u, .u, .u, .u, .u, .u, .u, .u, .u, .u, .u, .u, .u, .u, .u, .u], []⟩
abbrev ref01Row.outl2e2 : Shp := ⟨[.d (.int .u32), .u, .u, .u, .u, .u, .u, .u, .u, .u, .u, .u, .u, .u, .u, .u, .u, .u, .u, .u, .u, .u, .u, .u, .u, .u, .u, .u, .u, .u, .u, .u, .u, .u], []⟩
noncomputable def ref01Row.nml2 : Norm := ⟨{ keep := [0, 1, 9, 10], shut := [(0, (.int .u32)), (1, (.slice (.int .u8))), (9, (.int .i64)), (10, (.int .i64))], retag := [], heap := 0, dead := [], cshut := [], cretag := [] }, [(2, { keep := [0], shut := [(0, (.int .u32))], retag := [], heap := 0, dead := [], cshut := [], cretag := [] })]⟩
noncomputable def ref01Row.con : Con := { ps := [(.int .u32), (.slice (.int .u8))], rs := [(.int .u32)], f := fun n x => ref01Row n x.1 x.2.1 }
noncomputable def ref01Row.env : Env := { tys := [(23, ⟨(.int .u32), 4⟩), (5, ⟨(.int .u8), 1⟩), (3, ⟨(.int .i64), 8⟩)], elems := [(22, 5)], ptrs := [], cons := [], objs := [], loops := [(6, ref01Row.nml6), (2, ref01Row.nml2)], cuts := [], globs := globs, base := 0 }
noncomputable def ref01Row.lp (n : Nat) : LP (Kd.struct ref01Row.con.rs).T := fun lo κ body nm K s =>
  cond (lo && Nat.beq κ 6)
    (match ref01Row.shl6.dec s with
    | some v => ref01Row.l6 n (fun w0 w1 w2 w3 => K (.exit 2) (ref01Row.outl6e4.enc (w0, w1, w2, w3, ()))) n v.1 v.2.1 v.2.2.1 v.2.2.2.1 v.2.2.2.2.1
    | none => loops n (Kd.struct ref01Row.con.rs).T lo κ body nm K s)
    (cond (lo && Nat.beq κ 2)
    (match ref01Row.shl2.dec s with
    | some v => ref01Row.l2 n (fun w0 => K (.exit 0) (ref01Row.outl2e2.enc (w0, ()))) n v.1 v.2.1 v.2.2.1 v.2.2.2.1
    | none => loops n (Kd.struct ref01Row.con.rs).T lo κ body nm K s)
    (loops n (Kd.struct ref01Row.con.rs).T lo κ body nm K s))
theorem ref01Row.atl6 (n : Nat) (s : St) (K : Ex → St → Option (Kd.struct ref01Row.con.rs).T) : ref01Row.lp n true 6 (evK ref01Row.env (ref01Row.lp n) n (sub [1, 0, 1, 0, 0, 1, 1, 0, 0, 1, 1, 1, 0, 0] ref01Row.body)) ref01Row.nml6 K s = loops n (Kd.struct ref01Row.con.rs).T true 6 (evK ref01Row.env (ref01Row.lp n) n (sub [1, 0, 1, 0, 0, 1, 1, 0, 0, 1, 1, 1, 0, 0] ref01Row.body)) ref01Row.nml6 K s := by
  show (match ref01Row.shl6.dec s with | some v => ref01Row.l6 n (fun w0 w1 w2 w3 => K (.exit 2) (ref01Row.outl6e4.enc (w0, w1, w2, w3, ()))) n v.1 v.2.1 v.2.2.1 v.2.2.2.1 v.2.2.2.2.1 | none => loops n (Kd.struct ref01Row.con.rs).T true 6 (evK ref01Row.env (ref01Row.lp n) n (sub [1, 0, 1, 0, 0, 1, 1, 0, 0, 1, 1, 1, 0, 0] ref01Row.body)) ref01Row.nml6 K s) = _
  cases h : ref01Row.shl6.dec s with
  | none => rfl
  | some v =>
    rw [Shp.dec_enc h]
    exact (evLoop_eq (sh := ref01Row.shl6) (body := evK ref01Row.env (ref01Row.lp n) n (sub [1, 0, 1, 0, 0, 1, 1, 0, 0, 1, 1, 1, 0, 0] ref01Row.body)) (nm := ref01Row.nml6) (K := K) (b := fun nx v => ref01Row.b6 n (fun x0 x1 x2 x3 x4 => nx (x0, x1, x2, x3, x4, ())) (fun w0 w1 w2 w3 => K (.exit 2) (ref01Row.outl6e4.enc (w0, w1, w2, w3, ()))) v.1 v.2.1 v.2.2.1 v.2.2.2.1 v.2.2.2.2.1) (l := fun m v => ref01Row.l6 n (fun w0 w1 w2 w3 => K (.exit 2) (ref01Row.outl6e4.enc (w0, w1, w2, w3, ()))) m v.1 v.2.1 v.2.2.1 v.2.2.2.1 v.2.2.2.2.1) (fun _ => rfl) (fun _ _ => rfl) (fun m v => by kernel_rfl) n v).symm
theorem ref01Row.atl2 (n : Nat) (s : St) (K : Ex → St → Option (Kd.struct ref01Row.con.rs).T) : ref01Row.lp n true 2 (evK ref01Row.env (ref01Row.lp n) n (sub [1, 0, 1, 0, 0] ref01Row.body)) ref01Row.nml2 K s = loops n (Kd.struct ref01Row.con.rs).T true 2 (evK ref01Row.env (ref01Row.lp n) n (sub [1, 0, 1, 0, 0] ref01Row.body)) ref01Row.nml2 K s := by
  show (match ref01Row.shl2.dec s with | some v => ref01Row.l2 n (fun w0 => K (.exit 0) (ref01Row.outl2e2.enc (w0, ()))) n v.1 v.2.1 v.2.2.1 v.2.2.2.1 | none => loops n (Kd.struct ref01Row.con.rs).T true 2 (evK ref01Row.env (ref01Row.lp n) n (sub [1, 0, 1, 0, 0] ref01Row.body)) ref01Row.nml2 K s) = _
  cases h : ref01Row.shl2.dec s with
  | none => rfl
  | some v =>
    rw [Shp.dec_enc h]
    exact (evLoop_eq (sh := ref01Row.shl2) (body := evK ref01Row.env (ref01Row.lp n) n (sub [1, 0, 1, 0, 0] ref01Row.body)) (nm := ref01Row.nml2) (K := K) (b := fun nx v => ref01Row.b2 n (fun x0 x1 x2 x3 => nx (x0, x1, x2, x3, ())) (fun w0 => K (.exit 0) (ref01Row.outl2e2.enc (w0, ()))) v.1 v.2.1 v.2.2.1 v.2.2.2.1) (l := fun m v => ref01Row.l2 n (fun w0 => K (.exit 0) (ref01Row.outl2e2.enc (w0, ()))) m v.1 v.2.1 v.2.2.1 v.2.2.2.1) (fun _ => rfl) (fun _ _ => rfl) (fun m v => by kernel_rfl) n v).symm
theorem ref01Row.eq (n : Nat) (x : (Kd.struct ref01Row.con.ps).T) : evFunc ref01Row.env Tryd.f26 ref01Row.body ref01Row.con.ps ref01Row.con.rs (ref01Row.lp n) n x = ref01Row.con.f n x := by kernel_rfl
theorem ref01Row.sound : Sound Tryd.prog globs 26 ref01Row.con :=
  sound_by (E := ref01Row.env) (c := ref01Row.body) (envOk (G := globs) (lc := []) (lo := []) (envB_spec (by kernel_rfl)) rfl rfl trivial rfl trivial (by kernel_rfl) (by kernel_rfl)) Tryd.func26 (by kernel_rfl) ref01Row.lp (l := [(true, sub [1, 0, 1, 0, 0, 1, 1, 0, 0, 1, 1, 1, 0, 0] ref01Row.body, ref01Row.nml6), (true, sub [1, 0, 1, 0, 0] ref01Row.body, ref01Row.nml2)]) (by kernel_rfl) (fun n => ⟨ref01Row.atl6 n, ⟨ref01Row.atl2 n, trivial⟩⟩) ref01Row.eq
noncomputable def ref01Sum (fu : Nat) (b : List Int) : Option (Int × Unit) :=
  (ref01Row fu (4294967295 : Int) b).bind fun r1 =>
  let t2 := bXor .u32 r1.1 (4294967295 : Int)
  some (t2, ())

noncomputable def ref01Sum.body : Code := Tryd.f12.body.getD .skip
noncomputable def ref01Sum.con : Con := { ps := [(.slice (.int .u8))], rs := [(.int .u32)], f := fun n x => ref01Sum n x.1 }
noncomputable def ref01Sum.env : Env := { tys := [(23, ⟨(.int .u32), 4⟩)], elems := [], ptrs := [], cons := [(26, ref01Row.con)], objs := [], loops := [], cuts := [], globs := globs, base := 0 }
noncomputable def ref01Sum.lp (n : Nat) : LP (Kd.struct ref01Sum.con.rs).T := fun lo κ body nm K s =>
  loops n (Kd.struct ref01Sum.con.rs).T lo κ body nm K s
theorem ref01Sum.eq (n : Nat) (x : (Kd.struct ref01Sum.con.ps).T) : evFunc ref01Sum.env Tryd.f12 ref01Sum.body ref01Sum.con.ps ref01Sum.con.rs (ref01Sum.lp n) n x = ref01Sum.con.f n x := by kernel_rfl
theorem ref01Sum.sound : Sound Tryd.prog globs 12 ref01Sum.con :=
  sound_by (E := ref01Sum.env) (c := ref01Sum.body) (envOk (G := globs) (lc := [(26, ref01Row.con)]) (lo := []) (envB_spec (by kernel_rfl)) rfl rfl ⟨.inl ⟨ref01Row.sound, by kernel_rfl⟩, trivial⟩ rfl trivial (by kernel_rfl) (by kernel_rfl)) Tryd.func12 (by kernel_rfl) ref01Sum.lp (l := []) (by kernel_rfl) (fun n => trivial) ref01Sum.eq
noncomputable def ref01More (fu : Nat) (sum : Int) (b : List Int) : Option (Int × Unit) :=
  let t1 := bXor .u32 sum (4294967295 : Int)
  (ref01Row fu t1 b).bind fun r2 =>
  let t3 := bXor .u32 r2.1 (4294967295 : Int)
  some (t3, ())

noncomputable def ref01More.body : Code := Tryd.f14.body.getD .skip
noncomputable def ref01More.con : Con := { ps := [(.int .u32), (.slice (.int .u8))], rs := [(.int .u32)], f := fun n x => ref01More n x.1 x.2.1 }
noncomputable def ref01More.env : Env := { tys := [(23, ⟨(.int .u32), 4⟩)], elems := [], ptrs := [], cons := [(26, ref01Row.con)], objs := [], loops := [], cuts := [], globs := globs, base := 0 }
noncomputable def ref01More.lp (n : Nat) : LP (Kd.struct ref01More.con.rs).T := fun lo κ body nm K s =>
  loops n (Kd.struct ref01More.con.rs).T lo κ body nm K s
theorem ref01More.eq (n : Nat) (x : (Kd.struct ref01More.con.ps).T) : evFunc ref01More.env Tryd.f14 ref01More.body ref01More.con.ps ref01More.con.rs (ref01More.lp n) n x = ref01More.con.f n x := by kernel_rfl
theorem ref01More.sound : Sound Tryd.prog globs 14 ref01More.con :=
  sound_by (E := ref01More.env) (c := ref01More.body) (envOk (G := globs) (lc := [(26, ref01Row.con)]) (lo := []) (envB_spec (by kernel_rfl)) rfl rfl ⟨.inl ⟨ref01Row.sound, by kernel_rfl⟩, trivial⟩ rfl trivial (by kernel_rfl) (by kernel_rfl)) Tryd.func14 (by kernel_rfl) ref01More.lp (l := []) (by kernel_rfl) (fun n => trivial) ref01More.eq
noncomputable def law01CrcSums (fu : Nat) (b : List Int) (sum : Int) : Option (Bool × Unit) :=
  let t1 := decide ((b.length : Int) > (5000 : Int))
  cond t1 (
    (law01Fixed fu).bind fun r2 =>
    some (r2.1, ())) (
    chk (apOk [] b 1) <|
    (law01Fixed fu).bind fun r3 =>
    cond r3.1 (
      (crcSum fu ([] ++ b)).bind fun r4 =>
      (ref01Sum fu b).bind fun r5 =>
      cond (r4.1 == r5.1) (
        (crcMore fu sum ([] ++ b)).bind fun r6 =>
        (ref01More fu sum b).bind fun r7 =>
        cond (r6.1 == r7.1) (
          some (([] ++ b) == b, ())) (
          some (false, ()))) (
        some (false, ()))) (
      some (false, ())))

noncomputable def law01CrcSums.body : Code := Tryd.f3.body.getD .skip
noncomputable def law01CrcSums.con : Con := { ps := [(.slice (.int .u8)), (.int .u32)], rs := [.bool], f := fun n x => law01CrcSums n x.1 x.2.1 }
noncomputable def law01CrcSums.env : Env := { tys := [(4, ⟨.bool, 1⟩), (5, ⟨(.int .u8), 1⟩), (9, ⟨.str, 16⟩), (22, ⟨(.slice (.int .u8)), 24⟩)], elems := [(22, 5)], ptrs := [], cons := [(10, law01Fixed.con), (11, crcSum.con), (12, ref01Sum.con), (13, crcMore.con), (14, ref01More.con)], objs := [], loops := [], cuts := [], globs := globs, base := 0 }
noncomputable def law01CrcSums.lp (n : Nat) : LP (Kd.struct law01CrcSums.con.rs).T := fun lo κ body nm K s =>
  loops n (Kd.struct law01CrcSums.con.rs).T lo κ body nm K s
theorem law01CrcSums.eq (n : Nat) (x : (Kd.struct law01CrcSums.con.ps).T) : evFunc law01CrcSums.env Tryd.f3 law01CrcSums.body law01CrcSums.con.ps law01CrcSums.con.rs (law01CrcSums.lp n) n x = law01CrcSums.con.f n x := by kernel_rfl
theorem law01CrcSums.sound : Sound Tryd.prog globs 3 law01CrcSums.con :=
  sound_by (E := law01CrcSums.env) (c := law01CrcSums.body) (envOk (G := globs) (lc := [(10, law01Fixed.con), (11, crcSum.con), (12, ref01Sum.con), (13, crcMore.con), (14, ref01More.con)]) (lo := []) (envB_spec (by kernel_rfl)) rfl rfl ⟨.inl ⟨law01Fixed.sound, by kernel_rfl⟩, ⟨.inl ⟨crcSum.sound, by kernel_rfl⟩, ⟨.inl ⟨ref01Sum.sound, by kernel_rfl⟩, ⟨.inl ⟨crcMore.sound, by kernel_rfl⟩, ⟨.inl ⟨ref01More.sound, by kernel_rfl⟩, trivial⟩⟩⟩⟩⟩ rfl trivial (by kernel_rfl) (by kernel_rfl)) Tryd.func3 (by kernel_rfl) law01CrcSums.lp (l := []) (by kernel_rfl) (fun n => trivial) law01CrcSums.eq
end
end Go.Shal.Pr
