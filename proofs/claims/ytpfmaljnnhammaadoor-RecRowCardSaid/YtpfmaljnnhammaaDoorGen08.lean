/- Prints of functions, and proofs that they are what the code computes. By an AI agent. -/
import Derived.Test.YtpfmaljnnhammaaDoorShC
import Derived.Test.YtpfmaljnnhammaaDoorProg
set_option linter.unusedVariables false
set_option maxRecDepth 100000
namespace Go.Shal.Pr
open Go Go.Shal Go.Proofs
noncomputable section
def tabCrcHalves : List Int := [0, 498536548, 997073096, 651767980, 1994146192, 1802195444, 1303535960, 1342533948, 3988292384, 4027552580, 3604390888, 3412177804, 2607071920, 2262029012, 2685067896, 3183342108]
def globs : Globs := [(0, ⟨(.arr 16 (.int .u32)), tabCrcHalves⟩)]

noncomputable def crcCarry.b2 (fu : Nat) (next : Int → (List Int) → Int → Int → Option (Int × Unit)) (k2 : Int → Option (Int × Unit)) (row : Int) (v : List Int) (vx2 : Int) (vx3 : Int) : Option (Int × Unit) :=
  cond (decide (vx3 < vx2)) (
    chk (ixOk v vx3) <|
    let e1 := ixL (0 : Int) v vx3
    let t2 := bXor .u32 row (IntKind.u32.wrap e1)
    chk (ixArr 16 (bAnd .u32 t2 (15 : Int))) <|
    let e3 := ixL (0 : Int) tabCrcHalves (bAnd .u32 t2 (15 : Int))
    let t4 := bXor .u32 (sShr .u32 t2 (4 : Int)) e3
    chk (ixArr 16 (bAnd .u32 t4 (15 : Int))) <|
    let e5 := ixL (0 : Int) tabCrcHalves (bAnd .u32 t4 (15 : Int))
    let t6 := bXor .u32 (sShr .u32 t4 (4 : Int)) e5
    let t7 := IntKind.i64.wrap (vx3 + (1 : Int))
    next t6 v vx2 t7) (
    k2 row)
noncomputable def crcCarry.l2 (fu : Nat) (k2 : Int → Option (Int × Unit)) : Nat → Int → (List Int) → Int → Int → Option (Int × Unit)
  | 0, _, _, _, _ => none
  | m + 1, row, v, vx2, vx3 => crcCarry.b2 fu (crcCarry.l2 fu k2 m) k2 row v vx2 vx3
noncomputable def crcCarry (fu : Nat) (row : Int) (b : List Int) : Option (Int × Unit) :=
  crcCarry.l2 fu (fun rowq2 => 
      some (rowq2, ())) fu row b (b.length : Int) (0 : Int)

noncomputable def crcCarry.body : Code := Tryd.f27.body.getD .skip
abbrev crcCarry.shl2 : Shp := ⟨[.d (.int .u32), .u, .u, .u, .u, .u, .u, .d (.slice (.int .u8)), .d (.int .i64), .d (.int .i64), .u, .u, .u, .u, .u, .u, .u, .u, .u, .u, .u, .u, .u, .u, .u, .u, .u, .u, .u, .u, .u, .u, .u], []⟩
abbrev crcCarry.outl2e2 : Shp := ⟨[.d (.int .u32), .u, .u, .u, .u, .u, .u, .u, .u, .u, .u, .u, .u, .u, .u, .u, .u, .u, .u, .u, .u, .u, .u, .u, .u, .u, .u, .u, .u, .u, .u, .u, .u], []⟩
noncomputable def crcCarry.nml2 : Norm := ⟨{ keep := [0, 7, 8, 9], shut := [(0, (.int .u32)), (7, (.slice (.int .u8))), (8, (.int .i64)), (9, (.int .i64))], retag := [], heap := 0, dead := [], cshut := [], cretag := [] }, [(2, { keep := [0], shut := [(0, (.int .u32))], retag := [], heap := 0, dead := [], cshut := [], cretag := [] })]⟩
noncomputable def crcCarry.con : Con := { ps := [(.int .u32), (.slice (.int .u8))], rs := [(.int .u32)], f := fun n x => crcCarry n x.1 x.2.1 }
noncomputable def crcCarry.env : Env := { tys := [(23, ⟨(.int .u32), 4⟩), (5, ⟨(.int .u8), 1⟩), (3, ⟨(.int .i64), 8⟩), (61, ⟨(.arr 16 (.int .u32)), 64⟩)], elems := [(22, 5)], ptrs := [], cons := [], objs := [], loops := [(2, crcCarry.nml2)], cuts := [], globs := globs, base := 0 }
noncomputable def crcCarry.lp (n : Nat) : LP (Kd.struct crcCarry.con.rs).T := fun lo κ body nm K s =>
  cond (lo && Nat.beq κ 2)
    (match crcCarry.shl2.dec s with
    | some v => crcCarry.l2 n (fun w0 => K (.exit 0) (crcCarry.outl2e2.enc (w0, ()))) n v.1 v.2.1 v.2.2.1 v.2.2.2.1
    | none => loops n (Kd.struct crcCarry.con.rs).T lo κ body nm K s)
    (loops n (Kd.struct crcCarry.con.rs).T lo κ body nm K s)
theorem crcCarry.atl2 (n : Nat) (s : St) (K : Ex → St → Option (Kd.struct crcCarry.con.rs).T) : crcCarry.lp n true 2 (evK crcCarry.env (crcCarry.lp n) n (sub [1, 0, 1, 0, 0] crcCarry.body)) crcCarry.nml2 K s = loops n (Kd.struct crcCarry.con.rs).T true 2 (evK crcCarry.env (crcCarry.lp n) n (sub [1, 0, 1, 0, 0] crcCarry.body)) crcCarry.nml2 K s := by
  show (match crcCarry.shl2.dec s with | some v => crcCarry.l2 n (fun w0 => K (.exit 0) (crcCarry.outl2e2.enc (w0, ()))) n v.1 v.2.1 v.2.2.1 v.2.2.2.1 | none => loops n (Kd.struct crcCarry.con.rs).T true 2 (evK crcCarry.env (crcCarry.lp n) n (sub [1, 0, 1, 0, 0] crcCarry.body)) crcCarry.nml2 K s) = _
  cases h : crcCarry.shl2.dec s with
  | none => rfl
  | some v =>
    rw [Shp.dec_enc h]
    exact (evLoop_eq (sh := crcCarry.shl2) (body := evK crcCarry.env (crcCarry.lp n) n (sub [1, 0, 1, 0, 0] crcCarry.body)) (nm := crcCarry.nml2) (K := K) (b := fun nx v => crcCarry.b2 n (fun x0 x1 x2 x3 => nx (x0, x1, x2, x3, ())) (fun w0 => K (.exit 0) (crcCarry.outl2e2.enc (w0, ()))) v.1 v.2.1 v.2.2.1 v.2.2.2.1) (l := fun m v => crcCarry.l2 n (fun w0 => K (.exit 0) (crcCarry.outl2e2.enc (w0, ()))) m v.1 v.2.1 v.2.2.1 v.2.2.2.1) (fun _ => rfl) (fun _ _ => rfl) (fun m v => by kernel_rfl) n v).symm
theorem crcCarry.eq (n : Nat) (x : (Kd.struct crcCarry.con.ps).T) : evFunc crcCarry.env Tryd.f27 crcCarry.body crcCarry.con.ps crcCarry.con.rs (crcCarry.lp n) n x = crcCarry.con.f n x := by kernel_rfl
theorem crcCarry.sound : Sound Tryd.prog globs 27 crcCarry.con :=
  sound_by (E := crcCarry.env) (c := crcCarry.body) (envOk (G := globs) (lc := []) (lo := []) (envB_spec (by kernel_rfl)) rfl rfl trivial rfl trivial (by kernel_rfl) (by kernel_rfl)) Tryd.func27 (by kernel_rfl) crcCarry.lp (l := [(true, sub [1, 0, 1, 0, 0] crcCarry.body, crcCarry.nml2)]) (by kernel_rfl) (fun n => ⟨crcCarry.atl2 n, trivial⟩) crcCarry.eq
noncomputable def crcMore (fu : Nat) (sum : Int) (b : List Int) : Option (Int × Unit) :=
  (crcCarry fu (bNot .u32 sum) b).bind fun r1 =>
  some (bNot .u32 r1.1, ())

noncomputable def crcMore.body : Code := Tryd.f13.body.getD .skip
noncomputable def crcMore.con : Con := { ps := [(.int .u32), (.slice (.int .u8))], rs := [(.int .u32)], f := fun n x => crcMore n x.1 x.2.1 }
noncomputable def crcMore.env : Env := { tys := [(23, ⟨(.int .u32), 4⟩)], elems := [], ptrs := [], cons := [(27, crcCarry.con)], objs := [], loops := [], cuts := [], globs := globs, base := 0 }
noncomputable def crcMore.lp (n : Nat) : LP (Kd.struct crcMore.con.rs).T := fun lo κ body nm K s =>
  loops n (Kd.struct crcMore.con.rs).T lo κ body nm K s
theorem crcMore.eq (n : Nat) (x : (Kd.struct crcMore.con.ps).T) : evFunc crcMore.env Tryd.f13 crcMore.body crcMore.con.ps crcMore.con.rs (crcMore.lp n) n x = crcMore.con.f n x := by kernel_rfl
theorem crcMore.sound : Sound Tryd.prog globs 13 crcMore.con :=
  sound_by (E := crcMore.env) (c := crcMore.body) (envOk (G := globs) (lc := [(27, crcCarry.con)]) (lo := []) (envB_spec (by kernel_rfl)) rfl rfl ⟨.inl ⟨crcCarry.sound, by kernel_rfl⟩, trivial⟩ rfl trivial (by kernel_rfl) (by kernel_rfl)) Tryd.func13 (by kernel_rfl) crcMore.lp (l := []) (by kernel_rfl) (fun n => trivial) crcMore.eq
noncomputable def crcSum (fu : Nat) (b : List Int) : Option (Int × Unit) :=
  (crcMore fu (0 : Int) b).bind fun r1 =>
  some (r1.1, ())

noncomputable def crcSum.body : Code := Tryd.f11.body.getD .skip
noncomputable def crcSum.con : Con := { ps := [(.slice (.int .u8))], rs := [(.int .u32)], f := fun n x => crcSum n x.1 }
noncomputable def crcSum.env : Env := { tys := [(23, ⟨(.int .u32), 4⟩)], elems := [], ptrs := [], cons := [(13, crcMore.con)], objs := [], loops := [], cuts := [], globs := globs, base := 0 }
noncomputable def crcSum.lp (n : Nat) : LP (Kd.struct crcSum.con.rs).T := fun lo κ body nm K s =>
  loops n (Kd.struct crcSum.con.rs).T lo κ body nm K s
theorem crcSum.eq (n : Nat) (x : (Kd.struct crcSum.con.ps).T) : evFunc crcSum.env Tryd.f11 crcSum.body crcSum.con.ps crcSum.con.rs (crcSum.lp n) n x = crcSum.con.f n x := by kernel_rfl
theorem crcSum.sound : Sound Tryd.prog globs 11 crcSum.con :=
  sound_by (E := crcSum.env) (c := crcSum.body) (envOk (G := globs) (lc := [(13, crcMore.con)]) (lo := []) (envB_spec (by kernel_rfl)) rfl rfl ⟨.inl ⟨crcMore.sound, by kernel_rfl⟩, trivial⟩ rfl trivial (by kernel_rfl) (by kernel_rfl)) Tryd.func11 (by kernel_rfl) crcSum.lp (l := []) (by kernel_rfl) (fun n => trivial) crcSum.eq
noncomputable def law01Fixed (fu : Nat) : Option (Bool × Unit) :=
  let t1 := [(49 : Int), (50 : Int), (51 : Int), (52 : Int), (53 : Int), (54 : Int), (55 : Int), (56 : Int), (57 : Int)]
  (crcSum fu t1).bind fun r2 =>
  let t3 := r2.1 == (3421780262 : Int)
  cond t3 (
    (crcSum fu []).bind fun r4 =>
    some (r4.1 == (0 : Int), ())) (
    some (false, ()))

noncomputable def law01Fixed.body : Code := Tryd.f10.body.getD .skip
noncomputable def law01Fixed.con : Con := { ps := [], rs := [.bool], f := fun n x => law01Fixed n }
noncomputable def law01Fixed.env : Env := { tys := [(4, ⟨.bool, 1⟩), (5, ⟨(.int .u8), 1⟩), (22, ⟨(.slice (.int .u8)), 24⟩)], elems := [(22, 5)], ptrs := [], cons := [(11, crcSum.con)], objs := [], loops := [], cuts := [], globs := globs, base := 0 }
noncomputable def law01Fixed.lp (n : Nat) : LP (Kd.struct law01Fixed.con.rs).T := fun lo κ body nm K s =>
  loops n (Kd.struct law01Fixed.con.rs).T lo κ body nm K s
theorem law01Fixed.eq (n : Nat) (x : (Kd.struct law01Fixed.con.ps).T) : evFunc law01Fixed.env Tryd.f10 law01Fixed.body law01Fixed.con.ps law01Fixed.con.rs (law01Fixed.lp n) n x = law01Fixed.con.f n x := by kernel_rfl
theorem law01Fixed.sound : Sound Tryd.prog globs 10 law01Fixed.con :=
  sound_by (E := law01Fixed.env) (c := law01Fixed.body) (envOk (G := globs) (lc := [(11, crcSum.con)]) (lo := []) (envB_spec (by kernel_rfl)) rfl rfl ⟨.inl ⟨crcSum.sound, by kernel_rfl⟩, trivial⟩ rfl trivial (by kernel_rfl) (by kernel_rfl)) Tryd.func10 (by kernel_rfl) law01Fixed.lp (l := []) (by kernel_rfl) (fun n => trivial) law01Fixed.eq
noncomputable def ref01Row.b6 (fu : Nat) (next : Int → (List Int) → Int → Int → Int → Option (Int × Unit)) (k4 : Int → (List Int) → Int → Int → Option (Int × Unit)) (row : Int) (b : List Int) (kv : Int) (v : Int) (vx2 : Int) : Option (Int × Unit) :=
  cond (decide (kv < (8 : Int))) (
    let t1 := Int.tmod row (2 : Int) == (1 : Int)
    let t2 := IntKind.u32.wrap (Int.tdiv row (2 : Int))
    cond t1 (
      let t3 := bXor .u32 t2 (3988292384 : Int)
      let t4 := IntKind.i64.wrap (kv + (1 : Int))
      next t3 b t4 v vx2) (
      let t5 := IntKind.i64.wrap (kv + (1 : Int))
      next t2 b t5 v vx2)) (
    k4 row b v vx2)
noncomputable def ref01Row.l6 (fu : Nat) (k4 : Int → (List Int) → Int → Int → Option (Int × Unit)) : Nat → Int → (List Int) → Int → Int → Int → Option (Int × Unit)
  | 0, _, _, _, _, _ => none
  | m + 1, row, b, kv, v, vx2 => ref01Row.b6 fu (ref01Row.l6 fu k4 m) k4 row b kv v vx2
noncomputable def ref01Row.b2 (fu : Nat) (next : Int → (List Int) → Int → Int → Option (Int × Unit)) (k2 : Int → Option (Int × Unit)) (row : Int) (b : List Int) (v : Int) (vx2 : Int) : Option (Int × Unit) :=
  cond (decide (vx2 < v)) (
    chk (ixOk b vx2) <|
    let e1 := ixL (0 : Int) b vx2
    let t2 := bXor .u32 row (IntKind.u32.wrap e1)
    ref01Row.l6 fu (fun rowq4 bq4 vq4 vq4x2 => 
        let t3 := IntKind.i64.wrap (vq4x2 + (1 : Int))
        next rowq4 bq4 vq4 t3) fu t2 b (0 : Int) v vx2) (
    k2 row)
noncomputable def ref01Row.l2 (fu : Nat) (k2 : Int → Option (Int × Unit)) : Nat → Int → (List Int) → Int → Int → Option (Int × Unit)
  | 0, _, _, _, _ => none
  | m + 1, row, b, v, vx2 => ref01Row.b2 fu (ref01Row.l2 fu k2 m) k2 row b v vx2
noncomputable def ref01Row (fu : Nat) (row : Int) (b : List Int) : Option (Int × Unit) :=
  ref01Row.l2 fu (fun rowq2 => 
      some (rowq2, ())) fu row b (b.length : Int) (0 : Int)

noncomputable def ref01Row.body : Code := Tryd.f26.body.getD .skip
abbrev ref01Row.shl6 : Shp := ⟨[.d (.int .u32), .d (.slice (.int .u8)), .u, .u, .u, .u, .d (.int .i64), .u, .u, .d (.int .i64), .d (.int .i64), .u, .u, .u, .u, .u, .u, .u, .u, .u, .u, .u, .u, .u, .u, .u, .u, .u, .u, .u, .u, .u, .u, .u], []⟩
abbrev ref01Row.outl6e4 : Shp := ⟨[.d (.int .u32), .d (.slice (.int .u8)), .u, .u, .u, .u, .u, .u, .u, .d (.int .i64), .d (.int .i64), .u, .u, .u, .u, .u, .u, .u, .u, .u, .u, .u, .u, .u, .u, .u, .u, .u, .u, .u, .u, .u, .u, .u], []⟩
noncomputable def ref01Row.nml6 : Norm := ⟨{ keep := [0, 1, 6, 9, 10], shut := [(0, (.int .u32)), (1, (.slice (.int .u8))), (6, (.int .i64)), (9, (.int .i64)), (10, (.int .i64))], retag := [], heap := 0, dead := [], cshut := [], cretag := [] }, [(4, { keep := [0, 1, 9, 10], shut := [(0, (.int .u32)), (1, (.slice (.int .u8))), (9, (.int .i64)), (10, (.int .i64))], retag := [], heap := 0, dead := [], cshut := [], cretag := [] })]⟩
abbrev ref01Row.shl2 : Shp := ⟨[.d (.int .u32), .d (.slice (.int .u8)), .u, .u, .u, .u, .u, .u, .u, .d (.int .i64), .d (.int .i64), .u, .u, .u, .u, .u, .u, .u, .u, .u, .u, .u, .u, .u, .u, .u, .u, .u, .u, .u, .u, .u, .u, .u], []⟩
abbrev ref01Row.outl2e2 : Shp := ⟨[.d (.int .u32), .u, .u, .u, .u, .u, .u, .u, .u, .u, .u, .u, .u, .u, .u, .u, .u, .u, .u, .u, .u, .u, .u, .u, .u, .u, .u, .u, .u, .u, .u, .u, .u, .u], []⟩
noncomputable def ref01Row.nml2 : Norm := ⟨{ keep := [0, 1, 9, 10], shut := [(0, (.int .u32)), (1, (.slice (.int .u8))), (9, (.int .i64)), (10, (.int .i64))], retag := [], heap := 0, dead := [], cshut := [], cretag := [] }, [(2, { keep := [0], shut := [(0, (.int .u32))], retag := [], heap := 0, dead := [], cshut := [], cretag := [] })]⟩
noncomputable def ref01Row.con : Con := { ps := [(.int .u32), (.slice (.int .u8))], rs := [(.int .u32)], f := fun n x => ref01Row n x.1 x.2.1 }
noncomputable def ref01Row.env : Env := { tys := [(23, ⟨(.int .u32), 4⟩), (5, ⟨(.int .u8), 1⟩), (3, ⟨(.int .i64), 8⟩)], elems := [(22, 5)], ptrs := [], cons := [], objs := [], loops := [(6, ref01Row.nml6), (2, ref01Row.nml2)], cuts := [], globs := globs, base := 0 }
noncomputable def ref01Row.lp (n : Nat) : LP (Kd.struct ref01Row.con.rs).T := fun lo κ body nm K s =>
  cond (lo && Nat.beq κ 6)
    (match ref01Row.shl6.dec s with
    | some v => ref01Row.l6 n (fun w0 w1 w2 w3 => K (.exit 2) (ref01Row.outl6e4.enc (w0, w1, w2, w3, ()))) n v.1 v.2.1 v.2.2.1 v.2.2.2.1 v.2.2.2.2.1
    | none => loops n (Kd.struct ref01Row.con.rs).T lo κ body nm K s)
    (cond (lo && Nat.beq κ 2)
    (match ref01Row.shl2.dec s with
    | some v => ref01Row.l2 n (fun w0 => K (.exit 0) (ref01Row.outl2e2.enc (w0, ()))) n v.1 v.2.1 v.2.2.1 v.2.2.2.1
    | none => loops n (Kd.struct ref01Row.con.rs).T lo κ body nm K s)
    (loops n (Kd.struct ref01Row.con.rs).T lo κ body nm K s))
theorem ref01Row.atl6 (n : Nat) (s : St) (K : Ex → St → Option (Kd.struct ref01Row.con.rs).T) : ref01Row.lp n true 6 (evK ref01Row.env (ref01Row.lp n) n (sub [1, 0, 1, 0, 0, 1, 1, 0, 0, 1, 1, 1, 0, 0] ref01Row.body)) ref01Row.nml6 K s = loops n (Kd.struct ref01Row.con.rs).T true 6 (evK ref01Row.env (ref01Row.lp n) n (sub [1, 0, 1, 0, 0, 1, 1, 0, 0, 1, 1, 1, 0, 0] ref01Row.body)) ref01Row.nml6 K s := by
  show (match ref01Row.shl6.dec s with | some v => ref01Row.l6 n (fun w0 w1 w2 w3 => K (.exit 2) (ref01Row.outl6e4.enc (w0, w1, w2, w3, ()))) n v.1 v.2.1 v.2.2.1 v.2.2.2.1 v.2.2.2.2.1 | none => loops n (Kd.struct ref01Row.con.rs).T true 6 (evK ref01Row.env (ref01Row.lp n) n (sub [1, 0, 1, 0, 0, 1, 1, 0, 0, 1, 1, 1, 0, 0] ref01Row.body)) ref01Row.nml6 K s) = _
  cases h : ref01Row.shl6.dec s with
  | none => rfl
  | some v =>
    rw [Shp.dec_enc h]
    exact (evLoop_eq (sh := ref01Row.shl6) (body := evK ref01Row.env (ref01Row.lp n) n (sub [1, 0, 1, 0, 0, 1, 1, 0, 0, 1, 1, 1, 0, 0] ref01Row.body)) (nm := ref01Row.nml6) (K := K) (b := fun nx v => ref01Row.b6 n (fun x0 x1 x2 x3 x4 => nx (x0, x1, x2, x3, x4, ())) (fun w0 w1 w2 w3 => K (.exit 2) (ref01Row.outl6e4.enc (w0, w1, w2, w3, ()))) v.1 v.2.1 v.2.2.1 v.2.2.2.1 v.2.2.2.2.1) (l := fun m v => ref01Row.l6 n (fun w0 w1 w2 w3 => K (.exit 2) (ref01Row.outl6e4.enc (w0, w1, w2, w3, ()))) m v.1 v.2.1 v.2.2.1 v.2.2.2.1 v.2.2.2.2.1) (fun _ => rfl) (fun _ _ => rfl) (fun m v => by kernel_rfl) n v).symm
theorem ref01Row.atl2 (n : Nat) (s : St) (K : Ex → St → Option (Kd.struct ref01Row.con.rs).T) : ref01Row.lp n true 2 (evK ref01Row.env (ref01Row.lp n) n (sub [1, 0, 1, 0, 0] ref01Row.body)) ref01Row.nml2 K s = loops n (Kd.struct ref01Row.con.rs).T true 2 (evK ref01Row.env (ref01Row.lp n) n (sub [1, 0, 1, 0, 0] ref01Row.body)) ref01Row.nml2 K s := by
  show (match ref01Row.shl2.dec s with | some v => ref01Row.l2 n (fun w0 => K (.exit 0) (ref01Row.outl2e2.enc (w0, ()))) n v.1 v.2.1 v.2.2.1 v.2.2.2.1 | none => loops n (Kd.struct ref01Row.con.rs).T true 2 (evK ref01Row.env (ref01Row.lp n) n (sub [1, 0, 1, 0, 0] ref01Row.body)) ref01Row.nml2 K s) = _
  cases h : ref01Row.shl2.dec s with
  | none => rfl
  | some v =>
    rw [Shp.dec_enc h]
    exact (evLoop_eq (sh := ref01Row.shl2) (body := evK ref01Row.env (ref01Row.lp n) n (sub [1, 0, 1, 0, 0] ref01Row.body)) (nm := ref01Row.nml2) (K := K) (b := fun nx v => ref01Row.b2 n (fun x0 x1 x2 x3 => nx (x0, x1, x2, x3, ())) (fun w0 => K (.exit 0) (ref01Row.outl2e2.enc (w0, ()))) v.1 v.2.1 v.2.2.1 v.2.2.2.1) (l := fun m v => ref01Row.l2 n (fun w0 => K (.exit 0) (ref01Row.outl2e2.enc (w0, ()))) m v.1 v.2.1 v.2.2.1 v.2.2.2.1) (fun _ => rfl) (fun _ _ => rfl) (fun m v => by kernel_rfl) n v).symm
theorem ref01Row.eq (n : Nat) (x : (Kd.struct ref01Row.con.ps).T) : evFunc ref01Row.env Tryd.f26 ref01Row.body ref01Row.con.ps ref01Row.con.rs (ref01Row.lp n) n x = ref01Row.con.f n x := by kernel_rfl
theorem ref01Row.sound : Sound Tryd.prog globs 26 ref01Row.con :=
  sound_by (E := ref01Row.env) (c := ref01Row.body) (envOk (G := globs) (lc := []) (lo := []) (envB_spec (by kernel_rfl)) rfl rfl trivial rfl trivial (by kernel_rfl) (by kernel_rfl)) Tryd.func26 (by kernel_rfl) ref01Row.lp (l := [(true, sub [1, 0, 1, 0, 0, 1, 1, 0, 0, 1, 1, 1, 0, 0] ref01Row.body, ref01Row.nml6), (true, sub [1, 0, 1, 0, 0] ref01Row.body, ref01Row.nml2)]) (by kernel_rfl) (fun n => ⟨ref01Row.atl6 n, ⟨ref01Row.atl2 n, trivial⟩⟩) ref01Row.eq
noncomputable def ref01Sum (fu : Nat) (b : List Int) : Option (Int × Unit) :=
  (ref01Row fu (4294967295 : Int) b).bind fun r1 =>
  let t2 := bXor .u32 r1.1 (4294967295 : Int)
  some (t2, ())

noncomputable def ref01Sum.body : Code := Tryd.f12.body.getD .skip
noncomputable def ref01Sum.con : Con := { ps := [(.slice (.int .u8))], rs := [(.int .u32)], f := fun n x => ref01Sum n x.1 }
noncomputable def ref01Sum.env : Env := { tys := [(23, ⟨(.int .u32), 4⟩)], elems := [], ptrs := [], cons := [(26, ref01Row.con)], objs := [], loops := [], cuts := [], globs := globs, base := 0 }
noncomputable def ref01Sum.lp (n : Nat) : LP (Kd.struct ref01Sum.con.rs).T := fun lo κ body nm K s =>
  loops n (Kd.struct ref01Sum.con.rs).T lo κ body nm K s
theorem ref01Sum.eq (n : Nat) (x : (Kd.struct ref01Sum.con.ps).T) : evFunc ref01Sum.env Tryd.f12 ref01Sum.body ref01Sum.con.ps ref01Sum.con.rs (ref01Sum.lp n) n x = ref01Sum.con.f n x := by kernel_rfl
theorem ref01Sum.sound : Sound Tryd.prog globs 12 ref01Sum.con :=
  sound_by (E := ref01Sum.env) (c := ref01Sum.body) (envOk (G := globs) (lc := [(26, ref01Row.con)]) (lo := []) (envB_spec (by kernel_rfl)) rfl rfl ⟨.inl ⟨ref01Row.sound, by kernel_rfl⟩, trivial⟩ rfl trivial (by kernel_rfl) (by kernel_rfl)) Tryd.func12 (by kernel_rfl) ref01Sum.lp (l := []) (by kernel_rfl) (fun n => trivial) ref01Sum.eq
noncomputable def ref01More (fu : Nat) (sum : Int) (b : List Int) : Option (Int × Unit) :=
  let t1 := bXor .u32 sum (4294967295 : Int)
  (ref01Row fu t1 b).bind fun r2 =>
  let t3 := bXor .u32 r2.1 (4294967295 : Int)
  some (t3, ())

noncomputable def ref01More.body : Code := Tryd.f14.body.getD .skip
noncomputable def ref01More.con : Con := { ps := [(.int .u32), (.slice (.int .u8))], rs := [(.int .u32)], f := fun n x => ref01More n x.1 x.2.1 }
noncomputable def ref01More.env : Env := { tys := [(23, ⟨(.int .u32), 4⟩)], elems := [], ptrs := [], cons := [(26, ref01Row.con)], objs := [], loops := [], cuts := [], globs := globs, base := 0 }
noncomputable def ref01More.lp (n : Nat) : LP (Kd.struct ref01More.con.rs).T := fun lo κ body nm K s =>
  loops n (Kd.struct ref01More.con.rs).T lo κ body nm K s
theorem ref01More.eq (n : Nat) (x : (Kd.struct ref01More.con.ps).T) : evFunc ref01More.env Tryd.f14 ref01More.body ref01More.con.ps ref01More.con.rs (ref01More.lp n) n x = ref01More.con.f n x := by kernel_rfl
theorem ref01More.sound : Sound Tryd.prog globs 14 ref01More.con :=
  sound_by (E := ref01More.env) (c := ref01More.body) (envOk (G := globs) (lc := [(26, ref01Row.con)]) (lo := []) (envB_spec (by kernel_rfl)) rfl rfl ⟨.inl ⟨ref01Row.sound, by kernel_rfl⟩, trivial⟩ rfl trivial (by kernel_rfl) (by kernel_rfl)) Tryd.func14 (by kernel_rfl) ref01More.lp (l := []) (by kernel_rfl) (fun n => trivial) ref01More.eq
noncomputable def law01CrcSums (fu : Nat) (b : List Int) (sum : Int) : Option (Bool × Unit) :=
  let t1 := decide ((b.length : Int) > (5000 : Int))
  cond t1 (
    (law01Fixed fu).bind fun r2 =>
    some (r2.1, ())) (
    chk (apOk [] b 1) <|
    (law01Fixed fu).bind fun r3 =>
    cond r3.1 (
      (crcSum fu ([] ++ b)).bind fun r4 =>
      (ref01Sum fu b).bind fun r5 =>
      cond (r4.1 == r5.1) (
        (crcMore fu sum ([] ++ b)).bind fun r6 =>
        (ref01More fu sum b).bind fun r7 =>
        cond (r6.1 == r7.1) (
          some (([] ++ b) == b, ())) (
          some (false, ()))) (
        some (false, ()))) (
      some (false, ())))

noncomputable def law01CrcSums.body : Code := Tryd.f3.body.getD .skip
noncomputable def law01CrcSums.con : Con := { ps := [(.slice (.int .u8)), (.int .u32)], rs := [.bool], f := fun n x => law01CrcSums n x.1 x.2.1 }
noncomputable def law01CrcSums.env : Env := { tys := [(4, ⟨.bool, 1⟩), (5, ⟨(.int .u8), 1⟩), (9, ⟨.str, 16⟩), (22, ⟨(.slice (.int .u8)), 24⟩)], elems := [(22, 5)], ptrs := [], cons := [(10, law01Fixed.con), (11, crcSum.con), (12, ref01Sum.con), (13, crcMore.con), (14, ref01More.con)], objs := [], loops := [], cuts := [], globs := globs, base := 0 }
noncomputable def law01CrcSums.lp (n : Nat) : LP (Kd.struct law01CrcSums.con.rs).T := fun lo κ body nm K s =>
  loops n (Kd.struct law01CrcSums.con.rs).T lo κ body nm K s
theorem law01CrcSums.eq (n : Nat) (x : (Kd.struct law01CrcSums.con.ps).T) : evFunc law01CrcSums.env Tryd.f3 law01CrcSums.body law01CrcSums.con.ps law01CrcSums.con.rs (law01CrcSums.lp n) n x = law01CrcSums.con.f n x := by kernel_rfl
theorem law01CrcSums.sound : Sound Tryd.prog globs 3 law01CrcSums.con :=
  sound_by (E := law01CrcSums.env) (c := law01CrcSums.body) (envOk (G := globs) (lc := [(10, law01Fixed.con), (11, crcSum.con), (12, ref01Sum.con), (13, crcMore.con), (14, ref01More.con)]) (lo := []) (envB_spec (by kernel_rfl)) rfl rfl ⟨.inl ⟨law01Fixed.sound, by kernel_rfl⟩, ⟨.inl ⟨crcSum.sound, by kernel_rfl⟩, ⟨.inl ⟨ref01Sum.sound, by kernel_rfl⟩, ⟨.inl ⟨crcMore.sound, by kernel_rfl⟩, ⟨.inl ⟨ref01More.sound, by kernel_rfl⟩, trivial⟩⟩⟩⟩⟩ rfl trivial (by kernel_rfl) (by kernel_rfl)) Tryd.func3 (by kernel_rfl) law01CrcSums.lp (l := []) (by kernel_rfl) (fun n => trivial) law01CrcSums.eq
noncomputable def recSize (fu : Nat) (record : List Int) : Option (Int × Unit) :=
  let t1 := IntKind.i64.wrap ((8 : Int) + (record.length : Int))
  some (t1, ())

noncomputable def recSize.body : Code := Tryd.f20.body.getD .skip
noncomputable def recSize.con : Con := { ps := [(.slice (.int .u8))], rs := [(.int .i64)], f := fun n x => recSize n x.1 }
noncomputable def recSize.env : Env := { tys := [(3, ⟨(.int .i64), 8⟩), (5, ⟨(.int .u8), 1⟩)], elems := [(22, 5)], ptrs := [], cons := [], objs := [], loops := [], cuts := [], globs := globs, base := 0 }
noncomputable def recSize.lp (n : Nat) : LP (Kd.struct recSize.con.rs).T := fun lo κ body nm K s =>
  loops n (Kd.struct recSize.con.rs).T lo κ body nm K s
theorem recSize.eq (n : Nat) (x : (Kd.struct recSize.con.ps).T) : evFunc recSize.env Tryd.f20 recSize.body recSize.con.ps recSize.con.rs (recSize.lp n) n x = recSize.con.f n x := by kernel_rfl
theorem recSize.sound : Sound Tryd.prog globs 20 recSize.con :=
  sound_by (E := recSize.env) (c := recSize.body) (envOk (G := globs) (lc := []) (lo := []) (envB_spec (by kernel_rfl)) rfl rfl trivial rfl trivial (by kernel_rfl) (by kernel_rfl)) Tryd.func20 (by kernel_rfl) recSize.lp (l := []) (by kernel_rfl) (fun n => trivial) recSize.eq
noncomputable def recPutF31 (fu : Nat) (b : List Int) (n : Int) : Option (((List Int) × Unit) × (Unit)) :=
  let t1 := IntKind.u8.wrap (sShr .u32 n (24 : Int))
  let t2 := IntKind.u8.wrap (sShr .u32 n (16 : Int))
  let t3 := IntKind.u8.wrap (sShr .u32 n (8 : Int))
  let t4 := [t1, t2, t3, IntKind.u8.wrap n]
  chk (apOk b t4 1) <|
  some ((b ++ t4, ()), (()))

noncomputable def recPutF31.body : Code := Tryd.f31.body.getD .skip
noncomputable def recPutF31.con : OCon := { ps := [.own (.int .u8), .dat (.int .u32)], rs := [.own (.int .u8)], f := fun n x => recPutF31 n x.1 x.2.1 }
noncomputable def recPutF31.env : Env := { tys := [(22, ⟨(.slice (.int .u8)), 24⟩), (5, ⟨(.int .u8), 1⟩), (23, ⟨(.int .u32), 4⟩)], elems := [(22, 5)], ptrs := [], cons := [], objs := [], loops := [], cuts := [], globs := globs, base := 0 }
noncomputable def recPutF31.lp (n : Nat) : LP (RT recPutF31.con.rs × BT recPutF31.con.ps) := fun lo κ body nm K s =>
  loops n (RT recPutF31.con.rs × BT recPutF31.con.ps) lo κ body nm K s
theorem recPutF31.eq (n : Nat) (x : PT recPutF31.con.ps) : evFuncO recPutF31.env Tryd.f31 recPutF31.body recPutF31.con.ps recPutF31.con.rs (recPutF31.lp n) n x = recPutF31.con.f n x := by kernel_rfl
theorem recPutF31.sound : SoundO Tryd.prog globs 31 recPutF31.con :=
  sound_byO (E := recPutF31.env) (c := recPutF31.body) (envOk (G := globs) (lc := []) (lo := []) (envB_spec (by kernel_rfl)) rfl rfl trivial rfl trivial (by kernel_rfl) (by kernel_rfl)) Tryd.func31 (by kernel_rfl) (by kernel_rfl) (by kernel_rfl) recPutF31.lp (l := []) (by kernel_rfl) (fun n => trivial) recPutF31.eq
noncomputable def recPut (fu : Nat) (b : List Int) (record : List Int) : Option ((List Int) × Int × Unit) :=
  let t1 := decide ((record.length : Int) > (65536 : Int))
  cond t1 (
    some ([], (4 : Int), ())) (
    (recSize fu record).bind fun r2 =>
    let t3 := IntKind.i64.wrap ((b.length : Int) + r2.1)
    chk (mkRaw (b.length : Int) t3 1) <|
    chk (nOk b ((b.length : Int).toNat) && (nOk b ((b.length : Int).toNat) && (nOk b ((b.length : Int).toNat) && (nOk b ((b.length : Int).toNat) && true)))) <|
    let t4 := IntKind.u32.wrap (record.length : Int)
    (recPutF31 fu b t4).bind fun r5 =>
    chk (cutOk r5.1.1 (b.length : Int) (r5.1.1.length : Int)) <|
    let t6 := cutL r5.1.1 (b.length : Int) (r5.1.1.length : Int)
    (crcSum fu t6).bind fun r7 =>
    (crcMore fu r7.1 record).bind fun r8 =>
    (recPutF31 fu r5.1.1 r8.1).bind fun r9 =>
    chk (apOk r9.1.1 record 1) <|
    some (r9.1.1 ++ record, (0 : Int), ()))

noncomputable def recPut.body : Code := Tryd.f17.body.getD .skip
noncomputable def recPut.con : Con := { ps := [(.slice (.int .u8)), (.slice (.int .u8))], rs := [(.slice (.int .u8)), (.int .i64)], f := fun n x => recPut n x.1 x.2.1 }
noncomputable def recPut.env : Env := { tys := [(22, ⟨(.slice (.int .u8)), 24⟩), (32, ⟨(.int .i64), 8⟩), (5, ⟨(.int .u8), 1⟩), (23, ⟨(.int .u32), 4⟩), (3, ⟨(.int .i64), 8⟩)], elems := [(22, 5)], ptrs := [], cons := [(20, recSize.con), (11, crcSum.con), (13, crcMore.con)], objs := [(31, [recPutF31.con])], loops := [], cuts := [], globs := globs, base := 0, raws := [18] }
noncomputable def recPut.lp (n : Nat) : LP (Kd.struct recPut.con.rs).T := fun lo κ body nm K s =>
  loops n (Kd.struct recPut.con.rs).T lo κ body nm K s
theorem recPut.eq (n : Nat) (x : (Kd.struct recPut.con.ps).T) : evFunc recPut.env Tryd.f17 recPut.body recPut.con.ps recPut.con.rs (recPut.lp n) n x = recPut.con.f n x := by kernel_rfl
theorem recPut.sound : Sound Tryd.prog globs 17 recPut.con :=
  sound_by (E := recPut.env) (c := recPut.body) (envOk (G := globs) (lc := [(20, recSize.con), (11, crcSum.con), (13, crcMore.con)]) (lo := [(31, [recPutF31.con])]) (envB_spec (by kernel_rfl)) rfl rfl ⟨.inl ⟨recSize.sound, by kernel_rfl⟩, ⟨.inl ⟨crcSum.sound, by kernel_rfl⟩, ⟨.inl ⟨crcMore.sound, by kernel_rfl⟩, trivial⟩⟩⟩ rfl ⟨⟨⟨recPutF31.sound, trivial⟩, by kernel_rfl⟩, trivial⟩ (by kernel_rfl) (by kernel_rfl)) Tryd.func17 (by kernel_rfl) recPut.lp (l := []) (by kernel_rfl) (fun n => trivial) recPut.eq
noncomputable def law08Fixed (fu : Nat) : Option (Bool × Unit) :=
  (recPut fu [] ([(97 : Int)])).bind fun r1 =>
  cond (r1.2.1 == (0 : Int)) (
    let t2 := (r1.1.length : Int) == (9 : Int)
    cond t2 (
      chk (cutOk r1.1 (0 : Int) (4 : Int)) <|
      let t3 := cutL r1.1 (0 : Int) (4 : Int)
      let t4 := t3 == ([0, 0, 0, 1] : List Int)
      cond t4 (
        chk (ixOk r1.1 (8 : Int)) <|
        let e5 := ixL (0 : Int) r1.1 (8 : Int)
        cond (e5 == (97 : Int)) (
          (recSize fu ([(97 : Int)])).bind fun r6 =>
          some (r6.1 == (9 : Int), ())) (
          some (false, ()))) (
        some (false, ()))) (
      some (false, ()))) (
    some (false, ()))

noncomputable def law08Fixed.body : Code := Tryd.f16.body.getD .skip
noncomputable def law08Fixed.con : Con := { ps := [], rs := [.bool], f := fun n x => law08Fixed n }
noncomputable def law08Fixed.env : Env := { tys := [(4, ⟨.bool, 1⟩), (5, ⟨(.int .u8), 1⟩), (22, ⟨(.slice (.int .u8)), 24⟩), (9, ⟨.str, 16⟩)], elems := [(22, 5)], ptrs := [], cons := [(17, recPut.con), (20, recSize.con)], objs := [], loops := [], cuts := [], globs := globs, base := 0 }
noncomputable def law08Fixed.lp (n : Nat) : LP (Kd.struct law08Fixed.con.rs).T := fun lo κ body nm K s =>
  loops n (Kd.struct law08Fixed.con.rs).T lo κ body nm K s
theorem law08Fixed.eq (n : Nat) (x : (Kd.struct law08Fixed.con.ps).T) : evFunc law08Fixed.env Tryd.f16 law08Fixed.body law08Fixed.con.ps law08Fixed.con.rs (law08Fixed.lp n) n x = law08Fixed.con.f n x := by kernel_rfl
theorem law08Fixed.sound : Sound Tryd.prog globs 16 law08Fixed.con :=
  sound_by (E := law08Fixed.env) (c := law08Fixed.body) (envOk (G := globs) (lc := [(17, recPut.con), (20, recSize.con)]) (lo := []) (envB_spec (by kernel_rfl)) rfl rfl ⟨.inl ⟨recPut.sound, by kernel_rfl⟩, ⟨.inl ⟨recSize.sound, by kernel_rfl⟩, trivial⟩⟩ rfl trivial (by kernel_rfl) (by kernel_rfl)) Tryd.func16 (by kernel_rfl) law08Fixed.lp (l := []) (by kernel_rfl) (fun n => trivial) law08Fixed.eq
noncomputable def ref08Four (fu : Nat) (n : Int) : Option ((List Int) × Unit) :=
  let t1 := IntKind.u32.wrap (Int.tdiv n (16777216 : Int))
  let t2 := IntKind.u32.wrap (Int.tdiv n (65536 : Int))
  let t3 := IntKind.u8.wrap (Int.tmod t2 (256 : Int))
  let t4 := IntKind.u32.wrap (Int.tdiv n (256 : Int))
  let t5 := IntKind.u8.wrap (Int.tmod t4 (256 : Int))
  let t6 := IntKind.u8.wrap (Int.tmod n (256 : Int))
  let t7 := [IntKind.u8.wrap t1, t3, t5, t6]
  some (t7, ())

noncomputable def ref08Four.body : Code := Tryd.f32.body.getD .skip
noncomputable def ref08Four.con : Con := { ps := [(.int .u32)], rs := [(.slice (.int .u8))], f := fun n x => ref08Four n x.1 }
noncomputable def ref08Four.env : Env := { tys := [(22, ⟨(.slice (.int .u8)), 24⟩), (5, ⟨(.int .u8), 1⟩), (23, ⟨(.int .u32), 4⟩)], elems := [(22, 5)], ptrs := [], cons := [], objs := [], loops := [], cuts := [], globs := globs, base := 0 }
noncomputable def ref08Four.lp (n : Nat) : LP (Kd.struct ref08Four.con.rs).T := fun lo κ body nm K s =>
  loops n (Kd.struct ref08Four.con.rs).T lo κ body nm K s
theorem ref08Four.eq (n : Nat) (x : (Kd.struct ref08Four.con.ps).T) : evFunc ref08Four.env Tryd.f32 ref08Four.body ref08Four.con.ps ref08Four.con.rs (ref08Four.lp n) n x = ref08Four.con.f n x := by kernel_rfl
theorem ref08Four.sound : Sound Tryd.prog globs 32 ref08Four.con :=
  sound_by (E := ref08Four.env) (c := ref08Four.body) (envOk (G := globs) (lc := []) (lo := []) (envB_spec (by kernel_rfl)) rfl rfl trivial rfl trivial (by kernel_rfl) (by kernel_rfl)) Tryd.func32 (by kernel_rfl) ref08Four.lp (l := []) (by kernel_rfl) (fun n => trivial) ref08Four.eq
noncomputable def ref08Put (fu : Nat) (b : List Int) (record : List Int) : Option ((List Int) × Int × Unit) :=
  let t1 := decide ((record.length : Int) > (65536 : Int))
  cond t1 (
    some ([], (4 : Int), ())) (
    let t2 := IntKind.u32.wrap (record.length : Int)
    (ref08Four fu t2).bind fun r3 =>
    chk (apOk [] r3.1 1) <|
    chk (apOk ([] ++ r3.1) record 1) <|
    chk (apOk [] b 1) <|
    chk (apOk ([] ++ b) r3.1 1) <|
    (ref01Sum fu (([] ++ r3.1) ++ record)).bind fun r4 =>
    (ref08Four fu r4.1).bind fun r5 =>
    chk (apOk (([] ++ b) ++ r3.1) r5.1 1) <|
    let t6 := (([] ++ b) ++ r3.1) ++ r5.1
    chk (apOk t6 record 1) <|
    some (t6 ++ record, (0 : Int), ()))

noncomputable def ref08Put.body : Code := Tryd.f18.body.getD .skip
noncomputable def ref08Put.con : Con := { ps := [(.slice (.int .u8)), (.slice (.int .u8))], rs := [(.slice (.int .u8)), (.int .i64)], f := fun n x => ref08Put n x.1 x.2.1 }
noncomputable def ref08Put.env : Env := { tys := [(22, ⟨(.slice (.int .u8)), 24⟩), (3, ⟨(.int .i64), 8⟩), (5, ⟨(.int .u8), 1⟩), (23, ⟨(.int .u32), 4⟩)], elems := [(22, 5)], ptrs := [], cons := [(32, ref08Four.con), (12, ref01Sum.con)], objs := [], loops := [], cuts := [], globs := globs, base := 0 }
noncomputable def ref08Put.lp (n : Nat) : LP (Kd.struct ref08Put.con.rs).T := fun lo κ body nm K s =>
  loops n (Kd.struct ref08Put.con.rs).T lo κ body nm K s
theorem ref08Put.eq (n : Nat) (x : (Kd.struct ref08Put.con.ps).T) : evFunc ref08Put.env Tryd.f18 ref08Put.body ref08Put.con.ps ref08Put.con.rs (ref08Put.lp n) n x = ref08Put.con.f n x := by kernel_rfl
theorem ref08Put.sound : Sound Tryd.prog globs 18 ref08Put.con :=
  sound_by (E := ref08Put.env) (c := ref08Put.body) (envOk (G := globs) (lc := [(32, ref08Four.con), (12, ref01Sum.con)]) (lo := []) (envB_spec (by kernel_rfl)) rfl rfl ⟨.inl ⟨ref08Four.sound, by kernel_rfl⟩, ⟨.inl ⟨ref01Sum.sound, by kernel_rfl⟩, trivial⟩⟩ rfl trivial (by kernel_rfl) (by kernel_rfl)) Tryd.func18 (by kernel_rfl) ref08Put.lp (l := []) (by kernel_rfl) (fun n => trivial) ref08Put.eq
noncomputable def recGetF33 (fu : Nat) (b : List Int) : Option (Int × Unit) :=
  chk (ixOk b (0 : Int)) <|
  let e1 := ixL (0 : Int) b (0 : Int)
  let t2 := sShl .u32 (IntKind.u32.wrap e1) (24 : Int)
  chk (ixOk b (1 : Int)) <|
  let e3 := ixL (0 : Int) b (1 : Int)
  let t4 := sShl .u32 (IntKind.u32.wrap e3) (16 : Int)
  chk (ixOk b (2 : Int)) <|
  let e5 := ixL (0 : Int) b (2 : Int)
  let t6 := sShl .u32 (IntKind.u32.wrap e5) (8 : Int)
  let t7 := bOr .u32 (bOr .u32 t2 t4) t6
  chk (ixOk b (3 : Int)) <|
  let e8 := ixL (0 : Int) b (3 : Int)
  let t9 := bOr .u32 t7 (IntKind.u32.wrap e8)
  some (t9, ())

noncomputable def recGetF33.body : Code := Tryd.f33.body.getD .skip
noncomputable def recGetF33.con : Con := { ps := [(.slice (.int .u8))], rs := [(.int .u32)], f := fun n x => recGetF33 n x.1 }
noncomputable def recGetF33.env : Env := { tys := [(23, ⟨(.int .u32), 4⟩), (5, ⟨(.int .u8), 1⟩)], elems := [(22, 5)], ptrs := [], cons := [], objs := [], loops := [], cuts := [], globs := globs, base := 0 }
noncomputable def recGetF33.lp (n : Nat) : LP (Kd.struct recGetF33.con.rs).T := fun lo κ body nm K s =>
  loops n (Kd.struct recGetF33.con.rs).T lo κ body nm K s
theorem recGetF33.eq (n : Nat) (x : (Kd.struct recGetF33.con.ps).T) : evFunc recGetF33.env Tryd.f33 recGetF33.body recGetF33.con.ps recGetF33.con.rs (recGetF33.lp n) n x = recGetF33.con.f n x := by kernel_rfl
theorem recGetF33.sound : Sound Tryd.prog globs 33 recGetF33.con :=
  sound_by (E := recGetF33.env) (c := recGetF33.body) (envOk (G := globs) (lc := []) (lo := []) (envB_spec (by kernel_rfl)) rfl rfl trivial rfl trivial (by kernel_rfl) (by kernel_rfl)) Tryd.func33 (by kernel_rfl) recGetF33.lp (l := []) (by kernel_rfl) (fun n => trivial) recGetF33.eq
noncomputable def slicesCloneDat (fu : Nat) (sv : List Int) : Option ((List Int) × Unit) :=
  nilQ sv (
    some ([], ())) (
    chk (apOk [] sv 1) <|
    some ([] ++ sv, ()))

noncomputable def slicesCloneDat.body : Code := Tryd.f34.body.getD .skip
noncomputable def slicesCloneDat.con : Con := { ps := [(.slice (.int .u8))], rs := [(.slice (.int .u8))], f := fun n x => slicesCloneDat n x.1 }
noncomputable def slicesCloneDat.env : Env := { tys := [(22, ⟨(.slice (.int .u8)), 24⟩), (5, ⟨(.int .u8), 1⟩)], elems := [(22, 5)], ptrs := [], cons := [], objs := [], loops := [], cuts := [], globs := globs, base := 0 }
noncomputable def slicesCloneDat.lp (n : Nat) : LP (Kd.struct slicesCloneDat.con.rs).T := fun lo κ body nm K s =>
  loops n (Kd.struct slicesCloneDat.con.rs).T lo κ body nm K s
theorem slicesCloneDat.eq (n : Nat) (x : (Kd.struct slicesCloneDat.con.ps).T) : evFunc slicesCloneDat.env Tryd.f34 slicesCloneDat.body slicesCloneDat.con.ps slicesCloneDat.con.rs (slicesCloneDat.lp n) n x = slicesCloneDat.con.f n x := by kernel_rfl
theorem slicesCloneDat.sound : Sound Tryd.prog globs 34 slicesCloneDat.con :=
  sound_by (E := slicesCloneDat.env) (c := slicesCloneDat.body) (envOk (G := globs) (lc := []) (lo := []) (envB_spec (by kernel_rfl)) rfl rfl trivial rfl trivial (by kernel_rfl) (by kernel_rfl)) Tryd.func34 (by kernel_rfl) slicesCloneDat.lp (l := []) (by kernel_rfl) (fun n => trivial) slicesCloneDat.eq
noncomputable def recGet (fu : Nat) (b : List Int) (atv : Int) : Option ((List Int) × Int × Int × Unit) :=
  cond (decide (atv < (0 : Int))) (
    some ([], (0 : Int), (3 : Int), ())) (
    let t1 := IntKind.i64.wrap ((b.length : Int) - (4 : Int))
    cond (decide (atv > t1)) (
      some ([], (0 : Int), (3 : Int), ())) (
      chk (cutOk b atv (b.length : Int)) <|
      let t2 := cutL b atv (b.length : Int)
      (recGetF33 fu t2).bind fun r3 =>
      let t4 := decide (r3.1 > (65536 : Int))
      cond t4 (
        some ([], (0 : Int), (4 : Int), ())) (
        let t5 := IntKind.i64.wrap ((8 : Int) + IntKind.i64.wrap r3.1)
        let t6 := IntKind.i64.wrap ((b.length : Int) - atv)
        cond (decide (t5 > t6)) (
          some ([], (0 : Int), (3 : Int), ())) (
          let t7 := IntKind.i64.wrap (atv + (8 : Int))
          let t8 := IntKind.i64.wrap (atv + (8 : Int))
          let t9 := IntKind.i64.wrap (t8 + IntKind.i64.wrap r3.1)
          chk (cutOk b t7 t9) <|
          let t10 := IntKind.i64.wrap (atv + (4 : Int))
          chk (cutOk b atv t10) <|
          (crcSum fu (cutL b atv t10)).bind fun r11 =>
          (crcMore fu r11.1 (cutL b t7 t9)).bind fun r12 =>
          let t13 := IntKind.i64.wrap (atv + (4 : Int))
          chk (cutOk b t13 (b.length : Int)) <|
          let t14 := cutL b t13 (b.length : Int)
          (recGetF33 fu t14).bind fun r15 =>
          cond (r12.1 != r15.1) (
            some ([], (0 : Int), (6 : Int), ())) (
            (slicesCloneDat fu (cutL b t7 t9)).bind fun r16 =>
            let t17 := IntKind.i64.wrap (atv + (8 : Int))
            let t18 := IntKind.i64.wrap (t17 + IntKind.i64.wrap r3.1)
            some (r16.1, t18, (0 : Int), ()))))))

noncomputable def recGet.body : Code := Tryd.f19.body.getD .skip
noncomputable def recGet.con : Con := { ps := [(.slice (.int .u8)), (.int .i64)], rs := [(.slice (.int .u8)), (.int .i64), (.int .i64)], f := fun n x => recGet n x.1 x.2.1 }
noncomputable def recGet.env : Env := { tys := [(22, ⟨(.slice (.int .u8)), 24⟩), (3, ⟨(.int .i64), 8⟩), (32, ⟨(.int .i64), 8⟩), (4, ⟨.bool, 1⟩), (5, ⟨(.int .u8), 1⟩), (23, ⟨(.int .u32), 4⟩)], elems := [(22, 5)], ptrs := [], cons := [(33, recGetF33.con), (11, crcSum.con), (13, crcMore.con), (34, slicesCloneDat.con)], objs := [], loops := [], cuts := [], globs := globs, base := 0 }
noncomputable def recGet.lp (n : Nat) : LP (Kd.struct recGet.con.rs).T := fun lo κ body nm K s =>
  loops n (Kd.struct recGet.con.rs).T lo κ body nm K s
theorem recGet.eq (n : Nat) (x : (Kd.struct recGet.con.ps).T) : evFunc recGet.env Tryd.f19 recGet.body recGet.con.ps recGet.con.rs (recGet.lp n) n x = recGet.con.f n x := by kernel_rfl
theorem recGet.sound : Sound Tryd.prog globs 19 recGet.con :=
  sound_by (E := recGet.env) (c := recGet.body) (envOk (G := globs) (lc := [(33, recGetF33.con), (11, crcSum.con), (13, crcMore.con), (34, slicesCloneDat.con)]) (lo := []) (envB_spec (by kernel_rfl)) rfl rfl ⟨.inl ⟨recGetF33.sound, by kernel_rfl⟩, ⟨.inl ⟨crcSum.sound, by kernel_rfl⟩, ⟨.inl ⟨crcMore.sound, by kernel_rfl⟩, ⟨.inl ⟨slicesCloneDat.sound, by kernel_rfl⟩, trivial⟩⟩⟩⟩ rfl trivial (by kernel_rfl) (by kernel_rfl)) Tryd.func19 (by kernel_rfl) recGet.lp (l := []) (by kernel_rfl) (fun n => trivial) recGet.eq
noncomputable def law08RecPuts.j5 (fu : Nat) (k1 : Bool → Option (Bool × Unit)) (b : List Int) (record : List Int) : Option (Bool × Unit) :=
  chk (apOk [] b 1) <|
  (recPut fu ([] ++ b) record).bind fun r1 =>
  (ref08Put fu b record).bind fun r2 =>
  (law08Fixed fu).bind fun r3 =>
  cond (!r3.1) (
    k1 false) (
    cond (r1.1 != r2.1) (
      k1 false) (
      cond (r1.2.1 != r2.2.1) (
        k1 false) (
        cond (([] ++ b) != b) (
          k1 false) (
          cond (r1.2.1 != (0 : Int)) (
            let t4 := decide ((record.length : Int) > (65536 : Int))
            k1 t4) (
            (recGet fu r1.1 (b.length : Int)).bind fun r5 =>
            cond (r5.2.2.1 == (0 : Int)) (
              let t6 := r5.2.1 == (r1.1.length : Int)
              cond t6 (
                cond (r5.1 == record) (
                  (recSize fu record).bind fun r7 =>
                  let t8 := IntKind.i64.wrap ((b.length : Int) + r7.1)
                  let t9 := (r1.1.length : Int) == t8
                  k1 t9) (
                  k1 false)) (
                k1 false)) (
              k1 false))))))
noncomputable def law08RecPuts (fu : Nat) (b : List Int) (record : List Int) (long : Bool) : Option (Bool × Unit) :=
  let t1 := decide ((b.length : Int) > (5000 : Int))
  cond t1 (
    (law08Fixed fu).bind fun r2 =>
    some (r2.1, ())) (
    let t3 := decide ((record.length : Int) > (5000 : Int))
    cond t3 (
      (law08Fixed fu).bind fun r4 =>
      some (r4.1, ())) (
      cond long (
        let t5 := Int.tmod (record.length : Int) (2 : Int)
        let t6 := IntKind.i64.wrap ((65536 : Int) + t5)
        chk (mkOk t6 t6 1) <|
        let t7 := List.replicate t6.toNat (0 : Int)
        law08RecPuts.j5 fu (fun vq1 => 
            some (vq1, ())) b t7) (
        law08RecPuts.j5 fu (fun vq2 => 
            some (vq2, ())) b record)))

noncomputable def law08RecPuts.body : Code := Tryd.f6.body.getD .skip
abbrev law08RecPuts.shj5 : Shp := ⟨[.d (.slice (.int .u8)), .d (.slice (.int .u8)), .u, .u, .u, .u, .u, .u, .u, .u, .u, .u, .u, .u, .u, .u, .u, .u, .u, .u, .u, .u, .u, .u, .u, .u, .u, .u, .u, .u, .u, .u, .u, .u, .u, .u, .u, .u, .u, .u, .u, .u, .u, .u, .u, .u, .u, .u, .u, .u, .u, .u, .u, .u, .u, .u, .u, .u, .u, .u, .u, .u, .u, .u, .u, .u, .u, .u, .u, .u, .u, .u, .u, .u, .u, .u, .u, .u, .u, .u, .u, .u, .u, .u, .u, .u, .u, .u, .u, .u, .u, .u, .u, .u, .u, .u, .u, .u, .u, .u, .u, .u, .u, .u], []⟩
abbrev law08RecPuts.outj5e1 : Shp := ⟨[.u, .u, .u, .u, .u, .u, .d .bool, .u, .u, .u, .u, .u, .u, .u, .u, .u, .u, .u, .u, .u, .u, .u, .u, .u, .u, .u, .u, .u, .u, .u, .u, .u, .u, .u, .u, .u, .u, .u, .u, .u, .u, .u, .u, .u, .u, .u, .u, .u, .u, .u, .u, .u, .u, .u, .u, .u, .u, .u, .u, .u, .u, .u, .u, .u, .u, .u, .u, .u, .u, .u, .u, .u, .u, .u, .u, .u, .u, .u, .u, .u, .u, .u, .u, .u, .u, .u, .u, .u, .u, .u, .u, .u, .u, .u, .u, .u, .u, .u, .u, .u, .u, .u, .u, .u], []⟩
noncomputable def law08RecPuts.nmj5 : Norm := ⟨{ keep := [0, 1], shut := [(0, (.slice (.int .u8))), (1, (.slice (.int .u8)))], retag := [], heap := 0, dead := [], cshut := [], cretag := [] }, [(1, { keep := [6], shut := [(6, .bool)], retag := [], heap := 0, dead := [], cshut := [], cretag := [] })]⟩
noncomputable def law08RecPuts.con : Con := { ps := [(.slice (.int .u8)), (.slice (.int .u8)), .bool], rs := [.bool], f := fun n x => law08RecPuts n x.1 x.2.1 x.2.2.1 }
noncomputable def law08RecPuts.env : Env := { tys := [(4, ⟨.bool, 1⟩), (5, ⟨(.int .u8), 1⟩), (9, ⟨.str, 16⟩), (22, ⟨(.slice (.int .u8)), 24⟩)], elems := [(22, 5)], ptrs := [], cons := [(16, law08Fixed.con), (17, recPut.con), (18, ref08Put.con), (19, recGet.con), (20, recSize.con)], objs := [], loops := [], cuts := [(5, law08RecPuts.nmj5)], globs := globs, base := 0 }
noncomputable def law08RecPuts.lp (n : Nat) : LP (Kd.struct law08RecPuts.con.rs).T := fun lo κ body nm K s =>
  cond (!lo && Nat.beq κ 5)
    (match law08RecPuts.shj5.dec s with
    | some v => law08RecPuts.j5 n (fun w0 => K .ret (law08RecPuts.outj5e1.enc (w0, ()))) v.1 v.2.1
    | none => loops n (Kd.struct law08RecPuts.con.rs).T lo κ body nm K s)
    (loops n (Kd.struct law08RecPuts.con.rs).T lo κ body nm K s)
theorem law08RecPuts.atj5 (n : Nat) (s : St) (K : Ex → St → Option (Kd.struct law08RecPuts.con.rs).T) : law08RecPuts.lp n false 5 (evK law08RecPuts.env (law08RecPuts.lp n) n (sub [1, 1, 1] law08RecPuts.body)) law08RecPuts.nmj5 K s = loops n (Kd.struct law08RecPuts.con.rs).T false 5 (evK law08RecPuts.env (law08RecPuts.lp n) n (sub [1, 1, 1] law08RecPuts.body)) law08RecPuts.nmj5 K s := by
  show (match law08RecPuts.shj5.dec s with | some v => law08RecPuts.j5 n (fun w0 => K .ret (law08RecPuts.outj5e1.enc (w0, ()))) v.1 v.2.1 | none => loops n (Kd.struct law08RecPuts.con.rs).T false 5 (evK law08RecPuts.env (law08RecPuts.lp n) n (sub [1, 1, 1] law08RecPuts.body)) law08RecPuts.nmj5 K s) = _
  cases h : law08RecPuts.shj5.dec s with
  | none => rfl
  | some v =>
    rw [Shp.dec_enc h]
    kernel_rfl
theorem law08RecPuts.eq (n : Nat) (x : (Kd.struct law08RecPuts.con.ps).T) : evFunc law08RecPuts.env Tryd.f6 law08RecPuts.body law08RecPuts.con.ps law08RecPuts.con.rs (law08RecPuts.lp n) n x = law08RecPuts.con.f n x := by kernel_rfl
theorem law08RecPuts.sound : Sound Tryd.prog globs 6 law08RecPuts.con :=
  sound_by (E := law08RecPuts.env) (c := law08RecPuts.body) (envOk (G := globs) (lc := [(16, law08Fixed.con), (17, recPut.con), (18, ref08Put.con), (19, recGet.con), (20, recSize.con)]) (lo := []) (envB_spec (by kernel_rfl)) rfl rfl ⟨.inl ⟨law08Fixed.sound, by kernel_rfl⟩, ⟨.inl ⟨recPut.sound, by kernel_rfl⟩, ⟨.inl ⟨ref08Put.sound, by kernel_rfl⟩, ⟨.inl ⟨recGet.sound, by kernel_rfl⟩, ⟨.inl ⟨recSize.sound, by kernel_rfl⟩, trivial⟩⟩⟩⟩⟩ rfl trivial (by kernel_rfl) (by kernel_rfl)) Tryd.func6 (by kernel_rfl) law08RecPuts.lp (l := [(false, sub [1, 1, 1] law08RecPuts.body, law08RecPuts.nmj5)]) (by kernel_rfl) (fun n => ⟨law08RecPuts.atj5 n, trivial⟩) law08RecPuts.eq
noncomputable def ref08Get.b6 (fu : Nat) (next : (List Int) → Int → (List Int) → Int → Int → Option ((List Int) × Int × Int × Unit)) (k2 : (List Int) → Int → (List Int) → Int → Option ((List Int) × Int × Int × Unit)) (b : List Int) (atv : Int) (nonev : List Int) (n : Int) (i : Int) : Option ((List Int) × Int × Int × Unit) :=
  cond (decide (i < (4 : Int))) (
    let t1 := IntKind.i64.wrap (n * (256 : Int))
    let t2 := IntKind.i64.wrap (atv + i)
    chk (ixOk b t2) <|
    let e3 := ixL (0 : Int) b t2
    let t4 := IntKind.i64.wrap (t1 + IntKind.i64.wrap e3)
    let t5 := IntKind.i64.wrap (i + (1 : Int))
    next b atv nonev t4 t5) (
    k2 b atv nonev n)
noncomputable def ref08Get.l6 (fu : Nat) (k2 : (List Int) → Int → (List Int) → Int → Option ((List Int) × Int × Int × Unit)) : Nat → (List Int) → Int → (List Int) → Int → Int → Option ((List Int) × Int × Int × Unit)
  | 0, _, _, _, _, _ => none
  | m + 1, b, atv, nonev, n, i => ref08Get.b6 fu (ref08Get.l6 fu k2 m) k2 b atv nonev n i
noncomputable def ref08Get (fu : Nat) (b : List Int) (atv : Int) : Option ((List Int) × Int × Int × Unit) :=
  cond (decide (atv < (0 : Int))) (
    some ([], (0 : Int), (3 : Int), ())) (
    let t1 := decide (atv > (b.length : Int))
    cond t1 (
      some ([], (0 : Int), (3 : Int), ())) (
      let t2 := IntKind.i64.wrap ((b.length : Int) - atv)
      cond (decide (t2 < (4 : Int))) (
        some ([], (0 : Int), (3 : Int), ())) (
        ref08Get.l6 fu (fun bq2 atvq2 nonevq2 nq2 => 
            let t3 := decide (nq2 > (65536 : Int))
            cond t3 (
              some (nonevq2, (0 : Int), (4 : Int), ())) (
              let t4 := IntKind.i64.wrap ((bq2.length : Int) - atvq2)
              let t5 := IntKind.i64.wrap ((8 : Int) + nq2)
              cond (decide (t4 < t5)) (
                some (nonevq2, (0 : Int), (3 : Int), ())) (
                let t6 := IntKind.i64.wrap (atvq2 + (8 : Int))
                let t7 := IntKind.i64.wrap (atvq2 + (8 : Int))
                let t8 := IntKind.i64.wrap (t7 + nq2)
                chk (cutOk bq2 t6 t8) <|
                chk (apOk [] (cutL bq2 t6 t8) 1) <|
                (ref08Put fu [] ([] ++ (cutL bq2 t6 t8))).bind fun r9 =>
                let t10 := IntKind.i64.wrap (atvq2 + (8 : Int))
                let t11 := IntKind.i64.wrap (t10 + nq2)
                chk (cutOk bq2 atvq2 t11) <|
                let t12 := r9.1 != (cutL bq2 atvq2 t11)
                cond t12 (
                  some (nonevq2, (0 : Int), (6 : Int), ())) (
                  let t13 := IntKind.i64.wrap (atvq2 + (8 : Int))
                  let t14 := IntKind.i64.wrap (t13 + nq2)
                  some ([] ++ (cutL bq2 t6 t8), t14, (0 : Int), ()))))) fu b atv [] (0 : Int) (0 : Int))))

noncomputable def ref08Get.body : Code := Tryd.f21.body.getD .skip
abbrev ref08Get.shl6 : Shp := ⟨[.d (.slice (.int .u8)), .d (.int .i64), .u, .u, .u, .u, .u, .o 7 (.int .u8), .d (.int .i64), .d (.int .i64), .u, .u, .u, .u, .u, .u, .u, .u, .u, .u, .u, .u, .u, .u, .u, .u, .u, .u, .u, .u, .u, .u, .u, .u, .u, .u, .u, .u, .u, .u, .u, .u, .u, .u, .u, .u, .u, .u, .u, .u, .u, .u, .u, .u, .u, .u, .u, .u, .u, .u, .u, .u, .u, .u, .u, .u, .u, .u, .u, .u, .u, .u, .u, .u, .u, .u, .u, .u, .u, .u, .u, .u, .u, .u, .u, .u, .u, .u, .u], []⟩
abbrev ref08Get.outl6e2 : Shp := ⟨[.d (.slice (.int .u8)), .d (.int .i64), .u, .u, .u, .u, .u, .o 7 (.int .u8), .d (.int .i64), .u, .u, .u, .u, .u, .u, .u, .u, .u, .u, .u, .u, .u, .u, .u, .u, .u, .u, .u, .u, .u, .u, .u, .u, .u, .u, .u, .u, .u, .u, .u, .u, .u, .u, .u, .u, .u, .u, .u, .u, .u, .u, .u, .u, .u, .u, .u, .u, .u, .u, .u, .u, .u, .u, .u, .u, .u, .u, .u, .u, .u, .u, .u, .u, .u, .u, .u, .u, .u, .u, .u, .u, .u, .u, .u, .u, .u, .u, .u, .u], []⟩
noncomputable def ref08Get.nml6 : Norm := ⟨{ keep := [0, 1, 7, 8, 9], shut := [(0, (.slice (.int .u8))), (1, (.int .i64)), (8, (.int .i64)), (9, (.int .i64))], retag := [(7, 7, (.int .u8))], heap := 0, dead := [], cshut := [], cretag := [] }, [(2, { keep := [0, 1, 7, 8], shut := [(0, (.slice (.int .u8))), (1, (.int .i64)), (8, (.int .i64))], retag := [(7, 7, (.int .u8))], heap := 0, dead := [], cshut := [], cretag := [] })]⟩
noncomputable def ref08Get.con : Con := { ps := [(.slice (.int .u8)), (.int .i64)], rs := [(.slice (.int .u8)), (.int .i64), (.int .i64)], f := fun n x => ref08Get n x.1 x.2.1 }
noncomputable def ref08Get.env : Env := { tys := [(22, ⟨(.slice (.int .u8)), 24⟩), (3, ⟨(.int .i64), 8⟩), (5, ⟨(.int .u8), 1⟩), (4, ⟨.bool, 1⟩), (9, ⟨.str, 16⟩)], elems := [(22, 5)], ptrs := [], cons := [(18, ref08Put.con)], objs := [], loops := [(6, ref08Get.nml6)], cuts := [], globs := globs, base := 0 }
noncomputable def ref08Get.lp (n : Nat) : LP (Kd.struct ref08Get.con.rs).T := fun lo κ body nm K s =>
  cond (lo && Nat.beq κ 6)
    (match ref08Get.shl6.dec s with
    | some v => ref08Get.l6 n (fun w0 w1 w2 w3 => K (.exit 0) (ref08Get.outl6e2.enc (w0, w1, w2, w3, ()))) n v.1 v.2.1 v.2.2.1 v.2.2.2.1 v.2.2.2.2.1
    | none => loops n (Kd.struct ref08Get.con.rs).T lo κ body nm K s)
    (loops n (Kd.struct ref08Get.con.rs).T lo κ body nm K s)
theorem ref08Get.atl6 (n : Nat) (s : St) (K : Ex → St → Option (Kd.struct ref08Get.con.rs).T) : ref08Get.lp n true 6 (evK ref08Get.env (ref08Get.lp n) n (sub [1, 1, 1, 1, 0, 1, 0, 0] ref08Get.body)) ref08Get.nml6 K s = loops n (Kd.struct ref08Get.con.rs).T true 6 (evK ref08Get.env (ref08Get.lp n) n (sub [1, 1, 1, 1, 0, 1, 0, 0] ref08Get.body)) ref08Get.nml6 K s := by
  show (match ref08Get.shl6.dec s with | some v => ref08Get.l6 n (fun w0 w1 w2 w3 => K (.exit 0) (ref08Get.outl6e2.enc (w0, w1, w2, w3, ()))) n v.1 v.2.1 v.2.2.1 v.2.2.2.1 v.2.2.2.2.1 | none => loops n (Kd.struct ref08Get.con.rs).T true 6 (evK ref08Get.env (ref08Get.lp n) n (sub [1, 1, 1, 1, 0, 1, 0, 0] ref08Get.body)) ref08Get.nml6 K s) = _
  cases h : ref08Get.shl6.dec s with
  | none => rfl
  | some v =>
    rw [Shp.dec_enc h]
    exact (evLoop_eq (sh := ref08Get.shl6) (body := evK ref08Get.env (ref08Get.lp n) n (sub [1, 1, 1, 1, 0, 1, 0, 0] ref08Get.body)) (nm := ref08Get.nml6) (K := K) (b := fun nx v => ref08Get.b6 n (fun x0 x1 x2 x3 x4 => nx (x0, x1, x2, x3, x4, ())) (fun w0 w1 w2 w3 => K (.exit 0) (ref08Get.outl6e2.enc (w0, w1, w2, w3, ()))) v.1 v.2.1 v.2.2.1 v.2.2.2.1 v.2.2.2.2.1) (l := fun m v => ref08Get.l6 n (fun w0 w1 w2 w3 => K (.exit 0) (ref08Get.outl6e2.enc (w0, w1, w2, w3, ()))) m v.1 v.2.1 v.2.2.1 v.2.2.2.1 v.2.2.2.2.1) (fun _ => rfl) (fun _ _ => rfl) (fun m v => by kernel_rfl) n v).symm
theorem ref08Get.eq (n : Nat) (x : (Kd.struct ref08Get.con.ps).T) : evFunc ref08Get.env Tryd.f21 ref08Get.body ref08Get.con.ps ref08Get.con.rs (ref08Get.lp n) n x = ref08Get.con.f n x := by kernel_rfl
theorem ref08Get.sound : Sound Tryd.prog globs 21 ref08Get.con :=
  sound_by (E := ref08Get.env) (c := ref08Get.body) (envOk (G := globs) (lc := [(18, ref08Put.con)]) (lo := []) (envB_spec (by kernel_rfl)) rfl rfl ⟨.inl ⟨ref08Put.sound, by kernel_rfl⟩, trivial⟩ rfl trivial (by kernel_rfl) (by kernel_rfl)) Tryd.func21 (by kernel_rfl) ref08Get.lp (l := [(true, sub [1, 1, 1, 1, 0, 1, 0, 0] ref08Get.body, ref08Get.nml6)]) (by kernel_rfl) (fun n => ⟨ref08Get.atl6 n, trivial⟩) ref08Get.eq
noncomputable def recScan.b3 (fu : Nat) (next : (List Int) → (List (List Int)) → Int → Option ((List (List Int)) × Int × Unit)) (k1 : (List (List Int)) → Int → Option ((List (List Int)) × Int × Unit)) (b : List Int) (out : List (List Int)) (atv : Int) : Option ((List (List Int)) × Int × Unit) :=
  (recGet fu b atv).bind fun r1 =>
  cond (r1.2.2.1 != (0 : Int)) (
    k1 out atv) (
    chk (apOk out ([r1.1]) 24) <|
    next b (out ++ ([r1.1])) r1.2.1)
noncomputable def recScan.l3 (fu : Nat) (k1 : (List (List Int)) → Int → Option ((List (List Int)) × Int × Unit)) : Nat → (List Int) → (List (List Int)) → Int → Option ((List (List Int)) × Int × Unit)
  | 0, _, _, _ => none
  | m + 1, b, out, atv => recScan.b3 fu (recScan.l3 fu k1 m) k1 b out atv
noncomputable def recScan (fu : Nat) (b : List Int) : Option ((List (List Int)) × Int × Unit) :=
  recScan.l3 fu (fun vq1 vq1x2 => 
      some (vq1, vq1x2, ())) fu b [] (0 : Int)

noncomputable def recScan.body : Code := Tryd.f22.body.getD .skip
abbrev recScan.shl3 : Shp := ⟨[.d (.slice (.int .u8)), .u, .u, .u, .o 4 (.slice (.int .u8)), .d (.int .i64), .u, .u, .u, .u, .u, .u, .u, .u, .u, .u, .u, .u, .u, .u, .u, .u, .u, .u, .u], []⟩
abbrev recScan.outl3e1 : Shp := ⟨[.u, .u, .o 2 (.slice (.int .u8)), .d (.int .i64), .u, .u, .u, .u, .u, .u, .u, .u, .u, .u, .u, .u, .u, .u, .u, .u, .u, .u, .u, .u, .u], []⟩
noncomputable def recScan.nml3 : Norm := ⟨{ keep := [0, 4, 5], shut := [(0, (.slice (.int .u8))), (5, (.int .i64))], retag := [(4, 4, (.slice (.int .u8)))], heap := 0, dead := [], cshut := [], cretag := [] }, [(1, { keep := [2, 3], shut := [(3, (.int .i64))], retag := [(2, 2, (.slice (.int .u8)))], heap := 0, dead := [], cshut := [], cretag := [] })]⟩
noncomputable def recScan.con : Con := { ps := [(.slice (.int .u8))], rs := [(.slice (.slice (.int .u8))), (.int .i64)], f := fun n x => recScan n x.1 }
noncomputable def recScan.env : Env := { tys := [(45, ⟨(.slice (.slice (.int .u8))), 24⟩), (3, ⟨(.int .i64), 8⟩), (22, ⟨(.slice (.int .u8)), 24⟩)], elems := [(45, 22)], ptrs := [], cons := [(19, recGet.con)], objs := [], loops := [(3, recScan.nml3)], cuts := [], globs := globs, base := 0 }
noncomputable def recScan.lp (n : Nat) : LP (Kd.struct recScan.con.rs).T := fun lo κ body nm K s =>
  cond (lo && Nat.beq κ 3)
    (match recScan.shl3.dec s with
    | some v => recScan.l3 n (fun w0 w1 => K .ret (recScan.outl3e1.enc (w0, w1, ()))) n v.1 v.2.1 v.2.2.1
    | none => loops n (Kd.struct recScan.con.rs).T lo κ body nm K s)
    (loops n (Kd.struct recScan.con.rs).T lo κ body nm K s)
theorem recScan.atl3 (n : Nat) (s : St) (K : Ex → St → Option (Kd.struct recScan.con.rs).T) : recScan.lp n true 3 (evK recScan.env (recScan.lp n) n (sub [1, 1, 1, 0, 0] recScan.body)) recScan.nml3 K s = loops n (Kd.struct recScan.con.rs).T true 3 (evK recScan.env (recScan.lp n) n (sub [1, 1, 1, 0, 0] recScan.body)) recScan.nml3 K s := by
  show (match recScan.shl3.dec s with | some v => recScan.l3 n (fun w0 w1 => K .ret (recScan.outl3e1.enc (w0, w1, ()))) n v.1 v.2.1 v.2.2.1 | none => loops n (Kd.struct recScan.con.rs).T true 3 (evK recScan.env (recScan.lp n) n (sub [1, 1, 1, 0, 0] recScan.body)) recScan.nml3 K s) = _
  cases h : recScan.shl3.dec s with
  | none => rfl
  | some v =>
    rw [Shp.dec_enc h]
    exact (evLoop_eq (sh := recScan.shl3) (body := evK recScan.env (recScan.lp n) n (sub [1, 1, 1, 0, 0] recScan.body)) (nm := recScan.nml3) (K := K) (b := fun nx v => recScan.b3 n (fun x0 x1 x2 => nx (x0, x1, x2, ())) (fun w0 w1 => K .ret (recScan.outl3e1.enc (w0, w1, ()))) v.1 v.2.1 v.2.2.1) (l := fun m v => recScan.l3 n (fun w0 w1 => K .ret (recScan.outl3e1.enc (w0, w1, ()))) m v.1 v.2.1 v.2.2.1) (fun _ => rfl) (fun _ _ => rfl) (fun m v => by kernel_rfl) n v).symm
theorem recScan.eq (n : Nat) (x : (Kd.struct recScan.con.ps).T) : evFunc recScan.env Tryd.f22 recScan.body recScan.con.ps recScan.con.rs (recScan.lp n) n x = recScan.con.f n x := by kernel_rfl
theorem recScan.sound : Sound Tryd.prog globs 22 recScan.con :=
  sound_by (E := recScan.env) (c := recScan.body) (envOk (G := globs) (lc := [(19, recGet.con)]) (lo := []) (envB_spec (by kernel_rfl)) rfl rfl ⟨.inl ⟨recGet.sound, by kernel_rfl⟩, trivial⟩ rfl trivial (by kernel_rfl) (by kernel_rfl)) Tryd.func22 (by kernel_rfl) recScan.lp (l := [(true, sub [1, 1, 1, 0, 0] recScan.body, recScan.nml3)]) (by kernel_rfl) (fun n => ⟨recScan.atl3 n, trivial⟩) recScan.eq
noncomputable def ref08Scan.b3 (fu : Nat) (next : (List Int) → (List (List Int)) → Int → Option ((List (List Int)) × Int × Unit)) (k1 : (List (List Int)) → Int → Option ((List (List Int)) × Int × Unit)) (b : List Int) (out : List (List Int)) (atv : Int) : Option ((List (List Int)) × Int × Unit) :=
  (ref08Get fu b atv).bind fun r1 =>
  cond (r1.2.2.1 != (0 : Int)) (
    k1 out atv) (
    chk (apOk out ([r1.1]) 24) <|
    next b (out ++ ([r1.1])) r1.2.1)
noncomputable def ref08Scan.l3 (fu : Nat) (k1 : (List (List Int)) → Int → Option ((List (List Int)) × Int × Unit)) : Nat → (List Int) → (List (List Int)) → Int → Option ((List (List Int)) × Int × Unit)
  | 0, _, _, _ => none
  | m + 1, b, out, atv => ref08Scan.b3 fu (ref08Scan.l3 fu k1 m) k1 b out atv
noncomputable def ref08Scan (fu : Nat) (b : List Int) : Option ((List (List Int)) × Int × Unit) :=
  ref08Scan.l3 fu (fun vq1 vq1x2 => 
      some (vq1, vq1x2, ())) fu b [] (0 : Int)

noncomputable def ref08Scan.body : Code := Tryd.f23.body.getD .skip
abbrev ref08Scan.shl3 : Shp := ⟨[.d (.slice (.int .u8)), .u, .u, .u, .o 4 (.slice (.int .u8)), .d (.int .i64), .u, .u, .u, .u, .u, .u, .u, .u, .u, .u, .u, .u, .u, .u, .u, .u, .u, .u, .u, .u], []⟩
abbrev ref08Scan.outl3e1 : Shp := ⟨[.u, .u, .o 2 (.slice (.int .u8)), .d (.int .i64), .u, .u, .u, .u, .u, .u, .u, .u, .u, .u, .u, .u, .u, .u, .u, .u, .u, .u, .u, .u, .u, .u], []⟩
noncomputable def ref08Scan.nml3 : Norm := ⟨{ keep := [0, 4, 5], shut := [(0, (.slice (.int .u8))), (5, (.int .i64))], retag := [(4, 4, (.slice (.int .u8)))], heap := 0, dead := [], cshut := [], cretag := [] }, [(1, { keep := [2, 3], shut := [(3, (.int .i64))], retag := [(2, 2, (.slice (.int .u8)))], heap := 0, dead := [], cshut := [], cretag := [] })]⟩
noncomputable def ref08Scan.con : Con := { ps := [(.slice (.int .u8))], rs := [(.slice (.slice (.int .u8))), (.int .i64)], f := fun n x => ref08Scan n x.1 }
noncomputable def ref08Scan.env : Env := { tys := [(45, ⟨(.slice (.slice (.int .u8))), 24⟩), (3, ⟨(.int .i64), 8⟩), (22, ⟨(.slice (.int .u8)), 24⟩)], elems := [(45, 22)], ptrs := [], cons := [(21, ref08Get.con)], objs := [], loops := [(3, ref08Scan.nml3)], cuts := [], globs := globs, base := 0 }
noncomputable def ref08Scan.lp (n : Nat) : LP (Kd.struct ref08Scan.con.rs).T := fun lo κ body nm K s =>
  cond (lo && Nat.beq κ 3)
    (match ref08Scan.shl3.dec s with
    | some v => ref08Scan.l3 n (fun w0 w1 => K .ret (ref08Scan.outl3e1.enc (w0, w1, ()))) n v.1 v.2.1 v.2.2.1
    | none => loops n (Kd.struct ref08Scan.con.rs).T lo κ body nm K s)
    (loops n (Kd.struct ref08Scan.con.rs).T lo κ body nm K s)
theorem ref08Scan.atl3 (n : Nat) (s : St) (K : Ex → St → Option (Kd.struct ref08Scan.con.rs).T) : ref08Scan.lp n true 3 (evK ref08Scan.env (ref08Scan.lp n) n (sub [1, 1, 1, 0, 0] ref08Scan.body)) ref08Scan.nml3 K s = loops n (Kd.struct ref08Scan.con.rs).T true 3 (evK ref08Scan.env (ref08Scan.lp n) n (sub [1, 1, 1, 0, 0] ref08Scan.body)) ref08Scan.nml3 K s := by
  show (match ref08Scan.shl3.dec s with | some v => ref08Scan.l3 n (fun w0 w1 => K .ret (ref08Scan.outl3e1.enc (w0, w1, ()))) n v.1 v.2.1 v.2.2.1 | none => loops n (Kd.struct ref08Scan.con.rs).T true 3 (evK ref08Scan.env (ref08Scan.lp n) n (sub [1, 1, 1, 0, 0] ref08Scan.body)) ref08Scan.nml3 K s) = _
  cases h : ref08Scan.shl3.dec s with
  | none => rfl
  | some v =>
    rw [Shp.dec_enc h]
    exact (evLoop_eq (sh := ref08Scan.shl3) (body := evK ref08Scan.env (ref08Scan.lp n) n (sub [1, 1, 1, 0, 0] ref08Scan.body)) (nm := ref08Scan.nml3) (K := K) (b := fun nx v => ref08Scan.b3 n (fun x0 x1 x2 => nx (x0, x1, x2, ())) (fun w0 w1 => K .ret (ref08Scan.outl3e1.enc (w0, w1, ()))) v.1 v.2.1 v.2.2.1) (l := fun m v => ref08Scan.l3 n (fun w0 w1 => K .ret (ref08Scan.outl3e1.enc (w0, w1, ()))) m v.1 v.2.1 v.2.2.1) (fun _ => rfl) (fun _ _ => rfl) (fun m v => by kernel_rfl) n v).symm
theorem ref08Scan.eq (n : Nat) (x : (Kd.struct ref08Scan.con.ps).T) : evFunc ref08Scan.env Tryd.f23 ref08Scan.body ref08Scan.con.ps ref08Scan.con.rs (ref08Scan.lp n) n x = ref08Scan.con.f n x := by kernel_rfl
theorem ref08Scan.sound : Sound Tryd.prog globs 23 ref08Scan.con :=
  sound_by (E := ref08Scan.env) (c := ref08Scan.body) (envOk (G := globs) (lc := [(21, ref08Get.con)]) (lo := []) (envB_spec (by kernel_rfl)) rfl rfl ⟨.inl ⟨ref08Get.sound, by kernel_rfl⟩, trivial⟩ rfl trivial (by kernel_rfl) (by kernel_rfl)) Tryd.func23 (by kernel_rfl) ref08Scan.lp (l := [(true, sub [1, 1, 1, 0, 0] ref08Scan.body, ref08Scan.nml3)]) (by kernel_rfl) (fun n => ⟨ref08Scan.atl3 n, trivial⟩) ref08Scan.eq
noncomputable def ref08Same.b4 (fu : Nat) (next : (List (List Int)) → (List (List Int)) → Int → Int → Option (Bool × Unit)) (k1 : Bool → Option (Bool × Unit)) (k2 : Unit → Option (Bool × Unit)) (a : List (List Int)) (b : List (List Int)) (v : Int) (vx2 : Int) : Option (Bool × Unit) :=
  cond (decide (vx2 < v)) (
    chk (ixOk a vx2) <|
    let e1 := ixL [] a vx2
    chk (ixOk b vx2) <|
    let e2 := ixL [] b vx2
    cond (e1 != e2) (
      k1 false) (
      let t3 := IntKind.i64.wrap (vx2 + (1 : Int))
      next a b v t3)) (
    k2 ())
noncomputable def ref08Same.l4 (fu : Nat) (k1 : Bool → Option (Bool × Unit)) (k2 : Unit → Option (Bool × Unit)) : Nat → (List (List Int)) → (List (List Int)) → Int → Int → Option (Bool × Unit)
  | 0, _, _, _, _ => none
  | m + 1, a, b, v, vx2 => ref08Same.b4 fu (ref08Same.l4 fu k1 k2 m) k1 k2 a b v vx2
noncomputable def ref08Same (fu : Nat) (a : List (List Int)) (b : List (List Int)) : Option (Bool × Unit) :=
  let t1 := (a.length : Int) != (b.length : Int)
  cond t1 (
    some (false, ())) (
    ref08Same.l4 fu (fun vq3 => 
        some (vq3, ())) (fun (_ : Unit) => 
        some (true, ())) fu a b (a.length : Int) (0 : Int))

noncomputable def ref08Same.body : Code := Tryd.f24.body.getD .skip
abbrev ref08Same.shl4 : Shp := ⟨[.d (.slice (.slice (.int .u8))), .d (.slice (.slice (.int .u8))), .u, .u, .u, .u, .u, .u, .u, .u, .u, .u, .d (.int .i64), .d (.int .i64), .u, .u, .u, .u, .u, .u, .u, .u, .u, .u, .u, .u, .u, .u], []⟩
abbrev ref08Same.outl4e1 : Shp := ⟨[.u, .u, .u, .u, .d .bool, .u, .u, .u, .u, .u, .u, .u, .u, .u, .u, .u, .u, .u, .u, .u, .u, .u, .u, .u, .u, .u, .u, .u], []⟩
abbrev ref08Same.outl4e2 : Shp := ⟨[.u, .u, .u, .u, .u, .u, .u, .u, .u, .u, .u, .u, .u, .u, .u, .u, .u, .u, .u, .u, .u, .u, .u, .u, .u, .u, .u, .u], []⟩
noncomputable def ref08Same.nml4 : Norm := ⟨{ keep := [0, 1, 12, 13], shut := [(0, (.slice (.slice (.int .u8)))), (1, (.slice (.slice (.int .u8)))), (12, (.int .i64)), (13, (.int .i64))], retag := [], heap := 0, dead := [], cshut := [], cretag := [] }, [(1, { keep := [4], shut := [(4, .bool)], retag := [], heap := 0, dead := [], cshut := [], cretag := [] }), (2, { keep := [], shut := [], retag := [], heap := 0, dead := [], cshut := [], cretag := [] })]⟩
noncomputable def ref08Same.con : Con := { ps := [(.slice (.slice (.int .u8))), (.slice (.slice (.int .u8)))], rs := [.bool], f := fun n x => ref08Same n x.1 x.2.1 }
noncomputable def ref08Same.env : Env := { tys := [(4, ⟨.bool, 1⟩), (22, ⟨(.slice (.int .u8)), 24⟩), (3, ⟨(.int .i64), 8⟩), (9, ⟨.str, 16⟩), (5, ⟨(.int .u8), 1⟩)], elems := [(45, 22), (22, 5)], ptrs := [], cons := [], objs := [], loops := [(4, ref08Same.nml4)], cuts := [], globs := globs, base := 0 }
noncomputable def ref08Same.lp (n : Nat) : LP (Kd.struct ref08Same.con.rs).T := fun lo κ body nm K s =>
  cond (lo && Nat.beq κ 4)
    (match ref08Same.shl4.dec s with
    | some v => ref08Same.l4 n (fun w0 => K .ret (ref08Same.outl4e1.enc (w0, ()))) (fun _ => K (.exit 0) (ref08Same.outl4e2.enc (()))) n v.1 v.2.1 v.2.2.1 v.2.2.2.1
    | none => loops n (Kd.struct ref08Same.con.rs).T lo κ body nm K s)
    (loops n (Kd.struct ref08Same.con.rs).T lo κ body nm K s)
theorem ref08Same.atl4 (n : Nat) (s : St) (K : Ex → St → Option (Kd.struct ref08Same.con.rs).T) : ref08Same.lp n true 4 (evK ref08Same.env (ref08Same.lp n) n (sub [1, 1, 0, 1, 0, 0] ref08Same.body)) ref08Same.nml4 K s = loops n (Kd.struct ref08Same.con.rs).T true 4 (evK ref08Same.env (ref08Same.lp n) n (sub [1, 1, 0, 1, 0, 0] ref08Same.body)) ref08Same.nml4 K s := by
  show (match ref08Same.shl4.dec s with | some v => ref08Same.l4 n (fun w0 => K .ret (ref08Same.outl4e1.enc (w0, ()))) (fun _ => K (.exit 0) (ref08Same.outl4e2.enc (()))) n v.1 v.2.1 v.2.2.1 v.2.2.2.1 | none => loops n (Kd.struct ref08Same.con.rs).T true 4 (evK ref08Same.env (ref08Same.lp n) n (sub [1, 1, 0, 1, 0, 0] ref08Same.body)) ref08Same.nml4 K s) = _
  cases h : ref08Same.shl4.dec s with
  | none => rfl
  | some v =>
    rw [Shp.dec_enc h]
    exact (evLoop_eq (sh := ref08Same.shl4) (body := evK ref08Same.env (ref08Same.lp n) n (sub [1, 1, 0, 1, 0, 0] ref08Same.body)) (nm := ref08Same.nml4) (K := K) (b := fun nx v => ref08Same.b4 n (fun x0 x1 x2 x3 => nx (x0, x1, x2, x3, ())) (fun w0 => K .ret (ref08Same.outl4e1.enc (w0, ()))) (fun _ => K (.exit 0) (ref08Same.outl4e2.enc (()))) v.1 v.2.1 v.2.2.1 v.2.2.2.1) (l := fun m v => ref08Same.l4 n (fun w0 => K .ret (ref08Same.outl4e1.enc (w0, ()))) (fun _ => K (.exit 0) (ref08Same.outl4e2.enc (()))) m v.1 v.2.1 v.2.2.1 v.2.2.2.1) (fun _ => rfl) (fun _ _ => rfl) (fun m v => by kernel_rfl) n v).symm
theorem ref08Same.eq (n : Nat) (x : (Kd.struct ref08Same.con.ps).T) : evFunc ref08Same.env Tryd.f24 ref08Same.body ref08Same.con.ps ref08Same.con.rs (ref08Same.lp n) n x = ref08Same.con.f n x := by kernel_rfl
theorem ref08Same.sound : Sound Tryd.prog globs 24 ref08Same.con :=
  sound_by (E := ref08Same.env) (c := ref08Same.body) (envOk (G := globs) (lc := []) (lo := []) (envB_spec (by kernel_rfl)) rfl rfl trivial rfl trivial (by kernel_rfl) (by kernel_rfl)) Tryd.func24 (by kernel_rfl) ref08Same.lp (l := [(true, sub [1, 1, 0, 1, 0, 0] ref08Same.body, ref08Same.nml4)]) (by kernel_rfl) (fun n => ⟨ref08Same.atl4 n, trivial⟩) ref08Same.eq
noncomputable def law08RecGets (fu : Nat) (b : List Int) (atv : Int) : Option (Bool × Unit) :=
  let t1 := decide ((b.length : Int) > (5000 : Int))
  cond t1 (
    (law08Fixed fu).bind fun r2 =>
    some (r2.1, ())) (
    (recGet fu b atv).bind fun r3 =>
    (ref08Get fu b atv).bind fun r4 =>
    (recScan fu b).bind fun r5 =>
    (ref08Scan fu b).bind fun r6 =>
    (law08Fixed fu).bind fun r7 =>
    cond r7.1 (
      cond (r3.1 == r4.1) (
        cond (r3.2.1 == r4.2.1) (
          cond (r3.2.2.1 == r4.2.2.1) (
            (ref08Same fu r5.1 r6.1).bind fun r8 =>
            cond r8.1 (
              some (r5.2.1 == r6.2.1, ())) (
              some (false, ()))) (
            some (false, ()))) (
          some (false, ()))) (
        some (false, ()))) (
      some (false, ())))

noncomputable def law08RecGets.body : Code := Tryd.f8.body.getD .skip
noncomputable def law08RecGets.con : Con := { ps := [(.slice (.int .u8)), (.int .i64)], rs := [.bool], f := fun n x => law08RecGets n x.1 x.2.1 }
noncomputable def law08RecGets.env : Env := { tys := [(4, ⟨.bool, 1⟩), (5, ⟨(.int .u8), 1⟩), (9, ⟨.str, 16⟩), (22, ⟨(.slice (.int .u8)), 24⟩)], elems := [(22, 5)], ptrs := [], cons := [(16, law08Fixed.con), (19, recGet.con), (21, ref08Get.con), (22, recScan.con), (23, ref08Scan.con), (24, ref08Same.con)], objs := [], loops := [], cuts := [], globs := globs, base := 0 }
noncomputable def law08RecGets.lp (n : Nat) : LP (Kd.struct law08RecGets.con.rs).T := fun lo κ body nm K s =>
  loops n (Kd.struct law08RecGets.con.rs).T lo κ body nm K s
theorem law08RecGets.eq (n : Nat) (x : (Kd.struct law08RecGets.con.ps).T) : evFunc law08RecGets.env Tryd.f8 law08RecGets.body law08RecGets.con.ps law08RecGets.con.rs (law08RecGets.lp n) n x = law08RecGets.con.f n x := by kernel_rfl
theorem law08RecGets.sound : Sound Tryd.prog globs 8 law08RecGets.con :=
  sound_by (E := law08RecGets.env) (c := law08RecGets.body) (envOk (G := globs) (lc := [(16, law08Fixed.con), (19, recGet.con), (21, ref08Get.con), (22, recScan.con), (23, ref08Scan.con), (24, ref08Same.con)]) (lo := []) (envB_spec (by kernel_rfl)) rfl rfl ⟨.inl ⟨law08Fixed.sound, by kernel_rfl⟩, ⟨.inl ⟨recGet.sound, by kernel_rfl⟩, ⟨.inl ⟨ref08Get.sound, by kernel_rfl⟩, ⟨.inl ⟨recScan.sound, by kernel_rfl⟩, ⟨.inl ⟨ref08Scan.sound, by kernel_rfl⟩, ⟨.inl ⟨ref08Same.sound, by kernel_rfl⟩, trivial⟩⟩⟩⟩⟩⟩ rfl trivial (by kernel_rfl) (by kernel_rfl)) Tryd.func8 (by kernel_rfl) law08RecGets.lp (l := []) (by kernel_rfl) (fun n => trivial) law08RecGets.eq
noncomputable def ref08Great.b5 (fu : Nat) (next : (List (List Int)) → Int → Int → Int → Option (Bool × Unit)) (k2 : Int → Option (Bool × Unit)) (l : List (List Int)) (n : Int) (v : Int) (vx2 : Int) : Option (Bool × Unit) :=
  cond (decide (vx2 < v)) (
    chk (ixOk l vx2) <|
    let e1 := ixL [] l vx2
    let t2 := min2 (e1.length : Int) (9000 : Int)
    let t3 := IntKind.i64.wrap (n + t2)
    let t4 := IntKind.i64.wrap (vx2 + (1 : Int))
    next l t3 v t4) (
    k2 n)
noncomputable def ref08Great.l5 (fu : Nat) (k2 : Int → Option (Bool × Unit)) : Nat → (List (List Int)) → Int → Int → Int → Option (Bool × Unit)
  | 0, _, _, _, _ => none
  | m + 1, l, n, v, vx2 => ref08Great.b5 fu (ref08Great.l5 fu k2 m) k2 l n v vx2
noncomputable def ref08Great (fu : Nat) (l : List (List Int)) : Option (Bool × Unit) :=
  let t1 := decide ((l.length : Int) > (200 : Int))
  cond t1 (
    some (true, ())) (
    ref08Great.l5 fu (fun nq2 => 
        let t2 := decide (nq2 > (8000 : Int))
        some (t2, ())) fu l (l.length : Int) (l.length : Int) (0 : Int))

noncomputable def ref08Great.body : Code := Tryd.f25.body.getD .skip
abbrev ref08Great.shl5 : Shp := ⟨[.d (.slice (.slice (.int .u8))), .u, .u, .d (.int .i64), .u, .u, .u, .u, .u, .u, .d (.int .i64), .d (.int .i64), .u, .u, .u, .u, .u, .u, .u, .u, .u, .u, .u, .u, .u], []⟩
abbrev ref08Great.outl5e2 : Shp := ⟨[.u, .u, .u, .d (.int .i64), .u, .u, .u, .u, .u, .u, .u, .u, .u, .u, .u, .u, .u, .u, .u, .u, .u, .u, .u, .u, .u], []⟩
noncomputable def ref08Great.nml5 : Norm := ⟨{ keep := [0, 3, 10, 11], shut := [(0, (.slice (.slice (.int .u8)))), (3, (.int .i64)), (10, (.int .i64)), (11, (.int .i64))], retag := [], heap := 0, dead := [], cshut := [], cretag := [] }, [(2, { keep := [3], shut := [(3, (.int .i64))], retag := [], heap := 0, dead := [], cshut := [], cretag := [] })]⟩
noncomputable def ref08Great.con : Con := { ps := [(.slice (.slice (.int .u8)))], rs := [.bool], f := fun n x => ref08Great n x.1 }
noncomputable def ref08Great.env : Env := { tys := [(4, ⟨.bool, 1⟩), (22, ⟨(.slice (.int .u8)), 24⟩), (3, ⟨(.int .i64), 8⟩), (5, ⟨(.int .u8), 1⟩)], elems := [(45, 22), (22, 5)], ptrs := [], cons := [], objs := [], loops := [(5, ref08Great.nml5)], cuts := [], globs := globs, base := 0 }
noncomputable def ref08Great.lp (n : Nat) : LP (Kd.struct ref08Great.con.rs).T := fun lo κ body nm K s =>
  cond (lo && Nat.beq κ 5)
    (match ref08Great.shl5.dec s with
    | some v => ref08Great.l5 n (fun w0 => K (.exit 0) (ref08Great.outl5e2.enc (w0, ()))) n v.1 v.2.1 v.2.2.1 v.2.2.2.1
    | none => loops n (Kd.struct ref08Great.con.rs).T lo κ body nm K s)
    (loops n (Kd.struct ref08Great.con.rs).T lo κ body nm K s)
theorem ref08Great.atl5 (n : Nat) (s : St) (K : Ex → St → Option (Kd.struct ref08Great.con.rs).T) : ref08Great.lp n true 5 (evK ref08Great.env (ref08Great.lp n) n (sub [1, 1, 1, 0, 1, 0, 0] ref08Great.body)) ref08Great.nml5 K s = loops n (Kd.struct ref08Great.con.rs).T true 5 (evK ref08Great.env (ref08Great.lp n) n (sub [1, 1, 1, 0, 1, 0, 0] ref08Great.body)) ref08Great.nml5 K s := by
  show (match ref08Great.shl5.dec s with | some v => ref08Great.l5 n (fun w0 => K (.exit 0) (ref08Great.outl5e2.enc (w0, ()))) n v.1 v.2.1 v.2.2.1 v.2.2.2.1 | none => loops n (Kd.struct ref08Great.con.rs).T true 5 (evK ref08Great.env (ref08Great.lp n) n (sub [1, 1, 1, 0, 1, 0, 0] ref08Great.body)) ref08Great.nml5 K s) = _
  cases h : ref08Great.shl5.dec s with
  | none => rfl
  | some v =>
    rw [Shp.dec_enc h]
    exact (evLoop_eq (sh := ref08Great.shl5) (body := evK ref08Great.env (ref08Great.lp n) n (sub [1, 1, 1, 0, 1, 0, 0] ref08Great.body)) (nm := ref08Great.nml5) (K := K) (b := fun nx v => ref08Great.b5 n (fun x0 x1 x2 x3 => nx (x0, x1, x2, x3, ())) (fun w0 => K (.exit 0) (ref08Great.outl5e2.enc (w0, ()))) v.1 v.2.1 v.2.2.1 v.2.2.2.1) (l := fun m v => ref08Great.l5 n (fun w0 => K (.exit 0) (ref08Great.outl5e2.enc (w0, ()))) m v.1 v.2.1 v.2.2.1 v.2.2.2.1) (fun _ => rfl) (fun _ _ => rfl) (fun m v => by kernel_rfl) n v).symm
theorem ref08Great.eq (n : Nat) (x : (Kd.struct ref08Great.con.ps).T) : evFunc ref08Great.env Tryd.f25 ref08Great.body ref08Great.con.ps ref08Great.con.rs (ref08Great.lp n) n x = ref08Great.con.f n x := by kernel_rfl
theorem ref08Great.sound : Sound Tryd.prog globs 25 ref08Great.con :=
  sound_by (E := ref08Great.env) (c := ref08Great.body) (envOk (G := globs) (lc := []) (lo := []) (envB_spec (by kernel_rfl)) rfl rfl trivial rfl trivial (by kernel_rfl) (by kernel_rfl)) Tryd.func25 (by kernel_rfl) ref08Great.lp (l := [(true, sub [1, 1, 1, 0, 1, 0, 0] ref08Great.body, ref08Great.nml5)]) (by kernel_rfl) (fun n => ⟨ref08Great.atl5 n, trivial⟩) ref08Great.eq
noncomputable def law08RecRow.b6 (fu : Nat) (next : (List (List Int)) → Int → (List Int) → (List Int) → (List (List Int)) → Int → Int → Option (Bool × Unit)) (k1 : Bool → Option (Bool × Unit)) (k2 : (List (List Int)) → Int → (List Int) → (List Int) → Option (Bool × Unit)) (l : List (List Int)) (n : Int) (b : List Int) (ends : List Int) (v : List (List Int)) (vx2 : Int) (vx3 : Int) : Option (Bool × Unit) :=
  cond (decide (vx3 < vx2)) (
    chk (ixOk v vx3) <|
    let e1 := ixL [] v vx3
    (recPut fu b e1).bind fun r2 =>
    cond (r2.2.1 != (0 : Int)) (
      k1 false) (
      chk (apOk ends ([(r2.1.length : Int)]) 8) <|
      let t3 := ends ++ ([(r2.1.length : Int)])
      let t4 := IntKind.i64.wrap (vx3 + (1 : Int))
      next l n r2.1 t3 v vx2 t4)) (
    k2 l n b ends)
noncomputable def law08RecRow.l6 (fu : Nat) (k1 : Bool → Option (Bool × Unit)) (k2 : (List (List Int)) → Int → (List Int) → (List Int) → Option (Bool × Unit)) : Nat → (List (List Int)) → Int → (List Int) → (List Int) → (List (List Int)) → Int → Int → Option (Bool × Unit)
  | 0, _, _, _, _, _, _, _ => none
  | m + 1, l, n, b, ends, v, vx2, vx3 => law08RecRow.b6 fu (law08RecRow.l6 fu k1 k2 m) k1 k2 l n b ends v vx2 vx3
noncomputable def law08RecRow.b17 (fu : Nat) (next : (List (List Int)) → (List Int) → Int → Int → Int → (List Int) → Int → Int → Option (Bool × Unit)) (k4 : (List (List Int)) → (List Int) → Int → Int → Int → Option (Bool × Unit)) (l : List (List Int)) (b : List Int) (kv : Int) (whole : Int) (atv : Int) (v : List Int) (vx2 : Int) (vx3 : Int) : Option (Bool × Unit) :=
  cond (decide (vx3 < vx2)) (
    chk (ixOk v vx3) <|
    let e1 := ixL (0 : Int) v vx3
    cond (decide (e1 ≤ kv)) (
      let t2 := IntKind.i64.wrap (whole + (1 : Int))
      let t3 := IntKind.i64.wrap (vx3 + (1 : Int))
      next l b kv t2 e1 v vx2 t3) (
      let t4 := IntKind.i64.wrap (vx3 + (1 : Int))
      next l b kv whole atv v vx2 t4)) (
    k4 l b kv whole atv)
noncomputable def law08RecRow.l17 (fu : Nat) (k4 : (List (List Int)) → (List Int) → Int → Int → Int → Option (Bool × Unit)) : Nat → (List (List Int)) → (List Int) → Int → Int → Int → (List Int) → Int → Int → Option (Bool × Unit)
  | 0, _, _, _, _, _, _, _, _ => none
  | m + 1, l, b, kv, whole, atv, v, vx2, vx3 => law08RecRow.b17 fu (law08RecRow.l17 fu k4 m) k4 l b kv whole atv v vx2 vx3
noncomputable def law08RecRow (fu : Nat) (l : List (List Int)) (n : Int) : Option (Bool × Unit) :=
  (ref08Great fu l).bind fun r1 =>
  cond r1.1 (
    (law08Fixed fu).bind fun r2 =>
    some (r2.1, ())) (
    law08RecRow.l6 fu (fun vq3 => 
        some (vq3, ())) (fun lq4 nq4 bq4 endsq4 => 
        let t3 := IntKind.i64.wrap ((bq4.length : Int) + (1 : Int))
        chk (t3 != 0) <|
        let t4 := Int.tmod (IntKind.i64.wrap nq4) t3
        law08RecRow.l17 fu (fun lq6 bq6 kvq6 wholeq6 atvq6 => 
            chk (cutOk bq6 (0 : Int) kvq6) <|
            (recScan fu (cutL bq6 (0 : Int) kvq6)).bind fun r5 =>
            (recScan fu bq6).bind fun r6 =>
            (law08Fixed fu).bind fun r7 =>
            cond r7.1 (
              (ref08Same fu r6.1 lq6).bind fun r8 =>
              cond r8.1 (
                let t9 := r6.2.1 == (bq6.length : Int)
                cond t9 (
                  chk (cutOk lq6 (0 : Int) wholeq6) <|
                  let t10 := cutL lq6 (0 : Int) wholeq6
                  (ref08Same fu r5.1 t10).bind fun r11 =>
                  cond r11.1 (
                    some (r5.2.1 == atvq6, ())) (
                    some (false, ()))) (
                  some (false, ()))) (
                some (false, ()))) (
              some (false, ()))) fu lq4 bq4 t4 (0 : Int) (0 : Int) endsq4 (endsq4.length : Int) (0 : Int)) fu l n [] [] l (l.length : Int) (0 : Int))

noncomputable def law08RecRow.body : Code := Tryd.f9.body.getD .skip
abbrev law08RecRow.shl6 : Shp := ⟨[.d (.slice (.slice (.int .u8))), .d (.int .u16), .u, .u, .u, .d (.slice (.int .u8)), .o 6 (.int .i64), .u, .u, .u, .u, .u, .u, .u, .u, .u, .u, .u, .u, .u, .u, .u, .u, .d (.slice (.slice (.int .u8))), .d (.int .i64), .d (.int .i64), .u, .u, .u, .u, .u, .u, .u, .u, .u, .u, .u, .u, .u, .u, .u, .u, .u, .u, .u, .u, .u, .u, .u, .u, .u, .u, .u, .u, .u, .u, .u, .u, .u, .u, .u, .u, .u, .u, .u, .u, .u, .u, .u, .u, .u, .u, .u, .u, .u, .u, .u, .u, .u, .u, .u, .u, .u, .u, .u, .u, .u, .u, .u, .u, .u, .u, .u, .u, .u, .u, .u, .u, .u], []⟩
abbrev law08RecRow.outl6e1 : Shp := ⟨[.u, .u, .u, .u, .d .bool, .u, .u, .u, .u, .u, .u, .u, .u, .u, .u, .u, .u, .u, .u, .u, .u, .u, .u, .u, .u, .u, .u, .u, .u, .u, .u, .u, .u, .u, .u, .u, .u, .u, .u, .u, .u, .u, .u, .u, .u, .u, .u, .u, .u, .u, .u, .u, .u, .u, .u, .u, .u, .u, .u, .u, .u, .u, .u, .u, .u, .u, .u, .u, .u, .u, .u, .u, .u, .u, .u, .u, .u, .u, .u, .u, .u, .u, .u, .u, .u, .u, .u, .u, .u, .u, .u, .u, .u, .u, .u, .u, .u, .u, .u], []⟩
abbrev law08RecRow.outl6e2 : Shp := ⟨[.d (.slice (.slice (.int .u8))), .d (.int .u16), .u, .u, .u, .d (.slice (.int .u8)), .o 6 (.int .i64), .u, .u, .u, .u, .u, .u, .u, .u, .u, .u, .u, .u, .u, .u, .u, .u, .u, .u, .u, .u, .u, .u, .u, .u, .u, .u, .u, .u, .u, .u, .u, .u, .u, .u, .u, .u, .u, .u, .u, .u, .u, .u, .u, .u, .u, .u, .u, .u, .u, .u, .u, .u, .u, .u, .u, .u, .u, .u, .u, .u, .u, .u, .u, .u, .u, .u, .u, .u, .u, .u, .u, .u, .u, .u, .u, .u, .u, .u, .u, .u, .u, .u, .u, .u, .u, .u, .u, .u, .u, .u, .u, .u], []⟩
noncomputable def law08RecRow.nml6 : Norm := ⟨{ keep := [0, 1, 5, 6, 23, 24, 25], shut := [(0, (.slice (.slice (.int .u8)))), (1, (.int .u16)), (5, (.slice (.int .u8))), (23, (.slice (.slice (.int .u8)))), (24, (.int .i64)), (25, (.int .i64))], retag := [(6, 6, (.int .i64))], heap := 0, dead := [], cshut := [], cretag := [] }, [(1, { keep := [4], shut := [(4, .bool)], retag := [], heap := 0, dead := [], cshut := [], cretag := [] }), (2, { keep := [0, 1, 5, 6], shut := [(0, (.slice (.slice (.int .u8)))), (1, (.int .u16)), (5, (.slice (.int .u8)))], retag := [(6, 6, (.int .i64))], heap := 0, dead := [], cshut := [], cretag := [] })]⟩
abbrev law08RecRow.shl17 : Shp := ⟨[.d (.slice (.slice (.int .u8))), .u, .u, .u, .u, .d (.slice (.int .u8)), .u, .u, .u, .u, .u, .d (.int .i64), .d (.int .i64), .d (.int .i64), .u, .u, .u, .u, .u, .u, .u, .u, .u, .u, .u, .u, .u, .u, .u, .u, .u, .u, .u, .u, .u, .u, .u, .u, .u, .u, .u, .u, .u, .u, .u, .u, .u, .u, .u, .u, .o 50 (.int .i64), .d (.int .i64), .d (.int .i64), .u, .u, .u, .u, .u, .u, .u, .u, .u, .u, .u, .u, .u, .u, .u, .u, .u, .u, .u, .u, .u, .u, .u, .u, .u, .u, .u, .u, .u, .u, .u, .u, .u, .u, .u, .u, .u, .u, .u, .u, .u, .u, .u, .u, .u, .u], []⟩
abbrev law08RecRow.outl17e4 : Shp := ⟨[.d (.slice (.slice (.int .u8))), .u, .u, .u, .u, .d (.slice (.int .u8)), .u, .u, .u, .u, .u, .d (.int .i64), .d (.int .i64), .d (.int .i64), .u, .u, .u, .u, .u, .u, .u, .u, .u, .u, .u, .u, .u, .u, .u, .u, .u, .u, .u, .u, .u, .u, .u, .u, .u, .u, .u, .u, .u, .u, .u, .u, .u, .u, .u, .u, .u, .u, .u, .u, .u, .u, .u, .u, .u, .u, .u, .u, .u, .u, .u, .u, .u, .u, .u, .u, .u, .u, .u, .u, .u, .u, .u, .u, .u, .u, .u, .u, .u, .u, .u, .u, .u, .u, .u, .u, .u, .u, .u, .u, .u, .u, .u, .u, .u], []⟩
noncomputable def law08RecRow.nml17 : Norm := ⟨{ keep := [0, 5, 11, 12, 13, 50, 51, 52], shut := [(0, (.slice (.slice (.int .u8)))), (5, (.slice (.int .u8))), (11, (.int .i64)), (12, (.int .i64)), (13, (.int .i64)), (51, (.int .i64)), (52, (.int .i64))], retag := [(50, 50, (.int .i64))], heap := 0, dead := [], cshut := [], cretag := [] }, [(4, { keep := [0, 5, 11, 12, 13], shut := [(0, (.slice (.slice (.int .u8)))), (5, (.slice (.int .u8))), (11, (.int .i64)), (12, (.int .i64)), (13, (.int .i64))], retag := [], heap := 0, dead := [], cshut := [], cretag := [] })]⟩
noncomputable def law08RecRow.con : Con := { ps := [(.slice (.slice (.int .u8))), (.int .u16)], rs := [.bool], f := fun n x => law08RecRow n x.1 x.2.1 }
noncomputable def law08RecRow.env : Env := { tys := [(4, ⟨.bool, 1⟩), (22, ⟨(.slice (.int .u8)), 24⟩), (51, ⟨(.slice (.int .i64)), 24⟩), (3, ⟨(.int .i64), 8⟩), (5, ⟨(.int .u8), 1⟩), (41, ⟨(.int .u16), 2⟩)], elems := [(45, 22), (22, 5), (51, 3)], ptrs := [], cons := [(25, ref08Great.con), (16, law08Fixed.con), (17, recPut.con), (22, recScan.con), (24, ref08Same.con)], objs := [], loops := [(6, law08RecRow.nml6), (17, law08RecRow.nml17)], cuts := [], globs := globs, base := 0 }
noncomputable def law08RecRow.lp (n : Nat) : LP (Kd.struct law08RecRow.con.rs).T := fun lo κ body nm K s =>
  cond (lo && Nat.beq κ 6)
    (match law08RecRow.shl6.dec s with
    | some v => law08RecRow.l6 n (fun w0 => K .ret (law08RecRow.outl6e1.enc (w0, ()))) (fun w0 w1 w2 w3 => K (.exit 0) (law08RecRow.outl6e2.enc (w0, w1, w2, w3, ()))) n v.1 v.2.1 v.2.2.1 v.2.2.2.1 v.2.2.2.2.1 v.2.2.2.2.2.1 v.2.2.2.2.2.2.1
    | none => loops n (Kd.struct law08RecRow.con.rs).T lo κ body nm K s)
    (cond (lo && Nat.beq κ 17)
    (match law08RecRow.shl17.dec s with
    | some v => law08RecRow.l17 n (fun w0 w1 w2 w3 w4 => K (.exit 2) (law08RecRow.outl17e4.enc (w0, w1, w2, w3, w4, ()))) n v.1 v.2.1 v.2.2.1 v.2.2.2.1 v.2.2.2.2.1 v.2.2.2.2.2.1 v.2.2.2.2.2.2.1 v.2.2.2.2.2.2.2.1
    | none => loops n (Kd.struct law08RecRow.con.rs).T lo κ body nm K s)
    (loops n (Kd.struct law08RecRow.con.rs).T lo κ body nm K s))
theorem law08RecRow.atl6 (n : Nat) (s : St) (K : Ex → St → Option (Kd.struct law08RecRow.con.rs).T) : law08RecRow.lp n true 6 (evK law08RecRow.env (law08RecRow.lp n) n (sub [1, 1, 1, 1, 0, 1, 0, 0] law08RecRow.body)) law08RecRow.nml6 K s = loops n (Kd.struct law08RecRow.con.rs).T true 6 (evK law08RecRow.env (law08RecRow.lp n) n (sub [1, 1, 1, 1, 0, 1, 0, 0] law08RecRow.body)) law08RecRow.nml6 K s := by
  show (match law08RecRow.shl6.dec s with | some v => law08RecRow.l6 n (fun w0 => K .ret (law08RecRow.outl6e1.enc (w0, ()))) (fun w0 w1 w2 w3 => K (.exit 0) (law08RecRow.outl6e2.enc (w0, w1, w2, w3, ()))) n v.1 v.2.1 v.2.2.1 v.2.2.2.1 v.2.2.2.2.1 v.2.2.2.2.2.1 v.2.2.2.2.2.2.1 | none => loops n (Kd.struct law08RecRow.con.rs).T true 6 (evK law08RecRow.env (law08RecRow.lp n) n (sub [1, 1, 1, 1, 0, 1, 0, 0] law08RecRow.body)) law08RecRow.nml6 K s) = _
  cases h : law08RecRow.shl6.dec s with
  | none => rfl
  | some v =>
    rw [Shp.dec_enc h]
    exact (evLoop_eq (sh := law08RecRow.shl6) (body := evK law08RecRow.env (law08RecRow.lp n) n (sub [1, 1, 1, 1, 0, 1, 0, 0] law08RecRow.body)) (nm := law08RecRow.nml6) (K := K) (b := fun nx v => law08RecRow.b6 n (fun x0 x1 x2 x3 x4 x5 x6 => nx (x0, x1, x2, x3, x4, x5, x6, ())) (fun w0 => K .ret (law08RecRow.outl6e1.enc (w0, ()))) (fun w0 w1 w2 w3 => K (.exit 0) (law08RecRow.outl6e2.enc (w0, w1, w2, w3, ()))) v.1 v.2.1 v.2.2.1 v.2.2.2.1 v.2.2.2.2.1 v.2.2.2.2.2.1 v.2.2.2.2.2.2.1) (l := fun m v => law08RecRow.l6 n (fun w0 => K .ret (law08RecRow.outl6e1.enc (w0, ()))) (fun w0 w1 w2 w3 => K (.exit 0) (law08RecRow.outl6e2.enc (w0, w1, w2, w3, ()))) m v.1 v.2.1 v.2.2.1 v.2.2.2.1 v.2.2.2.2.1 v.2.2.2.2.2.1 v.2.2.2.2.2.2.1) (fun _ => rfl) (fun _ _ => rfl) (fun m v => by kernel_rfl) n v).symm
theorem law08RecRow.atl17 (n : Nat) (s : St) (K : Ex → St → Option (Kd.struct law08RecRow.con.rs).T) : law08RecRow.lp n true 17 (evK law08RecRow.env (law08RecRow.lp n) n (sub [1, 1, 1, 1, 1, 1, 1, 0, 1, 0, 0] law08RecRow.body)) law08RecRow.nml17 K s = loops n (Kd.struct law08RecRow.con.rs).T true 17 (evK law08RecRow.env (law08RecRow.lp n) n (sub [1, 1, 1, 1, 1, 1, 1, 0, 1, 0, 0] law08RecRow.body)) law08RecRow.nml17 K s := by
  show (match law08RecRow.shl17.dec s with | some v => law08RecRow.l17 n (fun w0 w1 w2 w3 w4 => K (.exit 2) (law08RecRow.outl17e4.enc (w0, w1, w2, w3, w4, ()))) n v.1 v.2.1 v.2.2.1 v.2.2.2.1 v.2.2.2.2.1 v.2.2.2.2.2.1 v.2.2.2.2.2.2.1 v.2.2.2.2.2.2.2.1 | none => loops n (Kd.struct law08RecRow.con.rs).T true 17 (evK law08RecRow.env (law08RecRow.lp n) n (sub [1, 1, 1, 1, 1, 1, 1, 0, 1, 0, 0] law08RecRow.body)) law08RecRow.nml17 K s) = _
  cases h : law08RecRow.shl17.dec s with
  | none => rfl
  | some v =>
    rw [Shp.dec_enc h]
    exact (evLoop_eq (sh := law08RecRow.shl17) (body := evK law08RecRow.env (law08RecRow.lp n) n (sub [1, 1, 1, 1, 1, 1, 1, 0, 1, 0, 0] law08RecRow.body)) (nm := law08RecRow.nml17) (K := K) (b := fun nx v => law08RecRow.b17 n (fun x0 x1 x2 x3 x4 x5 x6 x7 => nx (x0, x1, x2, x3, x4, x5, x6, x7, ())) (fun w0 w1 w2 w3 w4 => K (.exit 2) (law08RecRow.outl17e4.enc (w0, w1, w2, w3, w4, ()))) v.1 v.2.1 v.2.2.1 v.2.2.2.1 v.2.2.2.2.1 v.2.2.2.2.2.1 v.2.2.2.2.2.2.1 v.2.2.2.2.2.2.2.1) (l := fun m v => law08RecRow.l17 n (fun w0 w1 w2 w3 w4 => K (.exit 2) (law08RecRow.outl17e4.enc (w0, w1, w2, w3, w4, ()))) m v.1 v.2.1 v.2.2.1 v.2.2.2.1 v.2.2.2.2.1 v.2.2.2.2.2.1 v.2.2.2.2.2.2.1 v.2.2.2.2.2.2.2.1) (fun _ => rfl) (fun _ _ => rfl) (fun m v => by kernel_rfl) n v).symm
theorem law08RecRow.eq (n : Nat) (x : (Kd.struct law08RecRow.con.ps).T) : evFunc law08RecRow.env Tryd.f9 law08RecRow.body law08RecRow.con.ps law08RecRow.con.rs (law08RecRow.lp n) n x = law08RecRow.con.f n x := by kernel_rfl
theorem law08RecRow.sound : Sound Tryd.prog globs 9 law08RecRow.con :=
  sound_by (E := law08RecRow.env) (c := law08RecRow.body) (envOk (G := globs) (lc := [(25, ref08Great.con), (16, law08Fixed.con), (17, recPut.con), (22, recScan.con), (24, ref08Same.con)]) (lo := []) (envB_spec (by kernel_rfl)) rfl rfl ⟨.inl ⟨ref08Great.sound, by kernel_rfl⟩, ⟨.inl ⟨law08Fixed.sound, by kernel_rfl⟩, ⟨.inl ⟨recPut.sound, by kernel_rfl⟩, ⟨.inl ⟨recScan.sound, by kernel_rfl⟩, ⟨.inl ⟨ref08Same.sound, by kernel_rfl⟩, trivial⟩⟩⟩⟩⟩ rfl trivial (by kernel_rfl) (by kernel_rfl)) Tryd.func9 (by kernel_rfl) law08RecRow.lp (l := [(true, sub [1, 1, 1, 1, 0, 1, 0, 0] law08RecRow.body, law08RecRow.nml6), (true, sub [1, 1, 1, 1, 1, 1, 1, 0, 1, 0, 0] law08RecRow.body, law08RecRow.nml17)]) (by kernel_rfl) (fun n => ⟨law08RecRow.atl6 n, ⟨law08RecRow.atl17 n, trivial⟩⟩) law08RecRow.eq
end
end Go.Shal.Pr
