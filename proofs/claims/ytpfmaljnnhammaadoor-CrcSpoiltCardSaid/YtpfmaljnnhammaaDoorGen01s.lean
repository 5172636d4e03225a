/- Prints of functions, and proofs that they are what the code computes. By an AI agent. -/
import Derived.Test.YtpfmaljnnhammaaDoorShD
import Derived.Test.YtpfmaljnnhammaaDoorProg
set_option linter.unusedVariables false
set_option maxRecDepth 100000
namespace Go.Shal.Pr
open Go Go.Shal Go.Proofs
noncomputable section
def tabCrcHalves : List Int := [0, 498536548, 997073096, 651767980, 1994146192, 1802195444, 1303535960, 1342533948, 3988292384, 4027552580, 3604390888, 3412177804, 2607071920, 2262029012, 2685067896, 3183342108]
def globs : Globs := [(0, ⟨(.arr 16 (.int .u32)), tabCrcHalves⟩)]

noncomputable def crcCarry.b2 (fu : Nat) (next : Int → (List Int) → Int → Int → Option (Int × Unit)) (k2 : Int → Option (Int × Unit)) (row : Int) (v : List Int) (vx2 : Int) (vx3 : Int) : Option (Int × Unit) :=
  cond (decide (vx3 < vx2)) (
    chk (ixOk v vx3) <|
    let e1 := ixL (0 : Int) v vx3
    let t2 := bXor .u32 row (IntKind.u32.wrap e1)
    chk (ixArr 16 (bAnd .u32 t2 (15 : Int))) <|
    let e3 := ixL (0 : Int) tabCrcHalves (bAnd .u32 t2 (15 : Int))
    let t4 := bXor .u32 (sShr .u32 t2 (4 : Int)) e3
    chk (ixArr 16 (bAnd .u32 t4 (15 : Int))) <|
    let e5 := ixL (0 : Int) tabCrcHalves (bAnd .u32 t4 (15 : Int))
    let t6 := bXor .u32 (sShr .u32 t4 (4 : Int)) e5
    let t7 := IntKind.i64.wrap (vx3 + (1 : Int))
    next t6 v vx2 t7) (
    k2 row)
noncomputable def crcCarry.l2 (fu : Nat) (k2 : Int → Option (Int × Unit)) : Nat → Int → (List Int) → Int → Int → Option (Int × Unit)
  | 0, _, _, _, _ => none
  | m + 1, row, v, vx2, vx3 => crcCarry.b2 fu (crcCarry.l2 fu k2 m) k2 row v vx2 vx3
noncomputable def crcCarry (fu : Nat) (row : Int) (b : List Int) : Option (Int × Unit) :=
  crcCarry.l2 fu (fun rowq2 => 
      some (rowq2, ())) fu row b (b.length : Int) (0 : Int)

noncomputable def crcCarry.body : Code := Tryd.f27.body.getD .skip
abbrev crcCarry.shl2 : Shp := ⟨[.d (.int .u32), .u, .u, .u, .u, .u, .u, .d (.slice (.int .u8)), .d (.int .i64), .d (.int .i64), .u, .u, .u, .u, .u, .u, .u, .u, .u, .u, .u, .u, .u, .u, .u, .u, .u, .u, .u, .u, .u, .u, .u], []⟩
abbrev crcCarry.outl2e2 : Shp := ⟨[.d (.int .u32), .u, .u, .u, .u, .u, .u, .u, .u, .u, .u, .u, .u, .u, .u, .u, .u, .u, .u, .u, .u, .u, .u, .u, .u, .u, .u, .u, .u, .u, .u, .u, .u], []⟩
noncomputable def crcCarry.nml2 : Norm := ⟨{ keep := [0, 7, 8, 9], shut := [(0, (.int .u32)), (7, (.slice (.int .u8))), (8, (.int .i64)), (9, (.int .i64))], retag := [], heap := 0, dead := [], cshut := [], cretag := [] }, [(2, { keep := [0], shut := [(0, (.int .u32))], retag := [], heap := 0, dead := [], cshut := [], cretag := [] })]⟩
noncomputable def crcCarry.con : Con := { ps := [(.int .u32), (.slice (.int .u8))], rs := [(.int .u32)], f := fun n x => crcCarry n x.1 x.2.1 }
noncomputable def crcCarry.env : Env := { tys := [(23, ⟨(.int .u32), 4⟩), (5, ⟨(.int .u8), 1⟩), (3, ⟨(.int .i64), 8⟩), (61, ⟨(.arr 16 (.int .u32)), 64⟩)], elems := [(22, 5)], ptrs := [], cons := [], objs := [], loops := [(2, crcCarry.nml2)], cuts := [], globs := globs, base := 0 }
noncomputable def crcCarry.lp (n : Nat) : LP (Kd.struct crcCarry.con.rs).T := fun lo κ body nm K s =>
  cond (lo && Nat.beq κ 2)
    (match crcCarry.shl2.dec s with
    | some v => crcCarry.l2 n (fun w0 => K (.exit 0) (crcCarry.outl2e2.enc (w0, ()))) n v.1 v.2.1 v.2.2.1 v.2.2.2.1
    | none => loops n (Kd.struct crcCarry.con.rs).T lo κ body nm K s)
    (loops n (Kd.struct crcCarry.con.rs).T lo κ body nm K s)
theorem crcCarry.atl2 (n : Nat) (s : St) (K : Ex → St → Option (Kd.struct crcCarry.con.rs).T) : (crcCarry.lp n) true 2 (evK crcCarry.env (crcCarry.lp n) n (sub [1, 0, 1, 0, 0] crcCarry.body)) crcCarry.nml2 K s = loops n (Kd.struct crcCarry.con.rs).T true 2 (evK crcCarry.env (crcCarry.lp n) n (sub [1, 0, 1, 0, 0] crcCarry.body)) crcCarry.nml2 K s := by
  show (match crcCarry.shl2.dec s with | some v => crcCarry.l2 n (fun w0 => K (.exit 0) (crcCarry.outl2e2.enc (w0, ()))) n v.1 v.2.1 v.2.2.1 v.2.2.2.1 | none => loops n (Kd.struct crcCarry.con.rs).T true 2 (evK crcCarry.env (crcCarry.lp n) n (sub [1, 0, 1, 0, 0] crcCarry.body)) crcCarry.nml2 K s) = _
  cases h : crcCarry.shl2.dec s with
  | none => rfl
  | some v =>
    rw [Shp.dec_enc h]
    exact (evLoop_eq (sh := crcCarry.shl2) (body := evK crcCarry.env (crcCarry.lp n) n (sub [1, 0, 1, 0, 0] crcCarry.body)) (nm := crcCarry.nml2) (K := K) (b := fun nx v => crcCarry.b2 n (fun x0 x1 x2 x3 => nx (x0, x1, x2, x3, ())) (fun w0 => K (.exit 0) (crcCarry.outl2e2.enc (w0, ()))) v.1 v.2.1 v.2.2.1 v.2.2.2.1) (l := fun m v => crcCarry.l2 n (fun w0 => K (.exit 0) (crcCarry.outl2e2.enc (w0, ()))) m v.1 v.2.1 v.2.2.1 v.2.2.2.1) (fun _ => rfl) (fun _ _ => rfl) (fun m v => by kernel_rfl) n v).symm
theorem crcCarry.eq (n : Nat) (x : (Kd.struct crcCarry.con.ps).T) : evFunc crcCarry.env Tryd.f27 crcCarry.body crcCarry.con.ps crcCarry.con.rs (crcCarry.lp n) n x = crcCarry.con.f n x := by kernel_rfl
theorem crcCarry.sound : Sound Tryd.prog globs 27 crcCarry.con :=
  sound_by (E := crcCarry.env) (c := crcCarry.body) (envOk (G := globs) (lc := []) (lo := []) (envB_spec (by kernel_rfl)) rfl rfl trivial rfl trivial (by kernel_rfl) (by kernel_rfl)) Tryd.func27 (by kernel_rfl) crcCarry.lp (l := [(true, sub [1, 0, 1, 0, 0] crcCarry.body, crcCarry.nml2)]) (by kernel_rfl) (fun n => ⟨crcCarry.atl2 n, trivial⟩) crcCarry.eq
noncomputable def crcMore (fu : Nat) (sum : Int) (b : List Int) : Option (Int × Unit) :=
  (crcCarry fu (bNot .u32 sum) b).bind fun r1 =>
  some (bNot .u32 r1.1, ())

noncomputable def crcMore.body : Code := Tryd.f13.body.getD .skip
noncomputable def crcMore.con : Con := { ps := [(.int .u32), (.slice (.int .u8))], rs := [(.int .u32)], f := fun n x => crcMore n x.1 x.2.1 }
noncomputable def crcMore.env : Env := { tys := [(23, ⟨(.int .u32), 4⟩)], elems := [], ptrs := [], cons := [(27, crcCarry.con)], objs := [], loops := [], cuts := [], globs := globs, base := 0 }
noncomputable def crcMore.lp (n : Nat) : LP (Kd.struct crcMore.con.rs).T := fun lo κ body nm K s =>
  loops n (Kd.struct crcMore.con.rs).T lo κ body nm K s
theorem crcMore.eq (n : Nat) (x : (Kd.struct crcMore.con.ps).T) : evFunc crcMore.env Tryd.f13 crcMore.body crcMore.con.ps crcMore.con.rs (crcMore.lp n) n x = crcMore.con.f n x := by kernel_rfl
theorem crcMore.sound : Sound Tryd.prog globs 13 crcMore.con :=
  sound_by (E := crcMore.env) (c := crcMore.body) (envOk (G := globs) (lc := [(27, crcCarry.con)]) (lo := []) (envB_spec (by kernel_rfl)) rfl rfl ⟨.inl ⟨crcCarry.sound, by kernel_rfl⟩, trivial⟩ rfl trivial (by kernel_rfl) (by kernel_rfl)) Tryd.func13 (by kernel_rfl) crcMore.lp (l := []) (by kernel_rfl) (fun n => trivial) crcMore.eq
noncomputable def crcSum (fu : Nat) (b : List Int) : Option (Int × Unit) :=
  (crcMore fu (0 : Int) b).bind fun r1 =>
  some (r1.1, ())

noncomputable def crcSum.body : Code := Tryd.f11.body.getD .skip
noncomputable def crcSum.con : Con := { ps := [(.slice (.int .u8))], rs := [(.int .u32)], f := fun n x => crcSum n x.1 }
noncomputable def crcSum.env : Env := { tys := [(23, ⟨(.int .u32), 4⟩)], elems := [], ptrs := [], cons := [(13, crcMore.con)], objs := [], loops := [], cuts := [], globs := globs, base := 0 }
noncomputable def crcSum.lp (n : Nat) : LP (Kd.struct crcSum.con.rs).T := fun lo κ body nm K s =>
  loops n (Kd.struct crcSum.con.rs).T lo κ body nm K s
theorem crcSum.eq (n : Nat) (x : (Kd.struct crcSum.con.ps).T) : evFunc crcSum.env Tryd.f11 crcSum.body crcSum.con.ps crcSum.con.rs (crcSum.lp n) n x = crcSum.con.f n x := by kernel_rfl
theorem crcSum.sound : Sound Tryd.prog globs 11 crcSum.con :=
  sound_by (E := crcSum.env) (c := crcSum.body) (envOk (G := globs) (lc := [(13, crcMore.con)]) (lo := []) (envB_spec (by kernel_rfl)) rfl rfl ⟨.inl ⟨crcMore.sound, by kernel_rfl⟩, trivial⟩ rfl trivial (by kernel_rfl) (by kernel_rfl)) Tryd.func11 (by kernel_rfl) crcSum.lp (l := []) (by kernel_rfl) (fun n => trivial) crcSum.eq
noncomputable def law01Fixed (fu : Nat) : Option (Bool × Unit) :=
  let t1 := [(49 : Int), (50 : Int), (51 : Int), (52 : Int), (53 : Int), (54 : Int), (55 : Int), (56 : Int), (57 : Int)]
  (crcSum fu t1).bind fun r2 =>
  let t3 := r2.1 == (3421780262 : Int)
  cond t3 (
    (crcSum fu []).bind fun r4 =>
    some (r4.1 == (0 : Int), ())) (
    some (false, ()))

noncomputable def law01Fixed.body : Code := Tryd.f10.body.getD .skip
noncomputable def law01Fixed.con : Con := { ps := [], rs := [.bool], f := fun n x => law01Fixed n }
noncomputable def law01Fixed.env : Env := { tys := [(4, ⟨.bool, 1⟩), (5, ⟨(.int .u8), 1⟩), (22, ⟨(.slice (.int .u8)), 24⟩)], elems := [(22, 5)], ptrs := [], cons := [(11, crcSum.con)], objs := [], loops := [], cuts := [], globs := globs, base := 0 }
noncomputable def law01Fixed.lp (n : Nat) : LP (Kd.struct law01Fixed.con.rs).T := fun lo κ body nm K s =>
  loops n (Kd.struct law01Fixed.con.rs).T lo κ body nm K s
theorem law01Fixed.eq (n : Nat) (x : (Kd.struct law01Fixed.con.ps).T) : evFunc law01Fixed.env Tryd.f10 law01Fixed.body law01Fixed.con.ps law01Fixed.con.rs (law01Fixed.lp n) n x = law01Fixed.con.f n x := by kernel_rfl
theorem law01Fixed.sound : Sound Tryd.prog globs 10 law01Fixed.con :=
  sound_by (E := law01Fixed.env) (c := law01Fixed.body) (envOk (G := globs) (lc := [(11, crcSum.con)]) (lo := []) (envB_spec (by kernel_rfl)) rfl rfl ⟨.inl ⟨crcSum.sound, by kernel_rfl⟩, trivial⟩ rfl trivial (by kernel_rfl) (by kernel_rfl)) Tryd.func10 (by kernel_rfl) law01Fixed.lp (l := []) (by kernel_rfl) (fun n => trivial) law01Fixed.eq
noncomputable def law01CrcSpoilt.b5 (fu : Nat) (next : (List Int) → Int → Nat → (List Int) → Int → (List Int) → Option (Bool × Unit)) (k2 : (List Int) → Nat → (List Int) → Option (Bool × Unit)) (b : List Int) (atv : Int) (nc : Nat) (v : List Int) (vx2 : Int) (c1 : List Int) : Option (Bool × Unit) :=
  cond (decide (vx2 < (4 : Int))) (
    chk (ixArr 4 vx2) <|
    let t1 := IntKind.i64.wrap (atv + vx2)
    chk (ixArr nc t1) <|
    chk (nOk c1 nc) <|
    let t2 := bXor .u8 (ixL (0 : Int) c1 t1) (ixL (0 : Int) v vx2)
    chk (ixArr nc t1) <|
    chk (nOk c1 nc) <|
    let w3 := stL c1 t1 t2
    let t4 := IntKind.i64.wrap (vx2 + (1 : Int))
    next b atv nc v t4 w3) (
    k2 b nc c1)
noncomputable def law01CrcSpoilt.l5 (fu : Nat) (k2 : (List Int) → Nat → (List Int) → Option (Bool × Unit)) : Nat → (List Int) → Int → Nat → (List Int) → Int → (List Int) → Option (Bool × Unit)
  | 0, _, _, _, _, _, _ => none
  | m + 1, b, atv, nc, v, vx2, c1 => law01CrcSpoilt.b5 fu (law01CrcSpoilt.l5 fu k2 m) k2 b atv nc v vx2 c1
noncomputable def law01CrcSpoilt (fu : Nat) (b : List Int) (atv : Int) (byv : List Int) : Option (Bool × Unit) :=
  let t1 := decide ((b.length : Int) > (5000 : Int))
  cond t1 (
    (law01Fixed fu).bind fun r2 =>
    some (r2.1, ())) (
    let t3 := [List.getD byv 0 (0 : Int), List.getD byv 1 (0 : Int), List.getD byv 2 (0 : Int), List.getD byv 3 (0 : Int)]
    let t4 := [(0 : Int), (0 : Int), (0 : Int), (0 : Int)]
    cond (t3 == t4) (
      (law01Fixed fu).bind fun r5 =>
      some (r5.1, ())) (
      let t6 := decide ((b.length : Int) < (4 : Int))
      cond t6 (
        (law01Fixed fu).bind fun r7 =>
        some (r7.1, ())) (
        cond (decide (atv < (0 : Int))) (
          (law01Fixed fu).bind fun r8 =>
          some (r8.1, ())) (
          let t9 := IntKind.i64.wrap ((b.length : Int) - (4 : Int))
          cond (decide (atv > t9)) (
            (law01Fixed fu).bind fun r10 =>
            some (r10.1, ())) (
            chk (apNew b 1) <|
            let t11 := [List.getD byv 0 (0 : Int), List.getD byv 1 (0 : Int), List.getD byv 2 (0 : Int), List.getD byv 3 (0 : Int)]
            law01CrcSpoilt.l5 fu (fun bq2 ncq2 c1q2 => 
                (law01Fixed fu).bind fun r12 =>
                cond r12.1 (
                  chk (nOk c1q2 ncq2 && true) <|
                  (crcSum fu c1q2).bind fun r13 =>
                  (crcSum fu bq2).bind fun r14 =>
                  some (r13.1 != r14.1, ())) (
                  some (false, ()))) fu b atv b.length t11 (0 : Int) b)))))

noncomputable def law01CrcSpoilt.body : Code := Tryd.f4.body.getD .skip
abbrev law01CrcSpoilt.shl5 : Shp := ⟨[.d (.slice (.int .u8)), .d (.int .i64), .u, .u, .u, .u, .u, .sn 1 (.int .u8), .u, .u, .u, .u, .u, .u, .u, .u, .u, .u, .u, .u, .u, .u, .u, .u, .u, .u, .u, .u, .u, .u, .u, .u, .u, .u, .u, .u, .u, .u, .d (.arr 4 (.int .u8)), .d (.int .i64), .u, .u, .u, .u, .u, .u, .u, .u, .u, .u, .u, .u, .u, .u, .u, .u, .u, .u, .u, .u, .u], [.c [.u, .u, .u, .u], .a (.int .u8)]⟩
abbrev law01CrcSpoilt.outl5e2 : Shp := ⟨[.d (.slice (.int .u8)), .u, .u, .u, .u, .u, .u, .sn 1 (.int .u8), .u, .u, .u, .u, .u, .u, .u, .u, .u, .u, .u, .u, .u, .u, .u, .u, .u, .u, .u, .u, .u, .u, .u, .u, .u, .u, .u, .u, .u, .u, .u, .u, .u, .u, .u, .u, .u, .u, .u, .u, .u, .u, .u, .u, .u, .u, .u, .u, .u, .u, .u, .u, .u], [.c [.u, .u, .u, .u], .a (.int .u8)]⟩
noncomputable def law01CrcSpoilt.nml5 : Norm := ⟨{ keep := [0, 1, 7, 38, 39], shut := [(0, (.slice (.int .u8))), (1, (.int .i64)), (38, (.arr 4 (.int .u8))), (39, (.int .i64))], retag := [], heap := 2, dead := [0], cshut := [], cretag := [] }, [(2, { keep := [0, 7], shut := [(0, (.slice (.int .u8)))], retag := [], heap := 2, dead := [0], cshut := [], cretag := [] })]⟩
noncomputable def law01CrcSpoilt.con : Con := { ps := [(.slice (.int .u8)), (.int .i64), (.arr 4 (.int .u8))], rs := [.bool], f := fun n x => law01CrcSpoilt n x.1 x.2.1 x.2.2.1 }
noncomputable def law01CrcSpoilt.env : Env := { tys := [(28, ⟨(.arr 4 (.int .u8)), 4⟩), (4, ⟨.bool, 1⟩), (5, ⟨(.int .u8), 1⟩), (3, ⟨(.int .i64), 8⟩)], elems := [(22, 5)], ptrs := [], cons := [(10, law01Fixed.con), (11, crcSum.con)], objs := [], loops := [(5, law01CrcSpoilt.nml5)], cuts := [], globs := globs, base := 0, muts := [37] }
noncomputable def law01CrcSpoilt.lp (n : Nat) : LP (Kd.struct law01CrcSpoilt.con.rs).T := fun lo κ body nm K s =>
  cond (lo && Nat.beq κ 5)
    (match law01CrcSpoilt.shl5.dec s with
    | some v => law01CrcSpoilt.l5 n (fun w0 w1 w2 => K (.exit 0) (law01CrcSpoilt.outl5e2.enc (w0, w1, w2, ()))) n v.1 v.2.1 v.2.2.1 v.2.2.2.1 v.2.2.2.2.1 v.2.2.2.2.2.1
    | none => loops n (Kd.struct law01CrcSpoilt.con.rs).T lo κ body nm K s)
    (loops n (Kd.struct law01CrcSpoilt.con.rs).T lo κ body nm K s)
theorem law01CrcSpoilt.atl5 (n : Nat) (s : St) (K : Ex → St → Option (Kd.struct law01CrcSpoilt.con.rs).T) : (law01CrcSpoilt.lp n) true 5 (evK law01CrcSpoilt.env (law01CrcSpoilt.lp n) n (sub [1, 1, 1, 0, 1, 0, 0] law01CrcSpoilt.body)) law01CrcSpoilt.nml5 K s = loops n (Kd.struct law01CrcSpoilt.con.rs).T true 5 (evK law01CrcSpoilt.env (law01CrcSpoilt.lp n) n (sub [1, 1, 1, 0, 1, 0, 0] law01CrcSpoilt.body)) law01CrcSpoilt.nml5 K s := by
  show (match law01CrcSpoilt.shl5.dec s with | some v => law01CrcSpoilt.l5 n (fun w0 w1 w2 => K (.exit 0) (law01CrcSpoilt.outl5e2.enc (w0, w1, w2, ()))) n v.1 v.2.1 v.2.2.1 v.2.2.2.1 v.2.2.2.2.1 v.2.2.2.2.2.1 | none => loops n (Kd.struct law01CrcSpoilt.con.rs).T true 5 (evK law01CrcSpoilt.env (law01CrcSpoilt.lp n) n (sub [1, 1, 1, 0, 1, 0, 0] law01CrcSpoilt.body)) law01CrcSpoilt.nml5 K s) = _
  cases h : law01CrcSpoilt.shl5.dec s with
  | none => rfl
  | some v =>
    rw [Shp.dec_enc h]
    exact (evLoop_eq (sh := law01CrcSpoilt.shl5) (body := evK law01CrcSpoilt.env (law01CrcSpoilt.lp n) n (sub [1, 1, 1, 0, 1, 0, 0] law01CrcSpoilt.body)) (nm := law01CrcSpoilt.nml5) (K := K) (b := fun nx v => law01CrcSpoilt.b5 n (fun x0 x1 x2 x3 x4 x5 => nx (x0, x1, x2, x3, x4, x5, ())) (fun w0 w1 w2 => K (.exit 0) (law01CrcSpoilt.outl5e2.enc (w0, w1, w2, ()))) v.1 v.2.1 v.2.2.1 v.2.2.2.1 v.2.2.2.2.1 v.2.2.2.2.2.1) (l := fun m v => law01CrcSpoilt.l5 n (fun w0 w1 w2 => K (.exit 0) (law01CrcSpoilt.outl5e2.enc (w0, w1, w2, ()))) m v.1 v.2.1 v.2.2.1 v.2.2.2.1 v.2.2.2.2.1 v.2.2.2.2.2.1) (fun _ => rfl) (fun _ _ => rfl) (fun m v => by kernel_rfl) n v).symm
theorem law01CrcSpoilt.eq (n : Nat) (x : (Kd.struct law01CrcSpoilt.con.ps).T) : evFunc law01CrcSpoilt.env Tryd.f4 law01CrcSpoilt.body law01CrcSpoilt.con.ps law01CrcSpoilt.con.rs (law01CrcSpoilt.lp n) n x = law01CrcSpoilt.con.f n x := by kernel_rfl
theorem law01CrcSpoilt.sound : Sound Tryd.prog globs 4 law01CrcSpoilt.con :=
  sound_by (E := law01CrcSpoilt.env) (c := law01CrcSpoilt.body) (envOk (G := globs) (lc := [(10, law01Fixed.con), (11, crcSum.con)]) (lo := []) (envB_spec (by kernel_rfl)) rfl rfl ⟨.inl ⟨law01Fixed.sound, by kernel_rfl⟩, ⟨.inl ⟨crcSum.sound, by kernel_rfl⟩, trivial⟩⟩ rfl trivial (by kernel_rfl) (by kernel_rfl)) Tryd.func4 (by kernel_rfl) law01CrcSpoilt.lp (l := [(true, sub [1, 1, 1, 0, 1, 0, 0] law01CrcSpoilt.body, law01CrcSpoilt.nml5)]) (by kernel_rfl) (fun n => ⟨law01CrcSpoilt.atl5 n, trivial⟩) law01CrcSpoilt.eq
end
end Go.Shal.Pr
