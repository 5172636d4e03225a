/- Prints of functions, and proofs that they are what the code computes. By an AI agent. -/
import Derived.Test.YtpfmaljnnhammaaDoorShD
import Derived.Test.YtpfmaljnnhammaaDoorProg
set_option linter.unusedVariables false
set_option maxRecDepth 100000
namespace Go.Shal.Pr
open Go Go.Shal Go.Proofs
noncomputable section
def tabCrcHalves : List Int := [0, 498536548, 997073096, 651767980, 1994146192, 1802195444, 1303535960, 1342533948, 3988292384, 4027552580, 3604390888, 3412177804, 2607071920, 2262029012, 2685067896, 3183342108]
def globs : Globs := [(0, ⟨(.arr 16 (.int .u32)), tabCrcHalves⟩)]

noncomputable def recSize (fu : Nat) (record : List Int) : Option (Int × Unit) :=
  let t1 := IntKind.i64.wrap ((8 : Int) + (record.length : Int))
  some (t1, ())

noncomputable def recSize.body : Code := Tryd.f20.body.getD .skip
noncomputable def recSize.con : Con := { ps := [(.slice (.int .u8))], rs := [(.int .i64)], f := fun n x => recSize n x.1 }
noncomputable def recSize.env : Env := { tys := [(3, ⟨(.int .i64), 8⟩), (5, ⟨(.int .u8), 1⟩)], elems := [(22, 5)], ptrs := [], cons := [], objs := [], loops := [], cuts := [], globs := globs, base := 0 }
noncomputable def recSize.lp (n : Nat) : LP (Kd.struct recSize.con.rs).T := fun lo κ body nm K s =>
  loops n (Kd.struct recSize.con.rs).T lo κ body nm K s
theorem recSize.eq (n : Nat) (x : (Kd.struct recSize.con.ps).T) : evFunc recSize.env Tryd.f20 recSize.body recSize.con.ps recSize.con.rs (recSize.lp n) n x = recSize.con.f n x := by kernel_rfl
theorem recSize.sound : Sound Tryd.prog globs 20 recSize.con :=
  sound_by (E := recSize.env) (c := recSize.body) (envOk (G := globs) (lc := []) (lo := []) (envB_spec (by kernel_rfl)) rfl rfl trivial rfl trivial (by kernel_rfl) (by kernel_rfl)) Tryd.func20 (by kernel_rfl) recSize.lp (l := []) (by kernel_rfl) (fun n => trivial) recSize.eq
noncomputable def crcCarry.b2 (fu : Nat) (next : Int → (List Int) → Int → Int → Option (Int × Unit)) (k2 : Int → Option (Int × Unit)) (row : Int) (v : List Int) (vx2 : Int) (vx3 : Int) : Option (Int × Unit) :=
  cond (decide (vx3 < vx2)) (
    chk (ixOk v vx3) <|
    let e1 := ixL (0 : Int) v vx3
    let t2 := bXor .u32 row (IntKind.u32.wrap e1)
    chk (ixArr 16 (bAnd .u32 t2 (15 : Int))) <|
    let e3 := ixL (0 : Int) tabCrcHalves (bAnd .u32 t2 (15 : Int))
    let t4 := bXor .u32 (sShr .u32 t2 (4 : Int)) e3
    chk (ixArr 16 (bAnd .u32 t4 (15 : Int))) <|
    let e5 := ixL (0 : Int) tabCrcHalves (bAnd .u32 t4 (15 : Int))
    let t6 := bXor .u32 (sShr .u32 t4 (4 : Int)) e5
    let t7 := IntKind.i64.wrap (vx3 + (1 : Int))
    next t6 v vx2 t7) (
    k2 row)
noncomputable def crcCarry.l2 (fu : Nat) (k2 : Int → Option (Int × Unit)) : Nat → Int → (List Int) → Int → Int → Option (Int × Unit)
  | 0, _, _, _, _ => none
  | m + 1, row, v, vx2, vx3 => crcCarry.b2 fu (crcCarry.l2 fu k2 m) k2 row v vx2 vx3
noncomputable def crcCarry (fu : Nat) (row : Int) (b : List Int) : Option (Int × Unit) :=
  crcCarry.l2 fu (fun rowq2 => 
      some (rowq2, ())) fu row b (b.length : Int) (0 : Int)

noncomputable def crcCarry.body : Code := Tryd.f27.body.getD .skip
abbrev crcCarry.shl2 : Shp := ⟨[.d (.int .u32), .u, .u, .u, .u, .u, .u, .d (.slice (.int .u8)), .d (.int .i64), .d (.int .i64), .u, .u, .u, .u, .u, .u, .u, .u, .u, .u, .u, .u, .u, .u, .u, .u, .u, .u, .u, .u, .u, .u, .u], []⟩
abbrev crcCarry.outl2e2 : Shp := ⟨[.d (.int .u32), .u, .u, .u, .u, .u, .u, .u, .u, .u, .u, .u, .u, .u, .u, .u, .u, .u, .u, .u, .u, .u, .u, .u, .u, .u, .u, .u, .u, .u, .u, .u, .u], []⟩
noncomputable def crcCarry.nml2 : Norm := ⟨{ keep := [0, 7, 8, 9], shut := [(0, (.int .u32)), (7, (.slice (.int .u8))), (8, (.int .i64)), (9, (.int .i64))], retag := [], heap := 0, dead := [], cshut := [], cretag := [] }, [(2, { keep := [0], shut := [(0, (.int .u32))], retag := [], heap := 0, dead := [], cshut := [], cretag := [] })]⟩
noncomputable def crcCarry.con : Con := { ps := [(.int .u32), (.slice (.int .u8))], rs := [(.int .u32)], f := fun n x => crcCarry n x.1 x.2.1 }
noncomputable def crcCarry.env : Env := { tys := [(23, ⟨(.int .u32), 4⟩), (5, ⟨(.int .u8), 1⟩), (3, ⟨(.int .i64), 8⟩), (61, ⟨(.arr 16 (.int .u32)), 64⟩)], elems := [(22, 5)], ptrs := [], cons := [], objs := [], loops := [(2, crcCarry.nml2)], cuts := [], globs := globs, base := 0 }
noncomputable def crcCarry.lp (n : Nat) : LP (Kd.struct crcCarry.con.rs).T := fun lo κ body nm K s =>
  cond (lo && Nat.beq κ 2)
    (match crcCarry.shl2.dec s with
    | some v => crcCarry.l2 n (fun w0 => K (.exit 0) (crcCarry.outl2e2.enc (w0, ()))) n v.1 v.2.1 v.2.2.1 v.2.2.2.1
    | none => loops n (Kd.struct crcCarry.con.rs).T lo κ body nm K s)
    (loops n (Kd.struct crcCarry.con.rs).T lo κ body nm K s)
theorem crcCarry.atl2 (n : Nat) (s : St) (K : Ex → St → Option (Kd.struct crcCarry.con.rs).T) : (crcCarry.lp n) true 2 (evK crcCarry.env (crcCarry.lp n) n (sub [1, 0, 1, 0, 0] crcCarry.body)) crcCarry.nml2 K s = loops n (Kd.struct crcCarry.con.rs).T true 2 (evK crcCarry.env (crcCarry.lp n) n (sub [1, 0, 1, 0, 0] crcCarry.body)) crcCarry.nml2 K s := by
  show (match crcCarry.shl2.dec s with | some v => crcCarry.l2 n (fun w0 => K (.exit 0) (crcCarry.outl2e2.enc (w0, ()))) n v.1 v.2.1 v.2.2.1 v.2.2.2.1 | none => loops n (Kd.struct crcCarry.con.rs).T true 2 (evK crcCarry.env (crcCarry.lp n) n (sub [1, 0, 1, 0, 0] crcCarry.body)) crcCarry.nml2 K s) = _
  cases h : crcCarry.shl2.dec s with
  | none => rfl
  | some v =>
    rw [Shp.dec_enc h]
    exact (evLoop_eq (sh := crcCarry.shl2) (body := evK crcCarry.env (crcCarry.lp n) n (sub [1, 0, 1, 0, 0] crcCarry.body)) (nm := crcCarry.nml2) (K := K) (b := fun nx v => crcCarry.b2 n (fun x0 x1 x2 x3 => nx (x0, x1, x2, x3, ())) (fun w0 => K (.exit 0) (crcCarry.outl2e2.enc (w0, ()))) v.1 v.2.1 v.2.2.1 v.2.2.2.1) (l := fun m v => crcCarry.l2 n (fun w0 => K (.exit 0) (crcCarry.outl2e2.enc (w0, ()))) m v.1 v.2.1 v.2.2.1 v.2.2.2.1) (fun _ => rfl) (fun _ _ => rfl) (fun m v => by kernel_rfl) n v).symm
theorem crcCarry.eq (n : Nat) (x : (Kd.struct crcCarry.con.ps).T) : evFunc crcCarry.env Tryd.f27 crcCarry.body crcCarry.con.ps crcCarry.con.rs (crcCarry.lp n) n x = crcCarry.con.f n x := by kernel_rfl
theorem crcCarry.sound : Sound Tryd.prog globs 27 crcCarry.con :=
  sound_by (E := crcCarry.env) (c := crcCarry.body) (envOk (G := globs) (lc := []) (lo := []) (envB_spec (by kernel_rfl)) rfl rfl trivial rfl trivial (by kernel_rfl) (by kernel_rfl)) Tryd.func27 (by kernel_rfl) crcCarry.lp (l := [(true, sub [1, 0, 1, 0, 0] crcCarry.body, crcCarry.nml2)]) (by kernel_rfl) (fun n => ⟨crcCarry.atl2 n, trivial⟩) crcCarry.eq
noncomputable def crcMore (fu : Nat) (sum : Int) (b : List Int) : Option (Int × Unit) :=
  (crcCarry fu (bNot .u32 sum) b).bind fun r1 =>
  some (bNot .u32 r1.1, ())

noncomputable def crcMore.body : Code := Tryd.f13.body.getD .skip
noncomputable def crcMore.con : Con := { ps := [(.int .u32), (.slice (.int .u8))], rs := [(.int .u32)], f := fun n x => crcMore n x.1 x.2.1 }
noncomputable def crcMore.env : Env := { tys := [(23, ⟨(.int .u32), 4⟩)], elems := [], ptrs := [], cons := [(27, crcCarry.con)], objs := [], loops := [], cuts := [], globs := globs, base := 0 }
noncomputable def crcMore.lp (n : Nat) : LP (Kd.struct crcMore.con.rs).T := fun lo κ body nm K s =>
  loops n (Kd.struct crcMore.con.rs).T lo κ body nm K s
theorem crcMore.eq (n : Nat) (x : (Kd.struct crcMore.con.ps).T) : evFunc crcMore.env Tryd.f13 crcMore.body crcMore.con.ps crcMore.con.rs (crcMore.lp n) n x = crcMore.con.f n x := by kernel_rfl
theorem crcMore.sound : Sound Tryd.prog globs 13 crcMore.con :=
  sound_by (E := crcMore.env) (c := crcMore.body) (envOk (G := globs) (lc := [(27, crcCarry.con)]) (lo := []) (envB_spec (by kernel_rfl)) rfl rfl ⟨.inl ⟨crcCarry.sound, by kernel_rfl⟩, trivial⟩ rfl trivial (by kernel_rfl) (by kernel_rfl)) Tryd.func13 (by kernel_rfl) crcMore.lp (l := []) (by kernel_rfl) (fun n => trivial) crcMore.eq
noncomputable def crcSum (fu : Nat) (b : List Int) : Option (Int × Unit) :=
  (crcMore fu (0 : Int) b).bind fun r1 =>
  some (r1.1, ())

noncomputable def crcSum.body : Code := Tryd.f11.body.getD .skip
noncomputable def crcSum.con : Con := { ps := [(.slice (.int .u8))], rs := [(.int .u32)], f := fun n x => crcSum n x.1 }
noncomputable def crcSum.env : Env := { tys := [(23, ⟨(.int .u32), 4⟩)], elems := [], ptrs := [], cons := [(13, crcMore.con)], objs := [], loops := [], cuts := [], globs := globs, base := 0 }
noncomputable def crcSum.lp (n : Nat) : LP (Kd.struct crcSum.con.rs).T := fun lo κ body nm K s =>
  loops n (Kd.struct crcSum.con.rs).T lo κ body nm K s
theorem crcSum.eq (n : Nat) (x : (Kd.struct crcSum.con.ps).T) : evFunc crcSum.env Tryd.f11 crcSum.body crcSum.con.ps crcSum.con.rs (crcSum.lp n) n x = crcSum.con.f n x := by kernel_rfl
theorem crcSum.sound : Sound Tryd.prog globs 11 crcSum.con :=
  sound_by (E := crcSum.env) (c := crcSum.body) (envOk (G := globs) (lc := [(13, crcMore.con)]) (lo := []) (envB_spec (by kernel_rfl)) rfl rfl ⟨.inl ⟨crcMore.sound, by kernel_rfl⟩, trivial⟩ rfl trivial (by kernel_rfl) (by kernel_rfl)) Tryd.func11 (by kernel_rfl) crcSum.lp (l := []) (by kernel_rfl) (fun n => trivial) crcSum.eq
noncomputable def recPutF31 (fu : Nat) (b : List Int) (n : Int) : Option (((List Int) × Unit) × (Unit)) :=
  let t1 := IntKind.u8.wrap (sShr .u32 n (24 : Int))
  let t2 := IntKind.u8.wrap (sShr .u32 n (16 : Int))
  let t3 := IntKind.u8.wrap (sShr .u32 n (8 : Int))
  let t4 := [t1, t2, t3, IntKind.u8.wrap n]
  chk (apOk b t4 1) <|
  some ((b ++ t4, ()), (()))

noncomputable def recPutF31.body : Code := Tryd.f31.body.getD .skip
noncomputable def recPutF31.con : OCon := { ps := [.own (.int .u8), .dat (.int .u32)], rs := [.own (.int .u8)], f := fun n x => recPutF31 n x.1 x.2.1 }
noncomputable def recPutF31.env : Env := { tys := [(22, ⟨(.slice (.int .u8)), 24⟩), (5, ⟨(.int .u8), 1⟩), (23, ⟨(.int .u32), 4⟩)], elems := [(22, 5)], ptrs := [], cons := [], objs := [], loops := [], cuts := [], globs := globs, base := 0 }
noncomputable def recPutF31.lp (n : Nat) : LP (RT recPutF31.con.rs × BT recPutF31.con.ps) := fun lo κ body nm K s =>
  loops n (RT recPutF31.con.rs × BT recPutF31.con.ps) lo κ body nm K s
theorem recPutF31.eq (n : Nat) (x : PT recPutF31.con.ps) : evFuncO recPutF31.env Tryd.f31 recPutF31.body recPutF31.con.ps recPutF31.con.rs (recPutF31.lp n) n x = recPutF31.con.f n x := by kernel_rfl
theorem recPutF31.sound : SoundO Tryd.prog globs 31 recPutF31.con :=
  sound_byO (E := recPutF31.env) (c := recPutF31.body) (envOk (G := globs) (lc := []) (lo := []) (envB_spec (by kernel_rfl)) rfl rfl trivial rfl trivial (by kernel_rfl) (by kernel_rfl)) Tryd.func31 (by kernel_rfl) (by kernel_rfl) (by kernel_rfl) recPutF31.lp (l := []) (by kernel_rfl) (fun n => trivial) recPutF31.eq
noncomputable def recPut (fu : Nat) (b : List Int) (record : List Int) : Option ((List Int) × Int × Unit) :=
  let t1 := decide ((record.length : Int) > (65536 : Int))
  cond t1 (
    some ([], (4 : Int), ())) (
    (recSize fu record).bind fun r2 =>
    let t3 := IntKind.i64.wrap ((b.length : Int) + r2.1)
    chk (mkRaw (b.length : Int) t3 1) <|
    chk (nOk b ((b.length : Int).toNat) && (nOk b ((b.length : Int).toNat) && (nOk b ((b.length : Int).toNat) && (nOk b ((b.length : Int).toNat) && true)))) <|
    let t4 := IntKind.u32.wrap (record.length : Int)
    (recPutF31 fu b t4).bind fun r5 =>
    chk (cutOk r5.1.1 (b.length : Int) (r5.1.1.length : Int)) <|
    let t6 := cutL r5.1.1 (b.length : Int) (r5.1.1.length : Int)
    (crcSum fu t6).bind fun r7 =>
    (crcMore fu r7.1 record).bind fun r8 =>
    (recPutF31 fu r5.1.1 r8.1).bind fun r9 =>
    chk (apOk r9.1.1 record 1) <|
    some (r9.1.1 ++ record, (0 : Int), ()))

noncomputable def recPut.body : Code := Tryd.f17.body.getD .skip
noncomputable def recPut.con : Con := { ps := [(.slice (.int .u8)), (.slice (.int .u8))], rs := [(.slice (.int .u8)), (.int .i64)], f := fun n x => recPut n x.1 x.2.1 }
noncomputable def recPut.env : Env := { tys := [(22, ⟨(.slice (.int .u8)), 24⟩), (32, ⟨(.int .i64), 8⟩), (5, ⟨(.int .u8), 1⟩), (23, ⟨(.int .u32), 4⟩), (3, ⟨(.int .i64), 8⟩)], elems := [(22, 5)], ptrs := [], cons := [(20, recSize.con), (11, crcSum.con), (13, crcMore.con)], objs := [(31, [recPutF31.con])], loops := [], cuts := [], globs := globs, base := 0, raws := [18] }
noncomputable def recPut.lp (n : Nat) : LP (Kd.struct recPut.con.rs).T := fun lo κ body nm K s =>
  loops n (Kd.struct recPut.con.rs).T lo κ body nm K s
theorem recPut.eq (n : Nat) (x : (Kd.struct recPut.con.ps).T) : evFunc recPut.env Tryd.f17 recPut.body recPut.con.ps recPut.con.rs (recPut.lp n) n x = recPut.con.f n x := by kernel_rfl
theorem recPut.sound : Sound Tryd.prog globs 17 recPut.con :=
  sound_by (E := recPut.env) (c := recPut.body) (envOk (G := globs) (lc := [(20, recSize.con), (11, crcSum.con), (13, crcMore.con)]) (lo := [(31, [recPutF31.con])]) (envB_spec (by kernel_rfl)) rfl rfl ⟨.inl ⟨recSize.sound, by kernel_rfl⟩, ⟨.inl ⟨crcSum.sound, by kernel_rfl⟩, ⟨.inl ⟨crcMore.sound, by kernel_rfl⟩, trivial⟩⟩⟩ rfl ⟨⟨⟨recPutF31.sound, trivial⟩, by kernel_rfl⟩, trivial⟩ (by kernel_rfl) (by kernel_rfl)) Tryd.func17 (by kernel_rfl) recPut.lp (l := []) (by kernel_rfl) (fun n => trivial) recPut.eq
noncomputable def law08Fixed (fu : Nat) : Option (Bool × Unit) :=
  (recPut fu [] ([(97 : Int)])).bind fun r1 =>
  cond (r1.2.1 == (0 : Int)) (
    let t2 := (r1.1.length : Int) == (9 : Int)
    cond t2 (
      chk (cutOk r1.1 (0 : Int) (4 : Int)) <|
      let t3 := cutL r1.1 (0 : Int) (4 : Int)
      let t4 := t3 == ([0, 0, 0, 1] : List Int)
      cond t4 (
        chk (ixOk r1.1 (8 : Int)) <|
        let e5 := ixL (0 : Int) r1.1 (8 : Int)
        cond (e5 == (97 : Int)) (
          (recSize fu ([(97 : Int)])).bind fun r6 =>
          some (r6.1 == (9 : Int), ())) (
          some (false, ()))) (
        some (false, ()))) (
      some (false, ()))) (
    some (false, ()))

noncomputable def law08Fixed.body : Code := Tryd.f16.body.getD .skip
noncomputable def law08Fixed.con : Con := { ps := [], rs := [.bool], f := fun n x => law08Fixed n }
noncomputable def law08Fixed.env : Env := { tys := [(4, ⟨.bool, 1⟩), (5, ⟨(.int .u8), 1⟩), (22, ⟨(.slice (.int .u8)), 24⟩), (9, ⟨.str, 16⟩)], elems := [(22, 5)], ptrs := [], cons := [(17, recPut.con), (20, recSize.con)], objs := [], loops := [], cuts := [], globs := globs, base := 0 }
noncomputable def law08Fixed.lp (n : Nat) : LP (Kd.struct law08Fixed.con.rs).T := fun lo κ body nm K s =>
  loops n (Kd.struct law08Fixed.con.rs).T lo κ body nm K s
theorem law08Fixed.eq (n : Nat) (x : (Kd.struct law08Fixed.con.ps).T) : evFunc law08Fixed.env Tryd.f16 law08Fixed.body law08Fixed.con.ps law08Fixed.con.rs (law08Fixed.lp n) n x = law08Fixed.con.f n x := by kernel_rfl
theorem law08Fixed.sound : Sound Tryd.prog globs 16 law08Fixed.con :=
  sound_by (E := law08Fixed.env) (c := law08Fixed.body) (envOk (G := globs) (lc := [(17, recPut.con), (20, recSize.con)]) (lo := []) (envB_spec (by kernel_rfl)) rfl rfl ⟨.inl ⟨recPut.sound, by kernel_rfl⟩, ⟨.inl ⟨recSize.sound, by kernel_rfl⟩, trivial⟩⟩ rfl trivial (by kernel_rfl) (by kernel_rfl)) Tryd.func16 (by kernel_rfl) law08Fixed.lp (l := []) (by kernel_rfl) (fun n => trivial) law08Fixed.eq
noncomputable def recPutDatRoom (fu : Nat) (b : List Int × Nat × Nat) (n : Int) : Option (((Nat × Nat) × Unit) × ((List Int) × Unit)) :=
  let t1 := IntKind.u8.wrap (sShr .u32 n (24 : Int))
  let t2 := IntKind.u8.wrap (sShr .u32 n (16 : Int))
  let t3 := IntKind.u8.wrap (sShr .u32 n (8 : Int))
  let t4 := [t1, t2, t3, IntKind.u8.wrap n]
  chk (nOk b.1 b.2.2 && Nat.ble (b.2.1 + t4.length) b.2.2) <|
  let w5 := List.take b.2.1 b.1 ++ t4 ++ List.drop (b.2.1 + t4.length) b.1
  some (((b.2.1 + t4.length, b.2.2), ()), (w5, ()))

noncomputable def recPutDatRoom.body : Code := Tryd.f31.body.getD .skip
noncomputable def recPutDatRoom.con : OCon := { ps := [.room (.int .u8), .dat (.int .u32)], rs := [.rin 0 (.int .u8)], f := fun n x => recPutDatRoom n x.1 x.2.1 }
noncomputable def recPutDatRoom.env : Env := { tys := [(22, ⟨(.slice (.int .u8)), 24⟩), (5, ⟨(.int .u8), 1⟩), (23, ⟨(.int .u32), 4⟩)], elems := [(22, 5)], ptrs := [], cons := [], objs := [], loops := [], cuts := [], globs := globs, base := 1, rooms := [999999] }
noncomputable def recPutDatRoom.lp (n : Nat) : LP (RT recPutDatRoom.con.rs × BT recPutDatRoom.con.ps) := fun lo κ body nm K s =>
  loops n (RT recPutDatRoom.con.rs × BT recPutDatRoom.con.ps) lo κ body nm K s
theorem recPutDatRoom.eq (n : Nat) (x : PT recPutDatRoom.con.ps) : evFuncO recPutDatRoom.env Tryd.f31 recPutDatRoom.body recPutDatRoom.con.ps recPutDatRoom.con.rs (recPutDatRoom.lp n) n x = recPutDatRoom.con.f n x := by kernel_rfl
theorem recPutDatRoom.sound : SoundO Tryd.prog globs 31 recPutDatRoom.con :=
  sound_byO (E := recPutDatRoom.env) (c := recPutDatRoom.body) (envOk (G := globs) (lc := []) (lo := []) (envB_spec (by kernel_rfl)) rfl rfl trivial rfl trivial (by kernel_rfl) (by kernel_rfl)) Tryd.func31 (by kernel_rfl) (by kernel_rfl) (by kernel_rfl) recPutDatRoom.lp (l := []) (by kernel_rfl) (fun n => trivial) recPutDatRoom.eq
noncomputable def recPutRow (fu : Nat) (b : List Int) (record : List Int) : Option (((List Int × Nat × Nat) × Int × Unit) × (Unit)) :=
  let t1 := decide ((record.length : Int) > (65536 : Int))
  cond t1 (
    none) (
    (recSize fu record).bind fun r2 =>
    let t3 := IntKind.i64.wrap ((b.length : Int) + r2.1)
    chk (mkOk (b.length : Int) t3 1) <|
    chk (Nat.beq b.length 0) <|
    let t4 := IntKind.u32.wrap (record.length : Int)
    (recPutDatRoom fu (List.replicate t3.toNat (0 : Int), (b.length : Int).toNat, t3.toNat) t4).bind fun r5 =>
    chk (decide ((b.length : Int) = 0)) <|
    chk (nOk r5.2.1 r5.1.1.2 && true) <|
    (crcSum fu (List.take r5.1.1.1 r5.2.1)).bind fun r6 =>
    (crcMore fu r6.1 record).bind fun r7 =>
    (recPutDatRoom fu (r5.2.1, r5.1.1.1, r5.1.1.2) r7.1).bind fun r8 =>
    chk (nOk r8.2.1 r8.1.1.2 && Nat.ble (r8.1.1.1 + record.length) r8.1.1.2) <|
    let w9 := List.take r8.1.1.1 r8.2.1 ++ record ++ List.drop (r8.1.1.1 + record.length) r8.2.1
    some (((w9, r8.1.1.1 + record.length, r8.1.1.2), (0 : Int), ()), (())))

noncomputable def recPutRow.body : Code := Tryd.f17.body.getD .skip
noncomputable def recPutRow.con : OCon := { ps := [.dat (.slice (.int .u8)), .dat (.slice (.int .u8))], rs := [.row (.int .u8), .dat (.int .i64)], f := fun n x => recPutRow n x.1 x.2.1 }
noncomputable def recPutRow.env : Env := { tys := [(22, ⟨(.slice (.int .u8)), 24⟩), (32, ⟨(.int .i64), 8⟩), (5, ⟨(.int .u8), 1⟩), (23, ⟨(.int .u32), 4⟩), (3, ⟨(.int .i64), 8⟩)], elems := [(22, 5)], ptrs := [], cons := [(20, recSize.con), (11, crcSum.con), (13, crcMore.con)], objs := [(31, [recPutDatRoom.con])], loops := [], cuts := [], globs := globs, base := 0, raws := [18], rooms := [18] }
noncomputable def recPutRow.lp (n : Nat) : LP (RT recPutRow.con.rs × BT recPutRow.con.ps) := fun lo κ body nm K s =>
  loops n (RT recPutRow.con.rs × BT recPutRow.con.ps) lo κ body nm K s
theorem recPutRow.eq (n : Nat) (x : PT recPutRow.con.ps) : evFuncO recPutRow.env Tryd.f17 recPutRow.body recPutRow.con.ps recPutRow.con.rs (recPutRow.lp n) n x = recPutRow.con.f n x := by kernel_rfl
theorem recPutRow.sound : SoundO Tryd.prog globs 17 recPutRow.con :=
  sound_byO (E := recPutRow.env) (c := recPutRow.body) (envOk (G := globs) (lc := [(20, recSize.con), (11, crcSum.con), (13, crcMore.con)]) (lo := [(31, [recPutDatRoom.con])]) (envB_spec (by kernel_rfl)) rfl rfl ⟨.inl ⟨recSize.sound, by kernel_rfl⟩, ⟨.inl ⟨crcSum.sound, by kernel_rfl⟩, ⟨.inl ⟨crcMore.sound, by kernel_rfl⟩, trivial⟩⟩⟩ rfl ⟨⟨⟨recPutDatRoom.sound, trivial⟩, by kernel_rfl⟩, trivial⟩ (by kernel_rfl) (by kernel_rfl)) Tryd.func17 (by kernel_rfl) (by kernel_rfl) (by kernel_rfl) recPutRow.lp (l := []) (by kernel_rfl) (fun n => trivial) recPutRow.eq
noncomputable def recGetF33 (fu : Nat) (b : List Int) : Option (Int × Unit) :=
  chk (ixOk b (0 : Int)) <|
  let e1 := ixL (0 : Int) b (0 : Int)
  let t2 := sShl .u32 (IntKind.u32.wrap e1) (24 : Int)
  chk (ixOk b (1 : Int)) <|
  let e3 := ixL (0 : Int) b (1 : Int)
  let t4 := sShl .u32 (IntKind.u32.wrap e3) (16 : Int)
  chk (ixOk b (2 : Int)) <|
  let e5 := ixL (0 : Int) b (2 : Int)
  let t6 := sShl .u32 (IntKind.u32.wrap e5) (8 : Int)
  let t7 := bOr .u32 (bOr .u32 t2 t4) t6
  chk (ixOk b (3 : Int)) <|
  let e8 := ixL (0 : Int) b (3 : Int)
  let t9 := bOr .u32 t7 (IntKind.u32.wrap e8)
  some (t9, ())

noncomputable def recGetF33.body : Code := Tryd.f33.body.getD .skip
noncomputable def recGetF33.con : Con := { ps := [(.slice (.int .u8))], rs := [(.int .u32)], f := fun n x => recGetF33 n x.1 }
noncomputable def recGetF33.env : Env := { tys := [(23, ⟨(.int .u32), 4⟩), (5, ⟨(.int .u8), 1⟩)], elems := [(22, 5)], ptrs := [], cons := [], objs := [], loops := [], cuts := [], globs := globs, base := 0 }
noncomputable def recGetF33.lp (n : Nat) : LP (Kd.struct recGetF33.con.rs).T := fun lo κ body nm K s =>
  loops n (Kd.struct recGetF33.con.rs).T lo κ body nm K s
theorem recGetF33.eq (n : Nat) (x : (Kd.struct recGetF33.con.ps).T) : evFunc recGetF33.env Tryd.f33 recGetF33.body recGetF33.con.ps recGetF33.con.rs (recGetF33.lp n) n x = recGetF33.con.f n x := by kernel_rfl
theorem recGetF33.sound : Sound Tryd.prog globs 33 recGetF33.con :=
  sound_by (E := recGetF33.env) (c := recGetF33.body) (envOk (G := globs) (lc := []) (lo := []) (envB_spec (by kernel_rfl)) rfl rfl trivial rfl trivial (by kernel_rfl) (by kernel_rfl)) Tryd.func33 (by kernel_rfl) recGetF33.lp (l := []) (by kernel_rfl) (fun n => trivial) recGetF33.eq
noncomputable def slicesCloneDat (fu : Nat) (sv : List Int) : Option ((List Int) × Unit) :=
  nilQ sv (
    some ([], ())) (
    chk (apOk [] sv 1) <|
    some ([] ++ sv, ()))

noncomputable def slicesCloneDat.body : Code := Tryd.f34.body.getD .skip
noncomputable def slicesCloneDat.con : Con := { ps := [(.slice (.int .u8))], rs := [(.slice (.int .u8))], f := fun n x => slicesCloneDat n x.1 }
noncomputable def slicesCloneDat.env : Env := { tys := [(22, ⟨(.slice (.int .u8)), 24⟩), (5, ⟨(.int .u8), 1⟩)], elems := [(22, 5)], ptrs := [], cons := [], objs := [], loops := [], cuts := [], globs := globs, base := 0 }
noncomputable def slicesCloneDat.lp (n : Nat) : LP (Kd.struct slicesCloneDat.con.rs).T := fun lo κ body nm K s =>
  loops n (Kd.struct slicesCloneDat.con.rs).T lo κ body nm K s
theorem slicesCloneDat.eq (n : Nat) (x : (Kd.struct slicesCloneDat.con.ps).T) : evFunc slicesCloneDat.env Tryd.f34 slicesCloneDat.body slicesCloneDat.con.ps slicesCloneDat.con.rs (slicesCloneDat.lp n) n x = slicesCloneDat.con.f n x := by kernel_rfl
theorem slicesCloneDat.sound : Sound Tryd.prog globs 34 slicesCloneDat.con :=
  sound_by (E := slicesCloneDat.env) (c := slicesCloneDat.body) (envOk (G := globs) (lc := []) (lo := []) (envB_spec (by kernel_rfl)) rfl rfl trivial rfl trivial (by kernel_rfl) (by kernel_rfl)) Tryd.func34 (by kernel_rfl) slicesCloneDat.lp (l := []) (by kernel_rfl) (fun n => trivial) slicesCloneDat.eq
noncomputable def recGet (fu : Nat) (b : List Int) (atv : Int) : Option ((List Int) × Int × Int × Unit) :=
  cond (decide (atv < (0 : Int))) (
    some ([], (0 : Int), (3 : Int), ())) (
    let t1 := IntKind.i64.wrap ((b.length : Int) - (4 : Int))
    cond (decide (atv > t1)) (
      some ([], (0 : Int), (3 : Int), ())) (
      chk (cutOk b atv (b.length : Int)) <|
      let t2 := cutL b atv (b.length : Int)
      (recGetF33 fu t2).bind fun r3 =>
      let t4 := decide (r3.1 > (65536 : Int))
      cond t4 (
        some ([], (0 : Int), (4 : Int), ())) (
        let t5 := IntKind.i64.wrap ((8 : Int) + IntKind.i64.wrap r3.1)
        let t6 := IntKind.i64.wrap ((b.length : Int) - atv)
        cond (decide (t5 > t6)) (
          some ([], (0 : Int), (3 : Int), ())) (
          let t7 := IntKind.i64.wrap (atv + (8 : Int))
          let t8 := IntKind.i64.wrap (atv + (8 : Int))
          let t9 := IntKind.i64.wrap (t8 + IntKind.i64.wrap r3.1)
          chk (cutOk b t7 t9) <|
          let t10 := IntKind.i64.wrap (atv + (4 : Int))
          chk (cutOk b atv t10) <|
          (crcSum fu (cutL b atv t10)).bind fun r11 =>
          (crcMore fu r11.1 (cutL b t7 t9)).bind fun r12 =>
          let t13 := IntKind.i64.wrap (atv + (4 : Int))
          chk (cutOk b t13 (b.length : Int)) <|
          let t14 := cutL b t13 (b.length : Int)
          (recGetF33 fu t14).bind fun r15 =>
          cond (r12.1 != r15.1) (
            some ([], (0 : Int), (6 : Int), ())) (
            (slicesCloneDat fu (cutL b t7 t9)).bind fun r16 =>
            let t17 := IntKind.i64.wrap (atv + (8 : Int))
            let t18 := IntKind.i64.wrap (t17 + IntKind.i64.wrap r3.1)
            some (r16.1, t18, (0 : Int), ()))))))

noncomputable def recGet.body : Code := Tryd.f19.body.getD .skip
noncomputable def recGet.con : Con := { ps := [(.slice (.int .u8)), (.int .i64)], rs := [(.slice (.int .u8)), (.int .i64), (.int .i64)], f := fun n x => recGet n x.1 x.2.1 }
noncomputable def recGet.env : Env := { tys := [(22, ⟨(.slice (.int .u8)), 24⟩), (3, ⟨(.int .i64), 8⟩), (32, ⟨(.int .i64), 8⟩), (4, ⟨.bool, 1⟩), (5, ⟨(.int .u8), 1⟩), (23, ⟨(.int .u32), 4⟩)], elems := [(22, 5)], ptrs := [], cons := [(33, recGetF33.con), (11, crcSum.con), (13, crcMore.con), (34, slicesCloneDat.con)], objs := [], loops := [], cuts := [], globs := globs, base := 0 }
noncomputable def recGet.lp (n : Nat) : LP (Kd.struct recGet.con.rs).T := fun lo κ body nm K s =>
  loops n (Kd.struct recGet.con.rs).T lo κ body nm K s
theorem recGet.eq (n : Nat) (x : (Kd.struct recGet.con.ps).T) : evFunc recGet.env Tryd.f19 recGet.body recGet.con.ps recGet.con.rs (recGet.lp n) n x = recGet.con.f n x := by kernel_rfl
theorem recGet.sound : Sound Tryd.prog globs 19 recGet.con :=
  sound_by (E := recGet.env) (c := recGet.body) (envOk (G := globs) (lc := [(33, recGetF33.con), (11, crcSum.con), (13, crcMore.con), (34, slicesCloneDat.con)]) (lo := []) (envB_spec (by kernel_rfl)) rfl rfl ⟨.inl ⟨recGetF33.sound, by kernel_rfl⟩, ⟨.inl ⟨crcSum.sound, by kernel_rfl⟩, ⟨.inl ⟨crcMore.sound, by kernel_rfl⟩, ⟨.inl ⟨slicesCloneDat.sound, by kernel_rfl⟩, trivial⟩⟩⟩⟩ rfl trivial (by kernel_rfl) (by kernel_rfl)) Tryd.func19 (by kernel_rfl) recGet.lp (l := []) (by kernel_rfl) (fun n => trivial) recGet.eq
noncomputable def law08RecSpoilt.j48008 (fu : Nat) (k0 : Nat → Nat → Int → Int → Int → Int → Int → (List Int) → Option (Bool × Unit)) (record : List Int) (atv : Int) (nb : Nat) (cb : Nat) (kv : Int) (v : Bool) (c0 : Int) (c0x2 : Int) (c0x3 : Int) (c0x4 : Int) (c1 : List Int) : Option (Bool × Unit) :=
  cond v (
    let t1 := IntKind.u16.wrap (Int.tdiv atv (8 : Int))
    let t2 := IntKind.i64.wrap ((record.length : Int) - (3 : Int))
    chk (t2 != 0) <|
    let t3 := Int.tmod (IntKind.i64.wrap t1) t2
    let t4 := IntKind.i64.wrap ((8 : Int) + t3)
    k0 nb cb t4 c0 c0x2 c0x3 c0x4 c1) (
    k0 nb cb kv c0 c0x2 c0x3 c0x4 c1)
noncomputable def law08RecSpoilt.b11 (fu : Nat) (next : Nat → Nat → Int → Bool → (List Int) → Int → (List Int) → Option (Bool × Unit)) (k2 : Nat → Nat → Bool → (List Int) → Option (Bool × Unit)) (nb : Nat) (cb : Nat) (kv : Int) (changed : Bool) (v : List Int) (vx2 : Int) (c1 : List Int) : Option (Bool × Unit) :=
  cond (decide (vx2 < (4 : Int))) (
    chk (ixArr 4 vx2) <|
    let t1 := IntKind.i64.wrap (kv + vx2)
    chk (ixArr nb t1) <|
    chk (nOk c1 nb) <|
    let t2 := bXor .u8 (ixL (0 : Int) c1 t1) (ixL (0 : Int) v vx2)
    chk (ixArr nb t1) <|
    chk (nOk c1 nb) <|
    let w3 := stL c1 t1 t2
    cond changed (
      let t4 := IntKind.i64.wrap (vx2 + (1 : Int))
      next nb cb kv true v t4 w3) (
      let t5 := ixL (0 : Int) v vx2 != (0 : Int)
      let t6 := IntKind.i64.wrap (vx2 + (1 : Int))
      next nb cb kv t5 v t6 w3)) (
    k2 nb cb changed c1)
noncomputable def law08RecSpoilt.l11 (fu : Nat) (k2 : Nat → Nat → Bool → (List Int) → Option (Bool × Unit)) : Nat → Nat → Nat → Int → Bool → (List Int) → Int → (List Int) → Option (Bool × Unit)
  | 0, _, _, _, _, _, _, _ => none
  | m + 1, nb, cb, kv, changed, v, vx2, c1 => law08RecSpoilt.b11 fu (law08RecSpoilt.l11 fu k2 m) k2 nb cb kv changed v vx2 c1
noncomputable def law08RecSpoilt.j9 (fu : Nat) (k1 : Bool → Option (Bool × Unit)) (nb : Nat) (cb : Nat) (kv : Int) (c0 : Int) (c0x2 : Int) (c0x3 : Int) (c0x4 : Int) (c1 : List Int) : Option (Bool × Unit) :=
  law08RecSpoilt.l11 fu (fun nbq6 cbq6 changedq6 c1q6 => 
      chk (nOk c1q6 cbq6 && (Nat.ble nbq6 c1q6.length && true)) <|
      (recGet fu (List.take nbq6 c1q6) (0 : Int)).bind fun r1 =>
      (law08Fixed fu).bind fun r2 =>
      cond r2.1 (
        cond changedq6 (
          k1 (r1.2.2.1 == (6 : Int))) (
          k1 false)) (
        k1 false)) fu nb cb kv false ([c0, c0x2, c0x3, c0x4]) (0 : Int) c1
noncomputable def law08RecSpoilt (fu : Nat) (record : List Int) (atv : Int) (byv : List Int) : Option (Bool × Unit) :=
  let t1 := decide ((record.length : Int) > (5000 : Int))
  cond t1 (
    (law08Fixed fu).bind fun r2 =>
    some (r2.1, ())) (
    let t3 := [List.getD byv 0 (0 : Int), List.getD byv 1 (0 : Int), List.getD byv 2 (0 : Int), List.getD byv 3 (0 : Int)]
    let t4 := [(0 : Int), (0 : Int), (0 : Int), (0 : Int)]
    cond (t3 == t4) (
      (law08Fixed fu).bind fun r5 =>
      some (r5.1, ())) (
      (recPutRow fu [] record).bind fun r6 =>
      cond (r6.1.2.1 != (0 : Int)) (
        some (false, ())) (
        let t7 := IntKind.i64.wrap ((8 : Int) + (record.length : Int))
        cond ((r6.1.1.2.1 : Int) != t7) (
          some (false, ())) (
          let t8 := decide ((record.length : Int) ≥ (4 : Int))
          cond t8 (
            let t9 := decide (Int.tmod atv (8 : Int) > (0 : Int))
            law08RecSpoilt.j48008 fu (fun nbq1 cbq1 kvq1 c0q1 c0q1x2 c0q1x3 c0q1x4 c1q1 => 
                law08RecSpoilt.j9 fu (fun vq2 => 
                    some (vq2, ())) nbq1 cbq1 kvq1 c0q1 c0q1x2 c0q1x3 c0q1x4 c1q1) record atv r6.1.1.2.1 r6.1.1.2.2 (4 : Int) t9 (List.getD byv 0 (0 : Int)) (List.getD byv 1 (0 : Int)) (List.getD byv 2 (0 : Int)) (List.getD byv 3 (0 : Int)) r6.1.1.1) (
            law08RecSpoilt.j48008 fu (fun nbq3 cbq3 kvq3 c0q3 c0q3x2 c0q3x3 c0q3x4 c1q3 => 
                law08RecSpoilt.j9 fu (fun vq4 => 
                    some (vq4, ())) nbq3 cbq3 kvq3 c0q3 c0q3x2 c0q3x3 c0q3x4 c1q3) record atv r6.1.1.2.1 r6.1.1.2.2 (4 : Int) false (List.getD byv 0 (0 : Int)) (List.getD byv 1 (0 : Int)) (List.getD byv 2 (0 : Int)) (List.getD byv 3 (0 : Int)) r6.1.1.1)))))

noncomputable def law08RecSpoilt.body : Code := Tryd.f7.body.getD .skip
abbrev law08RecSpoilt.shj48008 : Shp := ⟨[.d (.slice (.int .u8)), .d (.int .u16), .u, .u, .u, .p 0 0, .u, .rn 1 (.int .u8), .u, .d (.int .i64), .u, .u, .u, .u, .u, .u, .u, .u, .u, .u, .u, .u, .u, .u, .u, .u, .u, .u, .u, .u, .u, .u, .u, .u, .u, .u, .u, .u, .u, .u, .u, .u, .u, .u, .u, .u, .u, .d .bool, .u, .u, .u, .u, .u, .u, .u, .u, .u, .u, .u, .u, .u, .u, .u, .u, .u, .u, .u, .u, .u, .u, .u, .u, .u, .u, .u, .u, .u, .u, .u, .u, .u, .u, .u, .u, .u, .u, .u, .u, .u, .u], [.c [.d (.int .u8), .d (.int .u8), .d (.int .u8), .d (.int .u8)], .a (.int .u8)]⟩
abbrev law08RecSpoilt.outj48008e0 : Shp := ⟨[.u, .u, .u, .u, .u, .p 0 0, .u, .rn 1 (.int .u8), .u, .d (.int .i64), .u, .u, .u, .u, .u, .u, .u, .u, .u, .u, .u, .u, .u, .u, .u, .u, .u, .u, .u, .u, .u, .u, .u, .u, .u, .u, .u, .u, .u, .u, .u, .u, .u, .u, .u, .u, .u, .u, .u, .u, .u, .u, .u, .u, .u, .u, .u, .u, .u, .u, .u, .u, .u, .u, .u, .u, .u, .u, .u, .u, .u, .u, .u, .u, .u, .u, .u, .u, .u, .u, .u, .u, .u, .u, .u, .u, .u, .u, .u, .u], [.c [.d (.int .u8), .d (.int .u8), .d (.int .u8), .d (.int .u8)], .a (.int .u8)]⟩
noncomputable def law08RecSpoilt.nmj48008 : Norm := ⟨{ keep := [0, 1, 5, 7, 9, 47], shut := [(0, (.slice (.int .u8))), (1, (.int .u16)), (9, (.int .i64)), (47, .bool)], retag := [], heap := 2, dead := [], cshut := [(0, 0, (.int .u8)), (0, 1, (.int .u8)), (0, 2, (.int .u8)), (0, 3, (.int .u8))], cretag := [] }, [(0, { keep := [5, 7, 9], shut := [(9, (.int .i64))], retag := [], heap := 2, dead := [], cshut := [(0, 0, (.int .u8)), (0, 1, (.int .u8)), (0, 2, (.int .u8)), (0, 3, (.int .u8))], cretag := [] })]⟩
abbrev law08RecSpoilt.shl11 : Shp := ⟨[.u, .u, .u, .u, .u, .u, .u, .rn 1 (.int .u8), .u, .d (.int .i64), .d .bool, .u, .u, .u, .u, .u, .u, .u, .u, .u, .u, .u, .u, .u, .u, .u, .u, .u, .u, .u, .u, .u, .u, .u, .u, .u, .u, .u, .u, .u, .u, .u, .u, .u, .u, .u, .u, .u, .u, .u, .u, .u, .u, .u, .u, .u, .d (.arr 4 (.int .u8)), .d (.int .i64), .u, .u, .u, .u, .u, .u, .u, .u, .u, .u, .u, .u, .u, .u, .u, .u, .u, .u, .u, .u, .u, .u, .u, .u, .u, .u, .u, .u, .u, .u, .u, .u], [.c [.u, .u, .u, .u], .a (.int .u8)]⟩
abbrev law08RecSpoilt.outl11e2 : Shp := ⟨[.u, .u, .u, .u, .u, .u, .u, .rn 1 (.int .u8), .u, .u, .d .bool, .u, .u, .u, .u, .u, .u, .u, .u, .u, .u, .u, .u, .u, .u, .u, .u, .u, .u, .u, .u, .u, .u, .u, .u, .u, .u, .u, .u, .u, .u, .u, .u, .u, .u, .u, .u, .u, .u, .u, .u, .u, .u, .u, .u, .u, .u, .u, .u, .u, .u, .u, .u, .u, .u, .u, .u, .u, .u, .u, .u, .u, .u, .u, .u, .u, .u, .u, .u, .u, .u, .u, .u, .u, .u, .u, .u, .u, .u, .u], [.c [.u, .u, .u, .u], .a (.int .u8)]⟩
noncomputable def law08RecSpoilt.nml11 : Norm := ⟨{ keep := [7, 9, 10, 56, 57], shut := [(9, (.int .i64)), (10, .bool), (56, (.arr 4 (.int .u8))), (57, (.int .i64))], retag := [], heap := 2, dead := [0], cshut := [], cretag := [] }, [(2, { keep := [7, 10], shut := [(10, .bool)], retag := [], heap := 2, dead := [0], cshut := [], cretag := [] })]⟩
abbrev law08RecSpoilt.shj9 : Shp := ⟨[.u, .u, .u, .u, .u, .p 0 0, .u, .rn 1 (.int .u8), .u, .d (.int .i64), .u, .u, .u, .u, .u, .u, .u, .u, .u, .u, .u, .u, .u, .u, .u, .u, .u, .u, .u, .u, .u, .u, .u, .u, .u, .u, .u, .u, .u, .u, .u, .u, .u, .u, .u, .u, .u, .u, .u, .u, .u, .u, .u, .u, .u, .u, .u, .u, .u, .u, .u, .u, .u, .u, .u, .u, .u, .u, .u, .u, .u, .u, .u, .u, .u, .u, .u, .u, .u, .u, .u, .u, .u, .u, .u, .u, .u, .u, .u, .u], [.c [.d (.int .u8), .d (.int .u8), .d (.int .u8), .d (.int .u8)], .a (.int .u8)]⟩
abbrev law08RecSpoilt.outj9e1 : Shp := ⟨[.u, .u, .u, .u, .u, .u, .d .bool, .u, .u, .u, .u, .u, .u, .u, .u, .u, .u, .u, .u, .u, .u, .u, .u, .u, .u, .u, .u, .u, .u, .u, .u, .u, .u, .u, .u, .u, .u, .u, .u, .u, .u, .u, .u, .u, .u, .u, .u, .u, .u, .u, .u, .u, .u, .u, .u, .u, .u, .u, .u, .u, .u, .u, .u, .u, .u, .u, .u, .u, .u, .u, .u, .u, .u, .u, .u, .u, .u, .u, .u, .u, .u, .u, .u, .u, .u, .u, .u, .u, .u, .u], []⟩
noncomputable def law08RecSpoilt.nmj9 : Norm := ⟨{ keep := [5, 7, 9], shut := [(9, (.int .i64))], retag := [], heap := 2, dead := [], cshut := [(0, 0, (.int .u8)), (0, 1, (.int .u8)), (0, 2, (.int .u8)), (0, 3, (.int .u8))], cretag := [] }, [(1, { keep := [6], shut := [(6, .bool)], retag := [], heap := 0, dead := [], cshut := [], cretag := [] })]⟩
noncomputable def law08RecSpoilt.con : Con := { ps := [(.slice (.int .u8)), (.int .u16), (.arr 4 (.int .u8))], rs := [.bool], f := fun n x => law08RecSpoilt n x.1 x.2.1 x.2.2.1 }
noncomputable def law08RecSpoilt.env : Env := { tys := [(28, ⟨(.arr 4 (.int .u8)), 4⟩), (4, ⟨.bool, 1⟩), (5, ⟨(.int .u8), 1⟩), (3, ⟨(.int .i64), 8⟩), (41, ⟨(.int .u16), 2⟩)], elems := [(22, 5)], ptrs := [], cons := [(16, law08Fixed.con), (19, recGet.con)], objs := [(17, [recPutRow.con])], loops := [(11, law08RecSpoilt.nml11)], cuts := [(48008, law08RecSpoilt.nmj48008), (9, law08RecSpoilt.nmj9)], globs := globs, base := 0, rooms := [999999], shuts := [77] }
noncomputable def law08RecSpoilt.lp (n : Nat) : LP (Kd.struct law08RecSpoilt.con.rs).T := fun lo κ body nm K s =>
  cond (!lo && Nat.beq κ 48008)
    (match law08RecSpoilt.shj48008.dec s with
    | some v => law08RecSpoilt.j48008 n (fun w0 w1 w2 w3 w4 w5 w6 w7 => K .normal (law08RecSpoilt.outj48008e0.enc (w0, w1, w2, w3, w4, w5, w6, w7, ()))) v.1 v.2.1 v.2.2.1 v.2.2.2.1 v.2.2.2.2.1 v.2.2.2.2.2.1 v.2.2.2.2.2.2.1 v.2.2.2.2.2.2.2.1 v.2.2.2.2.2.2.2.2.1 v.2.2.2.2.2.2.2.2.2.1 v.2.2.2.2.2.2.2.2.2.2.1
    | none => loops n (Kd.struct law08RecSpoilt.con.rs).T lo κ body nm K s)
    (cond (lo && Nat.beq κ 11)
    (match law08RecSpoilt.shl11.dec s with
    | some v => law08RecSpoilt.l11 n (fun w0 w1 w2 w3 => K (.exit 0) (law08RecSpoilt.outl11e2.enc (w0, w1, w2, w3, ()))) n v.1 v.2.1 v.2.2.1 v.2.2.2.1 v.2.2.2.2.1 v.2.2.2.2.2.1 v.2.2.2.2.2.2.1
    | none => loops n (Kd.struct law08RecSpoilt.con.rs).T lo κ body nm K s)
    (cond (!lo && Nat.beq κ 9)
    (match law08RecSpoilt.shj9.dec s with
    | some v => law08RecSpoilt.j9 n (fun w0 => K .ret (law08RecSpoilt.outj9e1.enc (w0, ()))) v.1 v.2.1 v.2.2.1 v.2.2.2.1 v.2.2.2.2.1 v.2.2.2.2.2.1 v.2.2.2.2.2.2.1 v.2.2.2.2.2.2.2.1
    | none => loops n (Kd.struct law08RecSpoilt.con.rs).T lo κ body nm K s)
    (loops n (Kd.struct law08RecSpoilt.con.rs).T lo κ body nm K s)))
theorem law08RecSpoilt.atj48008 (n : Nat) (s : St) (K : Ex → St → Option (Kd.struct law08RecSpoilt.con.rs).T) : (law08RecSpoilt.lp n) false 48008 (evK law08RecSpoilt.env (law08RecSpoilt.lp n) n (sub [1, 1, 1, 1, 1, 0, 1] law08RecSpoilt.body)) law08RecSpoilt.nmj48008 K s = loops n (Kd.struct law08RecSpoilt.con.rs).T false 48008 (evK law08RecSpoilt.env (law08RecSpoilt.lp n) n (sub [1, 1, 1, 1, 1, 0, 1] law08RecSpoilt.body)) law08RecSpoilt.nmj48008 K s := by
  show (match law08RecSpoilt.shj48008.dec s with | some v => law08RecSpoilt.j48008 n (fun w0 w1 w2 w3 w4 w5 w6 w7 => K .normal (law08RecSpoilt.outj48008e0.enc (w0, w1, w2, w3, w4, w5, w6, w7, ()))) v.1 v.2.1 v.2.2.1 v.2.2.2.1 v.2.2.2.2.1 v.2.2.2.2.2.1 v.2.2.2.2.2.2.1 v.2.2.2.2.2.2.2.1 v.2.2.2.2.2.2.2.2.1 v.2.2.2.2.2.2.2.2.2.1 v.2.2.2.2.2.2.2.2.2.2.1 | none => loops n (Kd.struct law08RecSpoilt.con.rs).T false 48008 (evK law08RecSpoilt.env (law08RecSpoilt.lp n) n (sub [1, 1, 1, 1, 1, 0, 1] law08RecSpoilt.body)) law08RecSpoilt.nmj48008 K s) = _
  cases h : law08RecSpoilt.shj48008.dec s with
  | none => rfl
  | some v =>
    rw [Shp.dec_enc h]
    kernel_rfl
theorem law08RecSpoilt.atl11 (n : Nat) (s : St) (K : Ex → St → Option (Kd.struct law08RecSpoilt.con.rs).T) : (law08RecSpoilt.lp n) true 11 (evK law08RecSpoilt.env (law08RecSpoilt.lp n) n (sub [1, 1, 1, 1, 1, 1, 1, 0, 1, 0, 0] law08RecSpoilt.body)) law08RecSpoilt.nml11 K s = loops n (Kd.struct law08RecSpoilt.con.rs).T true 11 (evK law08RecSpoilt.env (law08RecSpoilt.lp n) n (sub [1, 1, 1, 1, 1, 1, 1, 0, 1, 0, 0] law08RecSpoilt.body)) law08RecSpoilt.nml11 K s := by
  show (match law08RecSpoilt.shl11.dec s with | some v => law08RecSpoilt.l11 n (fun w0 w1 w2 w3 => K (.exit 0) (law08RecSpoilt.outl11e2.enc (w0, w1, w2, w3, ()))) n v.1 v.2.1 v.2.2.1 v.2.2.2.1 v.2.2.2.2.1 v.2.2.2.2.2.1 v.2.2.2.2.2.2.1 | none => loops n (Kd.struct law08RecSpoilt.con.rs).T true 11 (evK law08RecSpoilt.env (law08RecSpoilt.lp n) n (sub [1, 1, 1, 1, 1, 1, 1, 0, 1, 0, 0] law08RecSpoilt.body)) law08RecSpoilt.nml11 K s) = _
  cases h : law08RecSpoilt.shl11.dec s with
  | none => rfl
  | some v =>
    rw [Shp.dec_enc h]
    exact (evLoop_eq (sh := law08RecSpoilt.shl11) (body := evK law08RecSpoilt.env (law08RecSpoilt.lp n) n (sub [1, 1, 1, 1, 1, 1, 1, 0, 1, 0, 0] law08RecSpoilt.body)) (nm := law08RecSpoilt.nml11) (K := K) (b := fun nx v => law08RecSpoilt.b11 n (fun x0 x1 x2 x3 x4 x5 x6 => nx (x0, x1, x2, x3, x4, x5, x6, ())) (fun w0 w1 w2 w3 => K (.exit 0) (law08RecSpoilt.outl11e2.enc (w0, w1, w2, w3, ()))) v.1 v.2.1 v.2.2.1 v.2.2.2.1 v.2.2.2.2.1 v.2.2.2.2.2.1 v.2.2.2.2.2.2.1) (l := fun m v => law08RecSpoilt.l11 n (fun w0 w1 w2 w3 => K (.exit 0) (law08RecSpoilt.outl11e2.enc (w0, w1, w2, w3, ()))) m v.1 v.2.1 v.2.2.1 v.2.2.2.1 v.2.2.2.2.1 v.2.2.2.2.2.1 v.2.2.2.2.2.2.1) (fun _ => rfl) (fun _ _ => rfl) (fun m v => by kernel_rfl) n v).symm
theorem law08RecSpoilt.atj9 (n : Nat) (s : St) (K : Ex → St → Option (Kd.struct law08RecSpoilt.con.rs).T) : (law08RecSpoilt.lp n) false 9 (evK law08RecSpoilt.env (law08RecSpoilt.lp n) n (sub [1, 1, 1, 1, 1, 1] law08RecSpoilt.body)) law08RecSpoilt.nmj9 K s = loops n (Kd.struct law08RecSpoilt.con.rs).T false 9 (evK law08RecSpoilt.env (law08RecSpoilt.lp n) n (sub [1, 1, 1, 1, 1, 1] law08RecSpoilt.body)) law08RecSpoilt.nmj9 K s := by
  show (match law08RecSpoilt.shj9.dec s with | some v => law08RecSpoilt.j9 n (fun w0 => K .ret (law08RecSpoilt.outj9e1.enc (w0, ()))) v.1 v.2.1 v.2.2.1 v.2.2.2.1 v.2.2.2.2.1 v.2.2.2.2.2.1 v.2.2.2.2.2.2.1 v.2.2.2.2.2.2.2.1 | none => loops n (Kd.struct law08RecSpoilt.con.rs).T false 9 (evK law08RecSpoilt.env (law08RecSpoilt.lp n) n (sub [1, 1, 1, 1, 1, 1] law08RecSpoilt.body)) law08RecSpoilt.nmj9 K s) = _
  cases h : law08RecSpoilt.shj9.dec s with
  | none => rfl
  | some v =>
    rw [Shp.dec_enc h]
    kernel_rfl
theorem law08RecSpoilt.eq (n : Nat) (x : (Kd.struct law08RecSpoilt.con.ps).T) : evFunc law08RecSpoilt.env Tryd.f7 law08RecSpoilt.body law08RecSpoilt.con.ps law08RecSpoilt.con.rs (law08RecSpoilt.lp n) n x = law08RecSpoilt.con.f n x := by kernel_rfl
theorem law08RecSpoilt.sound : Sound Tryd.prog globs 7 law08RecSpoilt.con :=
  sound_by (E := law08RecSpoilt.env) (c := law08RecSpoilt.body) (envOk (G := globs) (lc := [(16, law08Fixed.con), (19, recGet.con)]) (lo := [(17, [recPutRow.con])]) (envB_spec (by kernel_rfl)) rfl rfl ⟨.inl ⟨law08Fixed.sound, by kernel_rfl⟩, ⟨.inl ⟨recGet.sound, by kernel_rfl⟩, trivial⟩⟩ rfl ⟨⟨⟨recPutRow.sound, trivial⟩, by kernel_rfl⟩, trivial⟩ (by kernel_rfl) (by kernel_rfl)) Tryd.func7 (by kernel_rfl) law08RecSpoilt.lp (l := [(false, sub [1, 1, 1, 1, 1, 0, 1] law08RecSpoilt.body, law08RecSpoilt.nmj48008), (true, sub [1, 1, 1, 1, 1, 1, 1, 0, 1, 0, 0] law08RecSpoilt.body, law08RecSpoilt.nml11), (false, sub [1, 1, 1, 1, 1, 1] law08RecSpoilt.body, law08RecSpoilt.nmj9)]) (by kernel_rfl) (fun n => ⟨law08RecSpoilt.atj48008 n, ⟨law08RecSpoilt.atl11 n, ⟨law08RecSpoilt.atj9 n, trivial⟩⟩⟩) law08RecSpoilt.eq
end
end Go.Shal.Pr
