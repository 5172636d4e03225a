/- Prints of functions, and proofs that they are what the code computes. By an AI agent. -/
import Derived.Test.YtpfmaljnnhammaaShC
import Derived.Test.YtpfmaljnnhammaaProg
set_option linter.unusedVariables false
set_option maxRecDepth 100000
namespace Go.Shal.Pr
open Go Go.Shal Go.Proofs
noncomputable section
def globs : Globs := []
abbrev kS0 : Kd := .struct [.bool, (.int .i64), (.int .u64)]
abbrev S0 : Type := Bool × Int × Int × Unit
noncomputable def bitsLen64.j7 (fu : Nat) (k1 : Int → Option (Int × Unit)) (xv : Int) (n : Int) : Option (Int × Unit) :=
  let t1 := decide (xv ≥ (256 : Int))
  cond t1 (
    let t2 := IntKind.i64.wrap (n + (8 : Int))
    let t3 := IntKind.u8.wrap (sShr .u64 xv (8 : Int))
    chk (ixOk ([0, 1, 2, 2, 3, 3, 3, 3, 4, 4, 4, 4, 4, 4, 4, 4, 5, 5, 5, 5, 5, 5, 5, 5, 5, 5, 5, 5, 5, 5, 5, 5, 6, 6, 6, 6, 6, 6, 6, 6, 6, 6, 6, 6, 6, 6, 6, 6, 6, 6, 6, 6, 6, 6, 6, 6, 6, 6, 6, 6, 6, 6, 6, 6, 7, 7, 7, 7, 7, 7, 7, 7, 7, 7, 7, 7, 7, 7, 7, 7, 7, 7, 7, 7, 7, 7, 7, 7, 7, 7, 7, 7, 7, 7, 7, 7, 7, 7, 7, 7, 7, 7, 7, 7, 7, 7, 7, 7, 7, 7, 7, 7, 7, 7, 7, 7, 7, 7, 7, 7, 7, 7, 7, 7, 7, 7, 7, 7, 8, 8, 8, 8, 8, 8, 8, 8, 8, 8, 8, 8, 8, 8, 8, 8, 8, 8, 8, 8, 8, 8, 8, 8, 8, 8, 8, 8, 8, 8, 8, 8, 8, 8, 8, 8, 8, 8, 8, 8, 8, 8, 8, 8, 8, 8, 8, 8, 8, 8, 8, 8, 8, 8, 8, 8, 8, 8, 8, 8, 8, 8, 8, 8, 8, 8, 8, 8, 8, 8, 8, 8, 8, 8, 8, 8, 8, 8, 8, 8, 8, 8, 8, 8, 8, 8, 8, 8, 8, 8, 8, 8, 8, 8, 8, 8, 8, 8, 8, 8, 8, 8, 8, 8, 8, 8, 8, 8, 8, 8, 8, 8, 8, 8, 8, 8, 8, 8, 8, 8, 8, 8, 8, 8, 8, 8, 8, 8] : List Int) t3) <|
    let t4 := ixL (0 : Int) ([0, 1, 2, 2, 3, 3, 3, 3, 4, 4, 4, 4, 4, 4, 4, 4, 5, 5, 5, 5, 5, 5, 5, 5, 5, 5, 5, 5, 5, 5, 5, 5, 6, 6, 6, 6, 6, 6, 6, 6, 6, 6, 6, 6, 6, 6, 6, 6, 6, 6, 6, 6, 6, 6, 6, 6, 6, 6, 6, 6, 6, 6, 6, 6, 7, 7, 7, 7, 7, 7, 7, 7, 7, 7, 7, 7, 7, 7, 7, 7, 7, 7, 7, 7, 7, 7, 7, 7, 7, 7, 7, 7, 7, 7, 7, 7, 7, 7, 7, 7, 7, 7, 7, 7, 7, 7, 7, 7, 7, 7, 7, 7, 7, 7, 7, 7, 7, 7, 7, 7, 7, 7, 7, 7, 7, 7, 7, 7, 8, 8, 8, 8, 8, 8, 8, 8, 8, 8, 8, 8, 8, 8, 8, 8, 8, 8, 8, 8, 8, 8, 8, 8, 8, 8, 8, 8, 8, 8, 8, 8, 8, 8, 8, 8, 8, 8, 8, 8, 8, 8, 8, 8, 8, 8, 8, 8, 8, 8, 8, 8, 8, 8, 8, 8, 8, 8, 8, 8, 8, 8, 8, 8, 8, 8, 8, 8, 8, 8, 8, 8, 8, 8, 8, 8, 8, 8, 8, 8, 8, 8, 8, 8, 8, 8, 8, 8, 8, 8, 8, 8, 8, 8, 8, 8, 8, 8, 8, 8, 8, 8, 8, 8, 8, 8, 8, 8, 8, 8, 8, 8, 8, 8, 8, 8, 8, 8, 8, 8, 8, 8, 8, 8, 8, 8, 8, 8] : List Int) t3
    let t5 := IntKind.i64.wrap (t2 + IntKind.i64.wrap t4)
    k1 t5) (
    chk (ixOk ([0, 1, 2, 2, 3, 3, 3, 3, 4, 4, 4, 4, 4, 4, 4, 4, 5, 5, 5, 5, 5, 5, 5, 5, 5, 5, 5, 5, 5, 5, 5, 5, 6, 6, 6, 6, 6, 6, 6, 6, 6, 6, 6, 6, 6, 6, 6, 6, 6, 6, 6, 6, 6, 6, 6, 6, 6, 6, 6, 6, 6, 6, 6, 6, 7, 7, 7, 7, 7, 7, 7, 7, 7, 7, 7, 7, 7, 7, 7, 7, 7, 7, 7, 7, 7, 7, 7, 7, 7, 7, 7, 7, 7, 7, 7, 7, 7, 7, 7, 7, 7, 7, 7, 7, 7, 7, 7, 7, 7, 7, 7, 7, 7, 7, 7, 7, 7, 7, 7, 7, 7, 7, 7, 7, 7, 7, 7, 7, 8, 8, 8, 8, 8, 8, 8, 8, 8, 8, 8, 8, 8, 8, 8, 8, 8, 8, 8, 8, 8, 8, 8, 8, 8, 8, 8, 8, 8, 8, 8, 8, 8, 8, 8, 8, 8, 8, 8, 8, 8, 8, 8, 8, 8, 8, 8, 8, 8, 8, 8, 8, 8, 8, 8, 8, 8, 8, 8, 8, 8, 8, 8, 8, 8, 8, 8, 8, 8, 8, 8, 8, 8, 8, 8, 8, 8, 8, 8, 8, 8, 8, 8, 8, 8, 8, 8, 8, 8, 8, 8, 8, 8, 8, 8, 8, 8, 8, 8, 8, 8, 8, 8, 8, 8, 8, 8, 8, 8, 8, 8, 8, 8, 8, 8, 8, 8, 8, 8, 8, 8, 8, 8, 8, 8, 8, 8, 8] : List Int) (IntKind.u8.wrap xv)) <|
    let t6 := ixL (0 : Int) ([0, 1, 2, 2, 3, 3, 3, 3, 4, 4, 4, 4, 4, 4, 4, 4, 5, 5, 5, 5, 5, 5, 5, 5, 5, 5, 5, 5, 5, 5, 5, 5, 6, 6, 6, 6, 6, 6, 6, 6, 6, 6, 6, 6, 6, 6, 6, 6, 6, 6, 6, 6, 6, 6, 6, 6, 6, 6, 6, 6, 6, 6, 6, 6, 7, 7, 7, 7, 7, 7, 7, 7, 7, 7, 7, 7, 7, 7, 7, 7, 7, 7, 7, 7, 7, 7, 7, 7, 7, 7, 7, 7, 7, 7, 7, 7, 7, 7, 7, 7, 7, 7, 7, 7, 7, 7, 7, 7, 7, 7, 7, 7, 7, 7, 7, 7, 7, 7, 7, 7, 7, 7, 7, 7, 7, 7, 7, 7, 8, 8, 8, 8, 8, 8, 8, 8, 8, 8, 8, 8, 8, 8, 8, 8, 8, 8, 8, 8, 8, 8, 8, 8, 8, 8, 8, 8, 8, 8, 8, 8, 8, 8, 8, 8, 8, 8, 8, 8, 8, 8, 8, 8, 8, 8, 8, 8, 8, 8, 8, 8, 8, 8, 8, 8, 8, 8, 8, 8, 8, 8, 8, 8, 8, 8, 8, 8, 8, 8, 8, 8, 8, 8, 8, 8, 8, 8, 8, 8, 8, 8, 8, 8, 8, 8, 8, 8, 8, 8, 8, 8, 8, 8, 8, 8, 8, 8, 8, 8, 8, 8, 8, 8, 8, 8, 8, 8, 8, 8, 8, 8, 8, 8, 8, 8, 8, 8, 8, 8, 8, 8, 8, 8, 8, 8, 8, 8] : List Int) (IntKind.u8.wrap xv)
    let t7 := IntKind.i64.wrap (n + IntKind.i64.wrap t6)
    k1 t7)
noncomputable def bitsLen64.j4 (fu : Nat) (k1 : Int → Option (Int × Unit)) (xv : Int) (n : Int) : Option (Int × Unit) :=
  let t1 := decide (xv ≥ (65536 : Int))
  cond t1 (
    let t2 := IntKind.i64.wrap (n + (16 : Int))
    bitsLen64.j7 fu (fun nq3 => 
        k1 nq3) (sShr .u64 xv (16 : Int)) t2) (
    bitsLen64.j7 fu (fun nq4 => 
        k1 nq4) xv n)
noncomputable def bitsLen64 (fu : Nat) (xv : Int) : Option (Int × Unit) :=
  let t1 := decide (xv ≥ (4294967296 : Int))
  cond t1 (
    bitsLen64.j4 fu (fun nq1 => 
        some (nq1, ())) (sShr .u64 xv (32 : Int)) (32 : Int)) (
    bitsLen64.j4 fu (fun nq2 => 
        some (nq2, ())) xv (0 : Int))

noncomputable def bitsLen64.body : Code := Try.f31.body.getD .skip
abbrev bitsLen64.shj7 : Shp := ⟨[.d (.int .u64), .u, .d (.int .i64), .u, .u, .u, .u, .u, .u, .u, .u, .u, .u, .u, .u, .u, .u, .u, .u, .u, .u, .u, .u, .u, .u], []⟩
abbrev bitsLen64.outj7e1 : Shp := ⟨[.u, .u, .d (.int .i64), .u, .u, .u, .u, .u, .u, .u, .u, .u, .u, .u, .u, .u, .u, .u, .u, .u, .u, .u, .u, .u, .u], []⟩
noncomputable def bitsLen64.nmj7 : Norm := ⟨{ keep := [0, 2], shut := [(0, (.int .u64)), (2, (.int .i64))], retag := [], heap := 0, dead := [], cshut := [], cretag := [] }, [(1, { keep := [2], shut := [(2, (.int .i64))], retag := [], heap := 0, dead := [], cshut := [], cretag := [] })]⟩
abbrev bitsLen64.shj4 : Shp := ⟨[.d (.int .u64), .u, .d (.int .i64), .u, .u, .u, .u, .u, .u, .u, .u, .u, .u, .u, .u, .u, .u, .u, .u, .u, .u, .u, .u, .u, .u], []⟩
abbrev bitsLen64.outj4e1 : Shp := ⟨[.u, .u, .d (.int .i64), .u, .u, .u, .u, .u, .u, .u, .u, .u, .u, .u, .u, .u, .u, .u, .u, .u, .u, .u, .u, .u, .u], []⟩
noncomputable def bitsLen64.nmj4 : Norm := ⟨{ keep := [0, 2], shut := [(0, (.int .u64)), (2, (.int .i64))], retag := [], heap := 0, dead := [], cshut := [], cretag := [] }, [(1, { keep := [2], shut := [(2, (.int .i64))], retag := [], heap := 0, dead := [], cshut := [], cretag := [] })]⟩
noncomputable def bitsLen64.con : Con := { ps := [(.int .u64)], rs := [(.int .i64)], f := fun n x => bitsLen64 n x.1 }
noncomputable def bitsLen64.env : Env := { tys := [(3, ⟨(.int .i64), 8⟩), (5, ⟨(.int .u8), 1⟩), (23, ⟨(.int .u64), 8⟩), (9, ⟨.str, 16⟩)], elems := [], ptrs := [], cons := [], objs := [], loops := [], cuts := [(7, bitsLen64.nmj7), (4, bitsLen64.nmj4)], globs := globs, base := 0 }
noncomputable def bitsLen64.lp (n : Nat) : LP (Kd.struct bitsLen64.con.rs).T := fun lo κ body nm K s =>
  cond (!lo && Nat.beq κ 7)
    (match bitsLen64.shj7.dec s with
    | some v => bitsLen64.j7 n (fun w0 => K .ret (bitsLen64.outj7e1.enc (w0, ()))) v.1 v.2.1
    | none => loops n (Kd.struct bitsLen64.con.rs).T lo κ body nm K s)
    (cond (!lo && Nat.beq κ 4)
    (match bitsLen64.shj4.dec s with
    | some v => bitsLen64.j4 n (fun w0 => K .ret (bitsLen64.outj4e1.enc (w0, ()))) v.1 v.2.1
    | none => loops n (Kd.struct bitsLen64.con.rs).T lo κ body nm K s)
    (loops n (Kd.struct bitsLen64.con.rs).T lo κ body nm K s))
theorem bitsLen64.atj7 (n : Nat) (s : St) (K : Ex → St → Option (Kd.struct bitsLen64.con.rs).T) : bitsLen64.lp n false 7 (evK bitsLen64.env (bitsLen64.lp n) n (sub [1, 1, 1] bitsLen64.body)) bitsLen64.nmj7 K s = loops n (Kd.struct bitsLen64.con.rs).T false 7 (evK bitsLen64.env (bitsLen64.lp n) n (sub [1, 1, 1] bitsLen64.body)) bitsLen64.nmj7 K s := by
  show (match bitsLen64.shj7.dec s with | some v => bitsLen64.j7 n (fun w0 => K .ret (bitsLen64.outj7e1.enc (w0, ()))) v.1 v.2.1 | none => loops n (Kd.struct bitsLen64.con.rs).T false 7 (evK bitsLen64.env (bitsLen64.lp n) n (sub [1, 1, 1] bitsLen64.body)) bitsLen64.nmj7 K s) = _
  cases h : bitsLen64.shj7.dec s with
  | none => rfl
  | some v =>
    rw [Shp.dec_enc h]
    kernel_rfl
theorem bitsLen64.atj4 (n : Nat) (s : St) (K : Ex → St → Option (Kd.struct bitsLen64.con.rs).T) : bitsLen64.lp n false 4 (evK bitsLen64.env (bitsLen64.lp n) n (sub [1, 1] bitsLen64.body)) bitsLen64.nmj4 K s = loops n (Kd.struct bitsLen64.con.rs).T false 4 (evK bitsLen64.env (bitsLen64.lp n) n (sub [1, 1] bitsLen64.body)) bitsLen64.nmj4 K s := by
  show (match bitsLen64.shj4.dec s with | some v => bitsLen64.j4 n (fun w0 => K .ret (bitsLen64.outj4e1.enc (w0, ()))) v.1 v.2.1 | none => loops n (Kd.struct bitsLen64.con.rs).T false 4 (evK bitsLen64.env (bitsLen64.lp n) n (sub [1, 1] bitsLen64.body)) bitsLen64.nmj4 K s) = _
  cases h : bitsLen64.shj4.dec s with
  | none => rfl
  | some v =>
    rw [Shp.dec_enc h]
    kernel_rfl
theorem bitsLen64.eq (n : Nat) (x : (Kd.struct bitsLen64.con.ps).T) : evFunc bitsLen64.env Try.f31 bitsLen64.body bitsLen64.con.ps bitsLen64.con.rs (bitsLen64.lp n) n x = bitsLen64.con.f n x := by kernel_rfl
theorem bitsLen64.sound : Sound Try.prog globs 31 bitsLen64.con :=
  sound_by (E := bitsLen64.env) (c := bitsLen64.body) (envOk (G := globs) (lc := []) (lo := []) (envB_spec (by kernel_rfl)) rfl rfl trivial rfl trivial (by kernel_rfl) (by kernel_rfl)) Try.func31 (by kernel_rfl) bitsLen64.lp (l := [(false, sub [1, 1, 1] bitsLen64.body, bitsLen64.nmj7), (false, sub [1, 1] bitsLen64.body, bitsLen64.nmj4)]) (by kernel_rfl) (fun n => ⟨bitsLen64.atj7 n, ⟨bitsLen64.atj4 n, trivial⟩⟩) bitsLen64.eq
noncomputable def packSize (fu : Nat) (n : Int) : Option (Int × Unit) :=
  (bitsLen64 fu n).bind fun r1 =>
  let t2 := IntKind.i64.wrap (max2 r1.1 (1 : Int) + (6 : Int))
  let t3 := IntKind.i64.wrap (Int.tdiv t2 (7 : Int))
  some (t3, ())

noncomputable def packSize.body : Code := Try.f17.body.getD .skip
noncomputable def packSize.con : Con := { ps := [(.int .u64)], rs := [(.int .i64)], f := fun n x => packSize n x.1 }
noncomputable def packSize.env : Env := { tys := [(3, ⟨(.int .i64), 8⟩)], elems := [], ptrs := [], cons := [(31, bitsLen64.con)], objs := [], loops := [], cuts := [], globs := globs, base := 0 }
noncomputable def packSize.lp (n : Nat) : LP (Kd.struct packSize.con.rs).T := fun lo κ body nm K s =>
  loops n (Kd.struct packSize.con.rs).T lo κ body nm K s
theorem packSize.eq (n : Nat) (x : (Kd.struct packSize.con.ps).T) : evFunc packSize.env Try.f17 packSize.body packSize.con.ps packSize.con.rs (packSize.lp n) n x = packSize.con.f n x := by kernel_rfl
theorem packSize.sound : Sound Try.prog globs 17 packSize.con :=
  sound_by (E := packSize.env) (c := packSize.body) (envOk (G := globs) (lc := [(31, bitsLen64.con)]) (lo := []) (envB_spec (by kernel_rfl)) rfl rfl ⟨.inl ⟨bitsLen64.sound, by kernel_rfl⟩, trivial⟩ rfl trivial (by kernel_rfl) (by kernel_rfl)) Try.func17 (by kernel_rfl) packSize.lp (l := []) (by kernel_rfl) (fun n => trivial) packSize.eq
noncomputable def packOwn (fu : Nat) (b : List Int) (room : Int) : Option (((List Int) × Unit) × (Unit)) :=
  let t1 := IntKind.i64.wrap ((b.length : Int) + room)
  chk (mkOk (0 : Int) t1 1) <|
  let t2 := List.replicate (0 : Int).toNat (0 : Int)
  chk (apOk t2 b 1) <|
  some ((t2 ++ b, ()), (()))

noncomputable def packOwn.body : Code := Try.f29.body.getD .skip
noncomputable def packOwn.con : OCon := { ps := [.dat (.slice (.int .u8)), .dat (.int .i64)], rs := [.own (.int .u8)], f := fun n x => packOwn n x.1 x.2.1 }
noncomputable def packOwn.env : Env := { tys := [(22, ⟨(.slice (.int .u8)), 24⟩), (5, ⟨(.int .u8), 1⟩)], elems := [(22, 5)], ptrs := [], cons := [], objs := [], loops := [], cuts := [], globs := globs, base := 0 }
noncomputable def packOwn.lp (n : Nat) : LP (RT packOwn.con.rs × BT packOwn.con.ps) := fun lo κ body nm K s =>
  loops n (RT packOwn.con.rs × BT packOwn.con.ps) lo κ body nm K s
theorem packOwn.eq (n : Nat) (x : PT packOwn.con.ps) : evFuncO packOwn.env Try.f29 packOwn.body packOwn.con.ps packOwn.con.rs (packOwn.lp n) n x = packOwn.con.f n x := by kernel_rfl
theorem packOwn.sound : SoundO Try.prog globs 29 packOwn.con :=
  sound_byO (E := packOwn.env) (c := packOwn.body) (envOk (G := globs) (lc := []) (lo := []) (envB_spec (by kernel_rfl)) rfl rfl trivial rfl trivial (by kernel_rfl) (by kernel_rfl)) Try.func29 (by kernel_rfl) (by kernel_rfl) (by kernel_rfl) packOwn.lp (l := []) (by kernel_rfl) (fun n => trivial) packOwn.eq
noncomputable def packPutDat.b2 (fu : Nat) (next : Int → (List Int) → Option ((List Int) × Unit)) (k2 : Int → (List Int) → Option ((List Int) × Unit)) (n : Int) (out : List Int) : Option ((List Int) × Unit) :=
  cond (decide (n ≥ (128 : Int))) (
    let t1 := bOr .u8 (IntKind.u8.wrap n) (128 : Int)
    chk (apOk out ([t1]) 1) <|
    next (sShr .u64 n (7 : Int)) (out ++ ([t1]))) (
    k2 n out)
noncomputable def packPutDat.l2 (fu : Nat) (k2 : Int → (List Int) → Option ((List Int) × Unit)) : Nat → Int → (List Int) → Option ((List Int) × Unit)
  | 0, _, _ => none
  | m + 1, n, out => packPutDat.b2 fu (packPutDat.l2 fu k2 m) k2 n out
noncomputable def packPutDat (fu : Nat) (b : List Int) (n : Int) : Option ((List Int) × Unit) :=
  (packSize fu n).bind fun r1 =>
  (packOwn fu b r1.1).bind fun r2 =>
  packPutDat.l2 fu (fun nq2 outq2 => 
      chk (apOk outq2 ([IntKind.u8.wrap nq2]) 1) <|
      let t3 := outq2 ++ ([IntKind.u8.wrap nq2])
      some (t3, ())) fu n r2.1.1

noncomputable def packPutDat.body : Code := Try.f9.body.getD .skip
abbrev packPutDat.shl2 : Shp := ⟨[.u, .d (.int .u64), .u, .u, .u, .o 5 (.int .u8), .u, .u, .u, .u, .u, .u, .u, .u, .u, .u, .u, .u, .u, .u, .u, .u, .u, .u, .u], []⟩
abbrev packPutDat.outl2e2 : Shp := ⟨[.u, .d (.int .u64), .u, .u, .u, .o 5 (.int .u8), .u, .u, .u, .u, .u, .u, .u, .u, .u, .u, .u, .u, .u, .u, .u, .u, .u, .u, .u], []⟩
noncomputable def packPutDat.nml2 : Norm := ⟨{ keep := [1, 5], shut := [(1, (.int .u64))], retag := [(5, 5, (.int .u8))], heap := 0, dead := [], cshut := [], cretag := [] }, [(2, { keep := [1, 5], shut := [(1, (.int .u64))], retag := [(5, 5, (.int .u8))], heap := 0, dead := [], cshut := [], cretag := [] })]⟩
noncomputable def packPutDat.con : Con := { ps := [(.slice (.int .u8)), (.int .u64)], rs := [(.slice (.int .u8))], f := fun n x => packPutDat n x.1 x.2.1 }
noncomputable def packPutDat.env : Env := { tys := [(22, ⟨(.slice (.int .u8)), 24⟩), (5, ⟨(.int .u8), 1⟩), (23, ⟨(.int .u64), 8⟩)], elems := [(22, 5)], ptrs := [], cons := [(17, packSize.con)], objs := [(29, [packOwn.con])], loops := [(2, packPutDat.nml2)], cuts := [], globs := globs, base := 0 }
noncomputable def packPutDat.lp (n : Nat) : LP (Kd.struct packPutDat.con.rs).T := fun lo κ body nm K s =>
  cond (lo && Nat.beq κ 2)
    (match packPutDat.shl2.dec s with
    | some v => packPutDat.l2 n (fun w0 w1 => K (.exit 0) (packPutDat.outl2e2.enc (w0, w1, ()))) n v.1 v.2.1
    | none => loops n (Kd.struct packPutDat.con.rs).T lo κ body nm K s)
    (loops n (Kd.struct packPutDat.con.rs).T lo κ body nm K s)
theorem packPutDat.atl2 (n : Nat) (s : St) (K : Ex → St → Option (Kd.struct packPutDat.con.rs).T) : packPutDat.lp n true 2 (evK packPutDat.env (packPutDat.lp n) n (sub [1, 1, 0, 0, 0] packPutDat.body)) packPutDat.nml2 K s = loops n (Kd.struct packPutDat.con.rs).T true 2 (evK packPutDat.env (packPutDat.lp n) n (sub [1, 1, 0, 0, 0] packPutDat.body)) packPutDat.nml2 K s := by
  show (match packPutDat.shl2.dec s with | some v => packPutDat.l2 n (fun w0 w1 => K (.exit 0) (packPutDat.outl2e2.enc (w0, w1, ()))) n v.1 v.2.1 | none => loops n (Kd.struct packPutDat.con.rs).T true 2 (evK packPutDat.env (packPutDat.lp n) n (sub [1, 1, 0, 0, 0] packPutDat.body)) packPutDat.nml2 K s) = _
  cases h : packPutDat.shl2.dec s with
  | none => rfl
  | some v =>
    rw [Shp.dec_enc h]
    exact (evLoop_eq (sh := packPutDat.shl2) (body := evK packPutDat.env (packPutDat.lp n) n (sub [1, 1, 0, 0, 0] packPutDat.body)) (nm := packPutDat.nml2) (K := K) (b := fun nx v => packPutDat.b2 n (fun x0 x1 => nx (x0, x1, ())) (fun w0 w1 => K (.exit 0) (packPutDat.outl2e2.enc (w0, w1, ()))) v.1 v.2.1) (l := fun m v => packPutDat.l2 n (fun w0 w1 => K (.exit 0) (packPutDat.outl2e2.enc (w0, w1, ()))) m v.1 v.2.1) (fun _ => rfl) (fun _ _ => rfl) (fun m v => by kernel_rfl) n v).symm
theorem packPutDat.eq (n : Nat) (x : (Kd.struct packPutDat.con.ps).T) : evFunc packPutDat.env Try.f9 packPutDat.body packPutDat.con.ps packPutDat.con.rs (packPutDat.lp n) n x = packPutDat.con.f n x := by kernel_rfl
theorem packPutDat.sound : Sound Try.prog globs 9 packPutDat.con :=
  sound_by (E := packPutDat.env) (c := packPutDat.body) (envOk (G := globs) (lc := [(17, packSize.con)]) (lo := [(29, [packOwn.con])]) (envB_spec (by kernel_rfl)) rfl rfl ⟨.inl ⟨packSize.sound, by kernel_rfl⟩, trivial⟩ rfl ⟨⟨⟨packOwn.sound, trivial⟩, by kernel_rfl⟩, trivial⟩ (by kernel_rfl) (by kernel_rfl)) Try.func9 (by kernel_rfl) packPutDat.lp (l := [(true, sub [1, 1, 0, 0, 0] packPutDat.body, packPutDat.nml2)]) (by kernel_rfl) (fun n => ⟨packPutDat.atl2 n, trivial⟩) packPutDat.eq
noncomputable def packPutInt (fu : Nat) (b : List Int) (n : Int) : Option ((List Int) × Unit) :=
  let t1 := sShl .u64 (IntKind.u64.wrap n) (1 : Int)
  let t2 := IntKind.u64.wrap (sShr .i64 n (63 : Int))
  (packPutDat fu b (bXor .u64 t1 t2)).bind fun r3 =>
  some (r3.1, ())

noncomputable def packPutInt.body : Code := Try.f10.body.getD .skip
noncomputable def packPutInt.con : Con := { ps := [(.slice (.int .u8)), (.int .i64)], rs := [(.slice (.int .u8))], f := fun n x => packPutInt n x.1 x.2.1 }
noncomputable def packPutInt.env : Env := { tys := [(22, ⟨(.slice (.int .u8)), 24⟩), (23, ⟨(.int .u64), 8⟩), (2, ⟨(.int .i64), 8⟩)], elems := [], ptrs := [], cons := [(9, packPutDat.con)], objs := [], loops := [], cuts := [], globs := globs, base := 0 }
noncomputable def packPutInt.lp (n : Nat) : LP (Kd.struct packPutInt.con.rs).T := fun lo κ body nm K s =>
  loops n (Kd.struct packPutInt.con.rs).T lo κ body nm K s
theorem packPutInt.eq (n : Nat) (x : (Kd.struct packPutInt.con.ps).T) : evFunc packPutInt.env Try.f10 packPutInt.body packPutInt.con.ps packPutInt.con.rs (packPutInt.lp n) n x = packPutInt.con.f n x := by kernel_rfl
theorem packPutInt.sound : Sound Try.prog globs 10 packPutInt.con :=
  sound_by (E := packPutInt.env) (c := packPutInt.body) (envOk (G := globs) (lc := [(9, packPutDat.con)]) (lo := []) (envB_spec (by kernel_rfl)) rfl rfl ⟨.inl ⟨packPutDat.sound, by kernel_rfl⟩, trivial⟩ rfl trivial (by kernel_rfl) (by kernel_rfl)) Try.func10 (by kernel_rfl) packPutInt.lp (l := []) (by kernel_rfl) (fun n => trivial) packPutInt.eq
noncomputable def law03Fixed (fu : Nat) : Option (Bool × Unit) :=
  (packPutDat fu [] (300 : Int)).bind fun r1 =>
  let t2 := r1.1 == ([172, 2] : List Int)
  cond t2 (
    (packPutInt fu [] (-1 : Int)).bind fun r3 =>
    cond (r3.1 == ([1] : List Int)) (
      (packSize fu (300 : Int)).bind fun r4 =>
      some (r4.1 == (2 : Int), ())) (
      some (false, ()))) (
    some (false, ()))

noncomputable def law03Fixed.body : Code := Try.f7.body.getD .skip
noncomputable def law03Fixed.con : Con := { ps := [], rs := [.bool], f := fun n x => law03Fixed n }
noncomputable def law03Fixed.env : Env := { tys := [(4, ⟨.bool, 1⟩), (9, ⟨.str, 16⟩), (22, ⟨(.slice (.int .u8)), 24⟩), (5, ⟨(.int .u8), 1⟩)], elems := [(22, 5)], ptrs := [], cons := [(9, packPutDat.con), (10, packPutInt.con), (17, packSize.con)], objs := [], loops := [], cuts := [], globs := globs, base := 0 }
noncomputable def law03Fixed.lp (n : Nat) : LP (Kd.struct law03Fixed.con.rs).T := fun lo κ body nm K s =>
  loops n (Kd.struct law03Fixed.con.rs).T lo κ body nm K s
theorem law03Fixed.eq (n : Nat) (x : (Kd.struct law03Fixed.con.ps).T) : evFunc law03Fixed.env Try.f7 law03Fixed.body law03Fixed.con.ps law03Fixed.con.rs (law03Fixed.lp n) n x = law03Fixed.con.f n x := by kernel_rfl
theorem law03Fixed.sound : Sound Try.prog globs 7 law03Fixed.con :=
  sound_by (E := law03Fixed.env) (c := law03Fixed.body) (envOk (G := globs) (lc := [(9, packPutDat.con), (10, packPutInt.con), (17, packSize.con)]) (lo := []) (envB_spec (by kernel_rfl)) rfl rfl ⟨.inl ⟨packPutDat.sound, by kernel_rfl⟩, ⟨.inl ⟨packPutInt.sound, by kernel_rfl⟩, ⟨.inl ⟨packSize.sound, by kernel_rfl⟩, trivial⟩⟩⟩ rfl trivial (by kernel_rfl) (by kernel_rfl)) Try.func7 (by kernel_rfl) law03Fixed.lp (l := []) (by kernel_rfl) (fun n => trivial) law03Fixed.eq
noncomputable def packGet.j50013 (fu : Nat) (k1 : Int → Int → Int → Option (Int × Int × Int × Unit)) (atv : Int) (n : Int) (i : Int) (v : Bool) : Option (Int × Int × Int × Unit) :=
  cond v (
    k1 (0 : Int) (0 : Int) (2 : Int)) (
    let t1 := IntKind.i64.wrap (atv + i)
    let t2 := IntKind.i64.wrap (t1 + (1 : Int))
    k1 n t2 (0 : Int))
noncomputable def packGet.j9 (fu : Nat) (k0 : Int → Int → (List Int) → Int → Int → Option (Int × Int × Int × Unit)) (k1 : Int → Int → Int → Option (Int × Int × Int × Unit)) (atv : Int) (n : Int) (i : Int) (c : Int) (v : List Int) (vx2 : Int) (vx3 : Int) : Option (Int × Int × Int × Unit) :=
  let t1 := IntKind.u64.wrap (bAnd .u8 c (127 : Int))
  let t2 := IntKind.i64.wrap ((7 : Int) * i)
  chk (!decide (t2 < 0)) <|
  let t3 := bOr .u64 n (sShl .u64 t1 t2)
  cond (decide (c ≥ (128 : Int))) (
    k0 atv t3 v vx2 vx3) (
    cond (c == (0 : Int)) (
      packGet.j50013 fu (fun vq5 vq5x2 vq5x3 => 
          k1 vq5 vq5x2 vq5x3) atv t3 i (decide (i > (0 : Int)))) (
      packGet.j50013 fu (fun vq6 vq6x2 vq6x3 => 
          k1 vq6 vq6x2 vq6x3) atv t3 i false))
noncomputable def packGet.b5 (fu : Nat) (next : Int → Int → (List Int) → Int → Int → Option (Int × Int × Int × Unit)) (k1 : Int → Int → Int → Option (Int × Int × Int × Unit)) (k2 : Unit → Option (Int × Int × Int × Unit)) (atv : Int) (n : Int) (v : List Int) (vx2 : Int) (vx3 : Int) : Option (Int × Int × Int × Unit) :=
  cond (decide (vx3 < vx2)) (
    chk (ixOk v vx3) <|
    let e1 := ixL (0 : Int) v vx3
    cond (vx3 == (9 : Int)) (
      cond (decide (e1 > (1 : Int))) (
        k1 (0 : Int) (0 : Int) (4 : Int)) (
        packGet.j9 fu (fun atvq11 nq11 vq11 vq11x2 vq11x3 => 
            let t2 := IntKind.i64.wrap (vq11x3 + (1 : Int))
            next atvq11 nq11 vq11 vq11x2 t2) (fun vq12 vq12x2 vq12x3 => 
            k1 vq12 vq12x2 vq12x3) atv n vx3 e1 v vx2 vx3)) (
      packGet.j9 fu (fun atvq13 nq13 vq13 vq13x2 vq13x3 => 
          let t3 := IntKind.i64.wrap (vq13x3 + (1 : Int))
          next atvq13 nq13 vq13 vq13x2 t3) (fun vq14 vq14x2 vq14x3 => 
          k1 vq14 vq14x2 vq14x3) atv n vx3 e1 v vx2 vx3)) (
    k2 ())
noncomputable def packGet.l5 (fu : Nat) (k1 : Int → Int → Int → Option (Int × Int × Int × Unit)) (k2 : Unit → Option (Int × Int × Int × Unit)) : Nat → Int → Int → (List Int) → Int → Int → Option (Int × Int × Int × Unit)
  | 0, _, _, _, _, _ => none
  | m + 1, atv, n, v, vx2, vx3 => packGet.b5 fu (packGet.l5 fu k1 k2 m) k1 k2 atv n v vx2 vx3
noncomputable def packGet (fu : Nat) (b : List Int) (atv : Int) : Option (Int × Int × Int × Unit) :=
  cond (decide (atv < (0 : Int))) (
    some ((0 : Int), (0 : Int), (3 : Int), ())) (
    let t1 := decide (atv > (b.length : Int))
    cond t1 (
      some ((0 : Int), (0 : Int), (3 : Int), ())) (
      chk (cutOk b atv (b.length : Int)) <|
      let t2 := cutL b atv (b.length : Int)
      packGet.l5 fu (fun vq3 vq3x2 vq3x3 => 
          some (vq3, vq3x2, vq3x3, ())) (fun (_ : Unit) => 
          some ((0 : Int), (0 : Int), (3 : Int), ())) fu atv (0 : Int) t2 (t2.length : Int) (0 : Int)))

noncomputable def packGet.body : Code := Try.f18.body.getD .skip
abbrev packGet.shj50013 : Shp := ⟨[.u, .d (.int .i64), .u, .u, .u, .u, .u, .d (.int .u64), .d (.int .i64), .u, .u, .u, .u, .u, .u, .u, .u, .u, .u, .u, .u, .u, .u, .u, .u, .u, .u, .u, .u, .u, .u, .u, .u, .u, .u, .u, .u, .u, .u, .u, .u, .u, .u, .u, .u, .u, .u, .u, .u, .d .bool, .u, .u, .u, .u, .u, .u, .u], []⟩
abbrev packGet.outj50013e1 : Shp := ⟨[.u, .u, .u, .u, .d (.int .u64), .d (.int .i64), .d (.int .i64), .u, .u, .u, .u, .u, .u, .u, .u, .u, .u, .u, .u, .u, .u, .u, .u, .u, .u, .u, .u, .u, .u, .u, .u, .u, .u, .u, .u, .u, .u, .u, .u, .u, .u, .u, .u, .u, .u, .u, .u, .u, .u, .u, .u, .u, .u, .u, .u, .u, .u], []⟩
noncomputable def packGet.nmj50013 : Norm := ⟨{ keep := [1, 7, 8, 49], shut := [(1, (.int .i64)), (7, (.int .u64)), (8, (.int .i64)), (49, .bool)], retag := [], heap := 0, dead := [], cshut := [], cretag := [] }, [(1, { keep := [4, 5, 6], shut := [(4, (.int .u64)), (5, (.int .i64)), (6, (.int .i64))], retag := [], heap := 0, dead := [], cshut := [], cretag := [] })]⟩
abbrev packGet.shj9 : Shp := ⟨[.u, .d (.int .i64), .u, .u, .u, .u, .u, .d (.int .u64), .d (.int .i64), .d (.int .u8), .u, .u, .u, .u, .u, .u, .u, .u, .u, .u, .d (.slice (.int .u8)), .d (.int .i64), .d (.int .i64), .u, .u, .u, .u, .u, .u, .u, .u, .u, .u, .u, .u, .u, .u, .u, .u, .u, .u, .u, .u, .u, .u, .u, .u, .u, .u, .u, .u, .u, .u, .u, .u, .u, .u], []⟩
abbrev packGet.outj9e0 : Shp := ⟨[.u, .d (.int .i64), .u, .u, .u, .u, .u, .d (.int .u64), .u, .u, .u, .u, .u, .u, .u, .u, .u, .u, .u, .u, .d (.slice (.int .u8)), .d (.int .i64), .d (.int .i64), .u, .u, .u, .u, .u, .u, .u, .u, .u, .u, .u, .u, .u, .u, .u, .u, .u, .u, .u, .u, .u, .u, .u, .u, .u, .u, .u, .u, .u, .u, .u, .u, .u, .u], []⟩
abbrev packGet.outj9e1 : Shp := ⟨[.u, .u, .u, .u, .d (.int .u64), .d (.int .i64), .d (.int .i64), .u, .u, .u, .u, .u, .u, .u, .u, .u, .u, .u, .u, .u, .u, .u, .u, .u, .u, .u, .u, .u, .u, .u, .u, .u, .u, .u, .u, .u, .u, .u, .u, .u, .u, .u, .u, .u, .u, .u, .u, .u, .u, .u, .u, .u, .u, .u, .u, .u, .u], []⟩
noncomputable def packGet.nmj9 : Norm := ⟨{ keep := [1, 7, 8, 9, 20, 21, 22], shut := [(1, (.int .i64)), (7, (.int .u64)), (8, (.int .i64)), (9, (.int .u8)), (20, (.slice (.int .u8))), (21, (.int .i64)), (22, (.int .i64))], retag := [], heap := 0, dead := [], cshut := [], cretag := [] }, [(0, { keep := [1, 7, 20, 21, 22], shut := [(1, (.int .i64)), (7, (.int .u64)), (20, (.slice (.int .u8))), (21, (.int .i64)), (22, (.int .i64))], retag := [], heap := 0, dead := [], cshut := [], cretag := [] }), (1, { keep := [4, 5, 6], shut := [(4, (.int .u64)), (5, (.int .i64)), (6, (.int .i64))], retag := [], heap := 0, dead := [], cshut := [], cretag := [] })]⟩
abbrev packGet.shl5 : Shp := ⟨[.u, .d (.int .i64), .u, .u, .u, .u, .u, .d (.int .u64), .u, .u, .u, .u, .u, .u, .u, .u, .u, .u, .u, .u, .d (.slice (.int .u8)), .d (.int .i64), .d (.int .i64), .u, .u, .u, .u, .u, .u, .u, .u, .u, .u, .u, .u, .u, .u, .u, .u, .u, .u, .u, .u, .u, .u, .u, .u, .u, .u, .u, .u, .u, .u, .u, .u, .u, .u], []⟩
abbrev packGet.outl5e1 : Shp := ⟨[.u, .u, .u, .u, .d (.int .u64), .d (.int .i64), .d (.int .i64), .u, .u, .u, .u, .u, .u, .u, .u, .u, .u, .u, .u, .u, .u, .u, .u, .u, .u, .u, .u, .u, .u, .u, .u, .u, .u, .u, .u, .u, .u, .u, .u, .u, .u, .u, .u, .u, .u, .u, .u, .u, .u, .u, .u, .u, .u, .u, .u, .u, .u], []⟩
abbrev packGet.outl5e2 : Shp := ⟨[.u, .u, .u, .u, .u, .u, .u, .u, .u, .u, .u, .u, .u, .u, .u, .u, .u, .u, .u, .u, .u, .u, .u, .u, .u, .u, .u, .u, .u, .u, .u, .u, .u, .u, .u, .u, .u, .u, .u, .u, .u, .u, .u, .u, .u, .u, .u, .u, .u, .u, .u, .u, .u, .u, .u, .u, .u], []⟩
noncomputable def packGet.nml5 : Norm := ⟨{ keep := [1, 7, 20, 21, 22], shut := [(1, (.int .i64)), (7, (.int .u64)), (20, (.slice (.int .u8))), (21, (.int .i64)), (22, (.int .i64))], retag := [], heap := 0, dead := [], cshut := [], cretag := [] }, [(1, { keep := [4, 5, 6], shut := [(4, (.int .u64)), (5, (.int .i64)), (6, (.int .i64))], retag := [], heap := 0, dead := [], cshut := [], cretag := [] }), (2, { keep := [], shut := [], retag := [], heap := 0, dead := [], cshut := [], cretag := [] })]⟩
noncomputable def packGet.con : Con := { ps := [(.slice (.int .u8)), (.int .i64)], rs := [(.int .u64), (.int .i64), (.int .i64)], f := fun n x => packGet n x.1 x.2.1 }
noncomputable def packGet.env : Env := { tys := [(23, ⟨(.int .u64), 8⟩), (3, ⟨(.int .i64), 8⟩), (33, ⟨(.int .i64), 8⟩), (4, ⟨.bool, 1⟩), (5, ⟨(.int .u8), 1⟩)], elems := [(22, 5)], ptrs := [], cons := [], objs := [], loops := [(5, packGet.nml5)], cuts := [(50013, packGet.nmj50013), (9, packGet.nmj9)], globs := globs, base := 0 }
noncomputable def packGet.lp (n : Nat) : LP (Kd.struct packGet.con.rs).T := fun lo κ body nm K s =>
  cond (!lo && Nat.beq κ 50013)
    (match packGet.shj50013.dec s with
    | some v => packGet.j50013 n (fun w0 w1 w2 => K .ret (packGet.outj50013e1.enc (w0, w1, w2, ()))) v.1 v.2.1 v.2.2.1 v.2.2.2.1
    | none => loops n (Kd.struct packGet.con.rs).T lo κ body nm K s)
    (cond (!lo && Nat.beq κ 9)
    (match packGet.shj9.dec s with
    | some v => packGet.j9 n (fun w0 w1 w2 w3 w4 => K .normal (packGet.outj9e0.enc (w0, w1, w2, w3, w4, ()))) (fun w0 w1 w2 => K .ret (packGet.outj9e1.enc (w0, w1, w2, ()))) v.1 v.2.1 v.2.2.1 v.2.2.2.1 v.2.2.2.2.1 v.2.2.2.2.2.1 v.2.2.2.2.2.2.1
    | none => loops n (Kd.struct packGet.con.rs).T lo κ body nm K s)
    (cond (lo && Nat.beq κ 5)
    (match packGet.shl5.dec s with
    | some v => packGet.l5 n (fun w0 w1 w2 => K .ret (packGet.outl5e1.enc (w0, w1, w2, ()))) (fun _ => K (.exit 0) (packGet.outl5e2.enc (()))) n v.1 v.2.1 v.2.2.1 v.2.2.2.1 v.2.2.2.2.1
    | none => loops n (Kd.struct packGet.con.rs).T lo κ body nm K s)
    (loops n (Kd.struct packGet.con.rs).T lo κ body nm K s)))
theorem packGet.atj50013 (n : Nat) (s : St) (K : Ex → St → Option (Kd.struct packGet.con.rs).T) : packGet.lp n false 50013 (evK packGet.env (packGet.lp n) n (sub [1, 1, 1, 0, 1, 0, 0, 1, 1, 0, 0, 1, 1, 1, 0, 1, 1, 1] packGet.body)) packGet.nmj50013 K s = loops n (Kd.struct packGet.con.rs).T false 50013 (evK packGet.env (packGet.lp n) n (sub [1, 1, 1, 0, 1, 0, 0, 1, 1, 0, 0, 1, 1, 1, 0, 1, 1, 1] packGet.body)) packGet.nmj50013 K s := by
  show (match packGet.shj50013.dec s with | some v => packGet.j50013 n (fun w0 w1 w2 => K .ret (packGet.outj50013e1.enc (w0, w1, w2, ()))) v.1 v.2.1 v.2.2.1 v.2.2.2.1 | none => loops n (Kd.struct packGet.con.rs).T false 50013 (evK packGet.env (packGet.lp n) n (sub [1, 1, 1, 0, 1, 0, 0, 1, 1, 0, 0, 1, 1, 1, 0, 1, 1, 1] packGet.body)) packGet.nmj50013 K s) = _
  cases h : packGet.shj50013.dec s with
  | none => rfl
  | some v =>
    rw [Shp.dec_enc h]
    kernel_rfl
theorem packGet.atj9 (n : Nat) (s : St) (K : Ex → St → Option (Kd.struct packGet.con.rs).T) : packGet.lp n false 9 (evK packGet.env (packGet.lp n) n (sub [1, 1, 1, 0, 1, 0, 0, 1, 1, 0, 0, 1, 1] packGet.body)) packGet.nmj9 K s = loops n (Kd.struct packGet.con.rs).T false 9 (evK packGet.env (packGet.lp n) n (sub [1, 1, 1, 0, 1, 0, 0, 1, 1, 0, 0, 1, 1] packGet.body)) packGet.nmj9 K s := by
  show (match packGet.shj9.dec s with | some v => packGet.j9 n (fun w0 w1 w2 w3 w4 => K .normal (packGet.outj9e0.enc (w0, w1, w2, w3, w4, ()))) (fun w0 w1 w2 => K .ret (packGet.outj9e1.enc (w0, w1, w2, ()))) v.1 v.2.1 v.2.2.1 v.2.2.2.1 v.2.2.2.2.1 v.2.2.2.2.2.1 v.2.2.2.2.2.2.1 | none => loops n (Kd.struct packGet.con.rs).T false 9 (evK packGet.env (packGet.lp n) n (sub [1, 1, 1, 0, 1, 0, 0, 1, 1, 0, 0, 1, 1] packGet.body)) packGet.nmj9 K s) = _
  cases h : packGet.shj9.dec s with
  | none => rfl
  | some v =>
    rw [Shp.dec_enc h]
    kernel_rfl
theorem packGet.atl5 (n : Nat) (s : St) (K : Ex → St → Option (Kd.struct packGet.con.rs).T) : packGet.lp n true 5 (evK packGet.env (packGet.lp n) n (sub [1, 1, 1, 0, 1, 0, 0] packGet.body)) packGet.nml5 K s = loops n (Kd.struct packGet.con.rs).T true 5 (evK packGet.env (packGet.lp n) n (sub [1, 1, 1, 0, 1, 0, 0] packGet.body)) packGet.nml5 K s := by
  show (match packGet.shl5.dec s with | some v => packGet.l5 n (fun w0 w1 w2 => K .ret (packGet.outl5e1.enc (w0, w1, w2, ()))) (fun _ => K (.exit 0) (packGet.outl5e2.enc (()))) n v.1 v.2.1 v.2.2.1 v.2.2.2.1 v.2.2.2.2.1 | none => loops n (Kd.struct packGet.con.rs).T true 5 (evK packGet.env (packGet.lp n) n (sub [1, 1, 1, 0, 1, 0, 0] packGet.body)) packGet.nml5 K s) = _
  cases h : packGet.shl5.dec s with
  | none => rfl
  | some v =>
    rw [Shp.dec_enc h]
    exact (evLoop_eq (sh := packGet.shl5) (body := evK packGet.env (packGet.lp n) n (sub [1, 1, 1, 0, 1, 0, 0] packGet.body)) (nm := packGet.nml5) (K := K) (b := fun nx v => packGet.b5 n (fun x0 x1 x2 x3 x4 => nx (x0, x1, x2, x3, x4, ())) (fun w0 w1 w2 => K .ret (packGet.outl5e1.enc (w0, w1, w2, ()))) (fun _ => K (.exit 0) (packGet.outl5e2.enc (()))) v.1 v.2.1 v.2.2.1 v.2.2.2.1 v.2.2.2.2.1) (l := fun m v => packGet.l5 n (fun w0 w1 w2 => K .ret (packGet.outl5e1.enc (w0, w1, w2, ()))) (fun _ => K (.exit 0) (packGet.outl5e2.enc (()))) m v.1 v.2.1 v.2.2.1 v.2.2.2.1 v.2.2.2.2.1) (fun _ => rfl) (fun _ _ => rfl) (fun m v => by kernel_rfl) n v).symm
theorem packGet.eq (n : Nat) (x : (Kd.struct packGet.con.ps).T) : evFunc packGet.env Try.f18 packGet.body packGet.con.ps packGet.con.rs (packGet.lp n) n x = packGet.con.f n x := by kernel_rfl
theorem packGet.sound : Sound Try.prog globs 18 packGet.con :=
  sound_by (E := packGet.env) (c := packGet.body) (envOk (G := globs) (lc := []) (lo := []) (envB_spec (by kernel_rfl)) rfl rfl trivial rfl trivial (by kernel_rfl) (by kernel_rfl)) Try.func18 (by kernel_rfl) packGet.lp (l := [(false, sub [1, 1, 1, 0, 1, 0, 0, 1, 1, 0, 0, 1, 1, 1, 0, 1, 1, 1] packGet.body, packGet.nmj50013), (false, sub [1, 1, 1, 0, 1, 0, 0, 1, 1, 0, 0, 1, 1] packGet.body, packGet.nmj9), (true, sub [1, 1, 1, 0, 1, 0, 0] packGet.body, packGet.nml5)]) (by kernel_rfl) (fun n => ⟨packGet.atj50013 n, ⟨packGet.atj9 n, ⟨packGet.atl5 n, trivial⟩⟩⟩) packGet.eq
noncomputable def packGetText (fu : Nat) (b : List Int) (atv : Int) (most : Int) : Option ((List Int) × Int × Int × Unit) :=
  (packGet fu b atv).bind fun r1 =>
  cond (r1.2.2.1 != (0 : Int)) (
    some (([] : List Int), (0 : Int), r1.2.2.1, ())) (
    let t2 := IntKind.u64.wrap (max2 most (0 : Int))
    cond (decide (r1.1 > t2)) (
      some (([] : List Int), (0 : Int), (4 : Int), ())) (
      let t3 := IntKind.i64.wrap ((b.length : Int) - r1.2.1)
      let t4 := decide (r1.1 > IntKind.u64.wrap t3)
      cond t4 (
        some (([] : List Int), (0 : Int), (3 : Int), ())) (
        let t5 := IntKind.i64.wrap (r1.2.1 + IntKind.i64.wrap r1.1)
        chk (cutOk b r1.2.1 t5) <|
        let t6 := IntKind.i64.wrap (r1.2.1 + IntKind.i64.wrap r1.1)
        some (cutL b r1.2.1 t5, t6, (0 : Int), ()))))

noncomputable def packGetText.body : Code := Try.f22.body.getD .skip
noncomputable def packGetText.con : Con := { ps := [(.slice (.int .u8)), (.int .i64), (.int .i64)], rs := [.str, (.int .i64), (.int .i64)], f := fun n x => packGetText n x.1 x.2.1 x.2.2.1 }
noncomputable def packGetText.env : Env := { tys := [(9, ⟨.str, 16⟩), (3, ⟨(.int .i64), 8⟩), (33, ⟨(.int .i64), 8⟩), (23, ⟨(.int .u64), 8⟩), (5, ⟨(.int .u8), 1⟩), (22, ⟨(.slice (.int .u8)), 24⟩)], elems := [(22, 5)], ptrs := [], cons := [(18, packGet.con)], objs := [], loops := [], cuts := [], globs := globs, base := 0 }
noncomputable def packGetText.lp (n : Nat) : LP (Kd.struct packGetText.con.rs).T := fun lo κ body nm K s =>
  loops n (Kd.struct packGetText.con.rs).T lo κ body nm K s
theorem packGetText.eq (n : Nat) (x : (Kd.struct packGetText.con.ps).T) : evFunc packGetText.env Try.f22 packGetText.body packGetText.con.ps packGetText.con.rs (packGetText.lp n) n x = packGetText.con.f n x := by kernel_rfl
theorem packGetText.sound : Sound Try.prog globs 22 packGetText.con :=
  sound_by (E := packGetText.env) (c := packGetText.body) (envOk (G := globs) (lc := [(18, packGet.con)]) (lo := []) (envB_spec (by kernel_rfl)) rfl rfl ⟨.inl ⟨packGet.sound, by kernel_rfl⟩, trivial⟩ rfl trivial (by kernel_rfl) (by kernel_rfl)) Try.func22 (by kernel_rfl) packGetText.lp (l := []) (by kernel_rfl) (fun n => trivial) packGetText.eq
noncomputable def packPut.b2 (fu : Nat) (next : Int → (List Int) → Option (((List Int) × Unit) × (Unit))) (k2 : Int → (List Int) → Option (((List Int) × Unit) × (Unit))) (n : Int) (out : List Int) : Option (((List Int) × Unit) × (Unit)) :=
  cond (decide (n ≥ (128 : Int))) (
    let t1 := bOr .u8 (IntKind.u8.wrap n) (128 : Int)
    chk (apOk out ([t1]) 1) <|
    next (sShr .u64 n (7 : Int)) (out ++ ([t1]))) (
    k2 n out)
noncomputable def packPut.l2 (fu : Nat) (k2 : Int → (List Int) → Option (((List Int) × Unit) × (Unit))) : Nat → Int → (List Int) → Option (((List Int) × Unit) × (Unit))
  | 0, _, _ => none
  | m + 1, n, out => packPut.b2 fu (packPut.l2 fu k2 m) k2 n out
noncomputable def packPut (fu : Nat) (b : List Int) (n : Int) : Option (((List Int) × Unit) × (Unit)) :=
  (packSize fu n).bind fun r1 =>
  (packOwn fu b r1.1).bind fun r2 =>
  packPut.l2 fu (fun nq2 outq2 => 
      chk (apOk outq2 ([IntKind.u8.wrap nq2]) 1) <|
      let t3 := outq2 ++ ([IntKind.u8.wrap nq2])
      some ((t3, ()), (()))) fu n r2.1.1

noncomputable def packPut.body : Code := Try.f9.body.getD .skip
abbrev packPut.shl2 : Shp := ⟨[.u, .d (.int .u64), .u, .u, .u, .o 5 (.int .u8), .u, .u, .u, .u, .u, .u, .u, .u, .u, .u, .u, .u, .u, .u, .u, .u, .u, .u, .u], []⟩
abbrev packPut.outl2e2 : Shp := ⟨[.u, .d (.int .u64), .u, .u, .u, .o 5 (.int .u8), .u, .u, .u, .u, .u, .u, .u, .u, .u, .u, .u, .u, .u, .u, .u, .u, .u, .u, .u], []⟩
noncomputable def packPut.nml2 : Norm := ⟨{ keep := [1, 5], shut := [(1, (.int .u64))], retag := [(5, 5, (.int .u8))], heap := 0, dead := [], cshut := [], cretag := [] }, [(2, { keep := [1, 5], shut := [(1, (.int .u64))], retag := [(5, 5, (.int .u8))], heap := 0, dead := [], cshut := [], cretag := [] })]⟩
noncomputable def packPut.con : OCon := { ps := [.dat (.slice (.int .u8)), .dat (.int .u64)], rs := [.own (.int .u8)], f := fun n x => packPut n x.1 x.2.1 }
noncomputable def packPut.env : Env := { tys := [(22, ⟨(.slice (.int .u8)), 24⟩), (5, ⟨(.int .u8), 1⟩), (23, ⟨(.int .u64), 8⟩)], elems := [(22, 5)], ptrs := [], cons := [(17, packSize.con)], objs := [(29, [packOwn.con])], loops := [(2, packPut.nml2)], cuts := [], globs := globs, base := 0 }
noncomputable def packPut.lp (n : Nat) : LP (RT packPut.con.rs × BT packPut.con.ps) := fun lo κ body nm K s =>
  cond (lo && Nat.beq κ 2)
    (match packPut.shl2.dec s with
    | some v => packPut.l2 n (fun w0 w1 => K (.exit 0) (packPut.outl2e2.enc (w0, w1, ()))) n v.1 v.2.1
    | none => loops n (RT packPut.con.rs × BT packPut.con.ps) lo κ body nm K s)
    (loops n (RT packPut.con.rs × BT packPut.con.ps) lo κ body nm K s)
theorem packPut.atl2 (n : Nat) (s : St) (K : Ex → St → Option (RT packPut.con.rs × BT packPut.con.ps)) : packPut.lp n true 2 (evK packPut.env (packPut.lp n) n (sub [1, 1, 0, 0, 0] packPut.body)) packPut.nml2 K s = loops n (RT packPut.con.rs × BT packPut.con.ps) true 2 (evK packPut.env (packPut.lp n) n (sub [1, 1, 0, 0, 0] packPut.body)) packPut.nml2 K s := by
  show (match packPut.shl2.dec s with | some v => packPut.l2 n (fun w0 w1 => K (.exit 0) (packPut.outl2e2.enc (w0, w1, ()))) n v.1 v.2.1 | none => loops n (RT packPut.con.rs × BT packPut.con.ps) true 2 (evK packPut.env (packPut.lp n) n (sub [1, 1, 0, 0, 0] packPut.body)) packPut.nml2 K s) = _
  cases h : packPut.shl2.dec s with
  | none => rfl
  | some v =>
    rw [Shp.dec_enc h]
    exact (evLoop_eq (sh := packPut.shl2) (body := evK packPut.env (packPut.lp n) n (sub [1, 1, 0, 0, 0] packPut.body)) (nm := packPut.nml2) (K := K) (b := fun nx v => packPut.b2 n (fun x0 x1 => nx (x0, x1, ())) (fun w0 w1 => K (.exit 0) (packPut.outl2e2.enc (w0, w1, ()))) v.1 v.2.1) (l := fun m v => packPut.l2 n (fun w0 w1 => K (.exit 0) (packPut.outl2e2.enc (w0, w1, ()))) m v.1 v.2.1) (fun _ => rfl) (fun _ _ => rfl) (fun m v => by kernel_rfl) n v).symm
theorem packPut.eq (n : Nat) (x : PT packPut.con.ps) : evFuncO packPut.env Try.f9 packPut.body packPut.con.ps packPut.con.rs (packPut.lp n) n x = packPut.con.f n x := by kernel_rfl
theorem packPut.sound : SoundO Try.prog globs 9 packPut.con :=
  sound_byO (E := packPut.env) (c := packPut.body) (envOk (G := globs) (lc := [(17, packSize.con)]) (lo := [(29, [packOwn.con])]) (envB_spec (by kernel_rfl)) rfl rfl ⟨.inl ⟨packSize.sound, by kernel_rfl⟩, trivial⟩ rfl ⟨⟨⟨packOwn.sound, trivial⟩, by kernel_rfl⟩, trivial⟩ (by kernel_rfl) (by kernel_rfl)) Try.func9 (by kernel_rfl) (by kernel_rfl) (by kernel_rfl) packPut.lp (l := [(true, sub [1, 1, 0, 0, 0] packPut.body, packPut.nml2)]) (by kernel_rfl) (fun n => ⟨packPut.atl2 n, trivial⟩) packPut.eq
noncomputable def packPutText (fu : Nat) (b : List Int) (sv : List Int) : Option ((List Int) × Unit) :=
  let t1 := IntKind.u64.wrap (sv.length : Int)
  (packPut fu b t1).bind fun r2 =>
  chk (apOk r2.1.1 sv 1) <|
  some (r2.1.1 ++ sv, ())

noncomputable def packPutText.body : Code := Try.f11.body.getD .skip
noncomputable def packPutText.con : Con := { ps := [(.slice (.int .u8)), .str], rs := [(.slice (.int .u8))], f := fun n x => packPutText n x.1 x.2.1 }
noncomputable def packPutText.env : Env := { tys := [(22, ⟨(.slice (.int .u8)), 24⟩), (9, ⟨.str, 16⟩), (23, ⟨(.int .u64), 8⟩), (3, ⟨(.int .i64), 8⟩), (5, ⟨(.int .u8), 1⟩)], elems := [(22, 5)], ptrs := [], cons := [], objs := [(9, [packPut.con])], loops := [], cuts := [], globs := globs, base := 0 }
noncomputable def packPutText.lp (n : Nat) : LP (Kd.struct packPutText.con.rs).T := fun lo κ body nm K s =>
  loops n (Kd.struct packPutText.con.rs).T lo κ body nm K s
theorem packPutText.eq (n : Nat) (x : (Kd.struct packPutText.con.ps).T) : evFunc packPutText.env Try.f11 packPutText.body packPutText.con.ps packPutText.con.rs (packPutText.lp n) n x = packPutText.con.f n x := by kernel_rfl
theorem packPutText.sound : Sound Try.prog globs 11 packPutText.con :=
  sound_by (E := packPutText.env) (c := packPutText.body) (envOk (G := globs) (lc := []) (lo := [(9, [packPut.con])]) (envB_spec (by kernel_rfl)) rfl rfl trivial rfl ⟨⟨⟨packPut.sound, trivial⟩, by kernel_rfl⟩, trivial⟩ (by kernel_rfl) (by kernel_rfl)) Try.func11 (by kernel_rfl) packPutText.lp (l := []) (by kernel_rfl) (fun n => trivial) packPutText.eq
noncomputable def realBits (fu : Nat) (xv : Nat) : Option (Int × Unit) :=
  cond (fNeq xv xv) (
    some ((9221120237041090560 : Int), ())) (
    (extBits.f fu (xv, ())).bind fun r1 =>
    some (r1.1, ()))

noncomputable def realBits.body : Code := Try.f30.body.getD .skip
noncomputable def realBits.con : Con := { ps := [.flt], rs := [(.int .u64)], f := fun n x => realBits n x.1 }
noncomputable def realBits.env : Env := { tys := [(23, ⟨(.int .u64), 8⟩)], elems := [], ptrs := [], cons := [(26, extBits)], objs := [], loops := [], cuts := [], globs := globs, base := 0 }
noncomputable def realBits.lp (n : Nat) : LP (Kd.struct realBits.con.rs).T := fun lo κ body nm K s =>
  loops n (Kd.struct realBits.con.rs).T lo κ body nm K s
theorem realBits.eq (n : Nat) (x : (Kd.struct realBits.con.ps).T) : evFunc realBits.env Try.f30 realBits.body realBits.con.ps realBits.con.rs (realBits.lp n) n x = realBits.con.f n x := by kernel_rfl
theorem realBits.sound : Sound Try.prog globs 30 realBits.con :=
  sound_by (E := realBits.env) (c := realBits.body) (envOk (G := globs) (lc := [(26, extBits)]) (lo := []) (envB_spec (by kernel_rfl)) rfl rfl ⟨.inr (extBits_ok Try.func26 (by kernel_rfl) (by kernel_rfl) (by kernel_rfl) (by kernel_rfl)), trivial⟩ rfl trivial (by kernel_rfl) (by kernel_rfl)) Try.func30 (by kernel_rfl) realBits.lp (l := []) (by kernel_rfl) (fun n => trivial) realBits.eq
noncomputable def realFrom (fu : Nat) (bits : Int) : Option (Nat × Bool × Unit) :=
  (extFrom.f fu (bits, ())).bind fun r1 =>
  (realBits fu r1.1).bind fun r2 =>
  cond (r2.1 != bits) (
    some ((0 : Nat), false, ())) (
    some (r1.1, true, ()))

noncomputable def realFrom.body : Code := Try.f32.body.getD .skip
noncomputable def realFrom.con : Con := { ps := [(.int .u64)], rs := [.flt, .bool], f := fun n x => realFrom n x.1 }
noncomputable def realFrom.env : Env := { tys := [(25, ⟨.flt, 8⟩), (4, ⟨.bool, 1⟩)], elems := [], ptrs := [], cons := [(8, extFrom), (30, realBits.con)], objs := [], loops := [], cuts := [], globs := globs, base := 0 }
noncomputable def realFrom.lp (n : Nat) : LP (Kd.struct realFrom.con.rs).T := fun lo κ body nm K s =>
  loops n (Kd.struct realFrom.con.rs).T lo κ body nm K s
theorem realFrom.eq (n : Nat) (x : (Kd.struct realFrom.con.ps).T) : evFunc realFrom.env Try.f32 realFrom.body realFrom.con.ps realFrom.con.rs (realFrom.lp n) n x = realFrom.con.f n x := by kernel_rfl
theorem realFrom.sound : Sound Try.prog globs 32 realFrom.con :=
  sound_by (E := realFrom.env) (c := realFrom.body) (envOk (G := globs) (lc := [(8, extFrom), (30, realBits.con)]) (lo := []) (envB_spec (by kernel_rfl)) rfl rfl ⟨.inr (extFrom_ok Try.func8 (by kernel_rfl) (by kernel_rfl) (by kernel_rfl) (by kernel_rfl)), ⟨.inl ⟨realBits.sound, by kernel_rfl⟩, trivial⟩⟩ rfl trivial (by kernel_rfl) (by kernel_rfl)) Try.func32 (by kernel_rfl) realFrom.lp (l := []) (by kernel_rfl) (fun n => trivial) realFrom.eq
noncomputable def packGetReal.b5 (fu : Nat) (next : Int → Int → (List Int) → Int → Int → Option (Nat × Int × Int × Unit)) (k2 : Int → Int → Option (Nat × Int × Int × Unit)) (atv : Int) (n : Int) (v : List Int) (vx2 : Int) (vx3 : Int) : Option (Nat × Int × Int × Unit) :=
  cond (decide (vx3 < vx2)) (
    chk (ixOk v vx3) <|
    let e1 := ixL (0 : Int) v vx3
    let t2 := bOr .u64 (sShl .u64 n (8 : Int)) (IntKind.u64.wrap e1)
    let t3 := IntKind.i64.wrap (vx3 + (1 : Int))
    next atv t2 v vx2 t3) (
    k2 atv n)
noncomputable def packGetReal.l5 (fu : Nat) (k2 : Int → Int → Option (Nat × Int × Int × Unit)) : Nat → Int → Int → (List Int) → Int → Int → Option (Nat × Int × Int × Unit)
  | 0, _, _, _, _, _ => none
  | m + 1, atv, n, v, vx2, vx3 => packGetReal.b5 fu (packGetReal.l5 fu k2 m) k2 atv n v vx2 vx3
noncomputable def packGetReal (fu : Nat) (b : List Int) (atv : Int) : Option (Nat × Int × Int × Unit) :=
  cond (decide (atv < (0 : Int))) (
    some ((0 : Nat), (0 : Int), (3 : Int), ())) (
    let t1 := IntKind.i64.wrap ((b.length : Int) - (8 : Int))
    cond (decide (atv > t1)) (
      some ((0 : Nat), (0 : Int), (3 : Int), ())) (
      let t2 := IntKind.i64.wrap (atv + (8 : Int))
      chk (cutOk b atv t2) <|
      let t3 := ((cutL b atv t2).length : Int)
      packGetReal.l5 fu (fun atvq2 nq2 => 
          (realFrom fu nq2).bind fun r4 =>
          cond (!r4.2.1) (
            some ((0 : Nat), (0 : Int), (2 : Int), ())) (
            let t5 := IntKind.i64.wrap (atvq2 + (8 : Int))
            some (r4.1, t5, (0 : Int), ()))) fu atv (0 : Int) (cutL b atv t2) t3 (0 : Int)))

noncomputable def packGetReal.body : Code := Try.f24.body.getD .skip
abbrev packGetReal.shl5 : Shp := ⟨[.u, .d (.int .i64), .u, .u, .u, .u, .u, .d (.int .u64), .u, .u, .u, .u, .u, .u, .u, .u, .u, .u, .u, .u, .u, .u, .u, .u, .u, .d (.slice (.int .u8)), .d (.int .i64), .d (.int .i64), .u, .u, .u, .u, .u, .u, .u, .u, .u, .u, .u, .u, .u, .u, .u, .u, .u, .u, .u], []⟩
abbrev packGetReal.outl5e2 : Shp := ⟨[.u, .d (.int .i64), .u, .u, .u, .u, .u, .d (.int .u64), .u, .u, .u, .u, .u, .u, .u, .u, .u, .u, .u, .u, .u, .u, .u, .u, .u, .u, .u, .u, .u, .u, .u, .u, .u, .u, .u, .u, .u, .u, .u, .u, .u, .u, .u, .u, .u, .u, .u], []⟩
noncomputable def packGetReal.nml5 : Norm := ⟨{ keep := [1, 7, 25, 26, 27], shut := [(1, (.int .i64)), (7, (.int .u64)), (25, (.slice (.int .u8))), (26, (.int .i64)), (27, (.int .i64))], retag := [], heap := 0, dead := [], cshut := [], cretag := [] }, [(2, { keep := [1, 7], shut := [(1, (.int .i64)), (7, (.int .u64))], retag := [], heap := 0, dead := [], cshut := [], cretag := [] })]⟩
noncomputable def packGetReal.con : Con := { ps := [(.slice (.int .u8)), (.int .i64)], rs := [.flt, (.int .i64), (.int .i64)], f := fun n x => packGetReal n x.1 x.2.1 }
noncomputable def packGetReal.env : Env := { tys := [(25, ⟨.flt, 8⟩), (3, ⟨(.int .i64), 8⟩), (33, ⟨(.int .i64), 8⟩), (4, ⟨.bool, 1⟩), (5, ⟨(.int .u8), 1⟩), (23, ⟨(.int .u64), 8⟩)], elems := [(22, 5)], ptrs := [], cons := [(32, realFrom.con)], objs := [], loops := [(5, packGetReal.nml5)], cuts := [], globs := globs, base := 0 }
noncomputable def packGetReal.lp (n : Nat) : LP (Kd.struct packGetReal.con.rs).T := fun lo κ body nm K s =>
  cond (lo && Nat.beq κ 5)
    (match packGetReal.shl5.dec s with
    | some v => packGetReal.l5 n (fun w0 w1 => K (.exit 0) (packGetReal.outl5e2.enc (w0, w1, ()))) n v.1 v.2.1 v.2.2.1 v.2.2.2.1 v.2.2.2.2.1
    | none => loops n (Kd.struct packGetReal.con.rs).T lo κ body nm K s)
    (loops n (Kd.struct packGetReal.con.rs).T lo κ body nm K s)
theorem packGetReal.atl5 (n : Nat) (s : St) (K : Ex → St → Option (Kd.struct packGetReal.con.rs).T) : packGetReal.lp n true 5 (evK packGetReal.env (packGetReal.lp n) n (sub [1, 1, 1, 0, 1, 0, 0] packGetReal.body)) packGetReal.nml5 K s = loops n (Kd.struct packGetReal.con.rs).T true 5 (evK packGetReal.env (packGetReal.lp n) n (sub [1, 1, 1, 0, 1, 0, 0] packGetReal.body)) packGetReal.nml5 K s := by
  show (match packGetReal.shl5.dec s with | some v => packGetReal.l5 n (fun w0 w1 => K (.exit 0) (packGetReal.outl5e2.enc (w0, w1, ()))) n v.1 v.2.1 v.2.2.1 v.2.2.2.1 v.2.2.2.2.1 | none => loops n (Kd.struct packGetReal.con.rs).T true 5 (evK packGetReal.env (packGetReal.lp n) n (sub [1, 1, 1, 0, 1, 0, 0] packGetReal.body)) packGetReal.nml5 K s) = _
  cases h : packGetReal.shl5.dec s with
  | none => rfl
  | some v =>
    rw [Shp.dec_enc h]
    exact (evLoop_eq (sh := packGetReal.shl5) (body := evK packGetReal.env (packGetReal.lp n) n (sub [1, 1, 1, 0, 1, 0, 0] packGetReal.body)) (nm := packGetReal.nml5) (K := K) (b := fun nx v => packGetReal.b5 n (fun x0 x1 x2 x3 x4 => nx (x0, x1, x2, x3, x4, ())) (fun w0 w1 => K (.exit 0) (packGetReal.outl5e2.enc (w0, w1, ()))) v.1 v.2.1 v.2.2.1 v.2.2.2.1 v.2.2.2.2.1) (l := fun m v => packGetReal.l5 n (fun w0 w1 => K (.exit 0) (packGetReal.outl5e2.enc (w0, w1, ()))) m v.1 v.2.1 v.2.2.1 v.2.2.2.1 v.2.2.2.2.1) (fun _ => rfl) (fun _ _ => rfl) (fun m v => by kernel_rfl) n v).symm
theorem packGetReal.eq (n : Nat) (x : (Kd.struct packGetReal.con.ps).T) : evFunc packGetReal.env Try.f24 packGetReal.body packGetReal.con.ps packGetReal.con.rs (packGetReal.lp n) n x = packGetReal.con.f n x := by kernel_rfl
theorem packGetReal.sound : Sound Try.prog globs 24 packGetReal.con :=
  sound_by (E := packGetReal.env) (c := packGetReal.body) (envOk (G := globs) (lc := [(32, realFrom.con)]) (lo := []) (envB_spec (by kernel_rfl)) rfl rfl ⟨.inl ⟨realFrom.sound, by kernel_rfl⟩, trivial⟩ rfl trivial (by kernel_rfl) (by kernel_rfl)) Try.func24 (by kernel_rfl) packGetReal.lp (l := [(true, sub [1, 1, 1, 0, 1, 0, 0] packGetReal.body, packGetReal.nml5)]) (by kernel_rfl) (fun n => ⟨packGetReal.atl5 n, trivial⟩) packGetReal.eq
noncomputable def packPutRealDat.b4 (fu : Nat) (next : (List Int) → Int → Int → Option ((List Int) × Unit)) (k2 : (List Int) → Option ((List Int) × Unit)) (out : List Int) (n : Int) (i : Int) : Option ((List Int) × Unit) :=
  cond (decide (i ≥ (0 : Int))) (
    chk (!decide (i < 0)) <|
    let t1 := IntKind.u8.wrap (sShr .u64 n i)
    chk (apOk out ([t1]) 1) <|
    let t2 := IntKind.i64.wrap (i - (8 : Int))
    next (out ++ ([t1])) n t2) (
    k2 out)
noncomputable def packPutRealDat.l4 (fu : Nat) (k2 : (List Int) → Option ((List Int) × Unit)) : Nat → (List Int) → Int → Int → Option ((List Int) × Unit)
  | 0, _, _, _ => none
  | m + 1, out, n, i => packPutRealDat.b4 fu (packPutRealDat.l4 fu k2 m) k2 out n i
noncomputable def packPutRealDat (fu : Nat) (b : List Int) (xv : Nat) : Option ((List Int) × Unit) :=
  (packOwn fu b (8 : Int)).bind fun r1 =>
  (realBits fu xv).bind fun r2 =>
  packPutRealDat.l4 fu (fun outq2 => 
      some (outq2, ())) fu r1.1.1 r2.1 (56 : Int)

noncomputable def packPutRealDat.body : Code := Try.f12.body.getD .skip
abbrev packPutRealDat.shl4 : Shp := ⟨[.u, .u, .u, .u, .u, .o 5 (.int .u8), .d (.int .u64), .d (.int .i64), .u, .u, .u, .u, .u, .u, .u, .u, .u, .u, .u, .u, .u, .u, .u, .u], []⟩
abbrev packPutRealDat.outl4e2 : Shp := ⟨[.u, .u, .u, .u, .u, .o 5 (.int .u8), .u, .u, .u, .u, .u, .u, .u, .u, .u, .u, .u, .u, .u, .u, .u, .u, .u, .u], []⟩
noncomputable def packPutRealDat.nml4 : Norm := ⟨{ keep := [5, 6, 7], shut := [(6, (.int .u64)), (7, (.int .i64))], retag := [(5, 5, (.int .u8))], heap := 0, dead := [], cshut := [], cretag := [] }, [(2, { keep := [5], shut := [], retag := [(5, 5, (.int .u8))], heap := 0, dead := [], cshut := [], cretag := [] })]⟩
noncomputable def packPutRealDat.con : Con := { ps := [(.slice (.int .u8)), .flt], rs := [(.slice (.int .u8))], f := fun n x => packPutRealDat n x.1 x.2.1 }
noncomputable def packPutRealDat.env : Env := { tys := [(22, ⟨(.slice (.int .u8)), 24⟩), (3, ⟨(.int .i64), 8⟩), (5, ⟨(.int .u8), 1⟩), (23, ⟨(.int .u64), 8⟩)], elems := [(22, 5)], ptrs := [], cons := [(30, realBits.con)], objs := [(29, [packOwn.con])], loops := [(4, packPutRealDat.nml4)], cuts := [], globs := globs, base := 0 }
noncomputable def packPutRealDat.lp (n : Nat) : LP (Kd.struct packPutRealDat.con.rs).T := fun lo κ body nm K s =>
  cond (lo && Nat.beq κ 4)
    (match packPutRealDat.shl4.dec s with
    | some v => packPutRealDat.l4 n (fun w0 => K (.exit 0) (packPutRealDat.outl4e2.enc (w0, ()))) n v.1 v.2.1 v.2.2.1
    | none => loops n (Kd.struct packPutRealDat.con.rs).T lo κ body nm K s)
    (loops n (Kd.struct packPutRealDat.con.rs).T lo κ body nm K s)
theorem packPutRealDat.atl4 (n : Nat) (s : St) (K : Ex → St → Option (Kd.struct packPutRealDat.con.rs).T) : packPutRealDat.lp n true 4 (evK packPutRealDat.env (packPutRealDat.lp n) n (sub [1, 1, 1, 0, 1, 0, 0] packPutRealDat.body)) packPutRealDat.nml4 K s = loops n (Kd.struct packPutRealDat.con.rs).T true 4 (evK packPutRealDat.env (packPutRealDat.lp n) n (sub [1, 1, 1, 0, 1, 0, 0] packPutRealDat.body)) packPutRealDat.nml4 K s := by
  show (match packPutRealDat.shl4.dec s with | some v => packPutRealDat.l4 n (fun w0 => K (.exit 0) (packPutRealDat.outl4e2.enc (w0, ()))) n v.1 v.2.1 v.2.2.1 | none => loops n (Kd.struct packPutRealDat.con.rs).T true 4 (evK packPutRealDat.env (packPutRealDat.lp n) n (sub [1, 1, 1, 0, 1, 0, 0] packPutRealDat.body)) packPutRealDat.nml4 K s) = _
  cases h : packPutRealDat.shl4.dec s with
  | none => rfl
  | some v =>
    rw [Shp.dec_enc h]
    exact (evLoop_eq (sh := packPutRealDat.shl4) (body := evK packPutRealDat.env (packPutRealDat.lp n) n (sub [1, 1, 1, 0, 1, 0, 0] packPutRealDat.body)) (nm := packPutRealDat.nml4) (K := K) (b := fun nx v => packPutRealDat.b4 n (fun x0 x1 x2 => nx (x0, x1, x2, ())) (fun w0 => K (.exit 0) (packPutRealDat.outl4e2.enc (w0, ()))) v.1 v.2.1 v.2.2.1) (l := fun m v => packPutRealDat.l4 n (fun w0 => K (.exit 0) (packPutRealDat.outl4e2.enc (w0, ()))) m v.1 v.2.1 v.2.2.1) (fun _ => rfl) (fun _ _ => rfl) (fun m v => by kernel_rfl) n v).symm
theorem packPutRealDat.eq (n : Nat) (x : (Kd.struct packPutRealDat.con.ps).T) : evFunc packPutRealDat.env Try.f12 packPutRealDat.body packPutRealDat.con.ps packPutRealDat.con.rs (packPutRealDat.lp n) n x = packPutRealDat.con.f n x := by kernel_rfl
theorem packPutRealDat.sound : Sound Try.prog globs 12 packPutRealDat.con :=
  sound_by (E := packPutRealDat.env) (c := packPutRealDat.body) (envOk (G := globs) (lc := [(30, realBits.con)]) (lo := [(29, [packOwn.con])]) (envB_spec (by kernel_rfl)) rfl rfl ⟨.inl ⟨realBits.sound, by kernel_rfl⟩, trivial⟩ rfl ⟨⟨⟨packOwn.sound, trivial⟩, by kernel_rfl⟩, trivial⟩ (by kernel_rfl) (by kernel_rfl)) Try.func12 (by kernel_rfl) packPutRealDat.lp (l := [(true, sub [1, 1, 1, 0, 1, 0, 0] packPutRealDat.body, packPutRealDat.nml4)]) (by kernel_rfl) (fun n => ⟨packPutRealDat.atl4 n, trivial⟩) packPutRealDat.eq
noncomputable def law03PackOnly.j9 (fu : Nat) (k1 : Bool → Option (Bool × Unit)) (b : List Int) (atv : Int) : Option (Bool × Unit) :=
  (packGetReal fu b atv).bind fun r1 =>
  cond (r1.2.2.1 == (0 : Int)) (
    let t2 := decide (r1.2.1 > (b.length : Int))
    cond t2 (
      k1 false) (
      cond (decide (atv < (0 : Int))) (
        k1 false) (
        cond (decide (r1.2.1 < atv)) (
          k1 false) (
          (packPutRealDat fu [] r1.1).bind fun r3 =>
          chk (cutOk b atv r1.2.1) <|
          let t4 := r3.1 != (cutL b atv r1.2.1)
          cond t4 (
            k1 false) (
            (law03Fixed fu).bind fun r5 =>
            k1 r5.1))))) (
    (law03Fixed fu).bind fun r6 =>
    k1 r6.1)
noncomputable def law03PackOnly.j6 (fu : Nat) (k1 : Bool → Option (Bool × Unit)) (b : List Int) (atv : Int) : Option (Bool × Unit) :=
  (packGetText fu b atv (5000 : Int)).bind fun r1 =>
  cond (r1.2.2.1 == (0 : Int)) (
    let t2 := decide (r1.2.1 > (b.length : Int))
    cond t2 (
      k1 false) (
      cond (decide (atv < (0 : Int))) (
        k1 false) (
        cond (decide (r1.2.1 < atv)) (
          k1 false) (
          (packPutText fu [] r1.1).bind fun r3 =>
          chk (cutOk b atv r1.2.1) <|
          let t4 := r3.1 != (cutL b atv r1.2.1)
          cond t4 (
            k1 false) (
            law03PackOnly.j9 fu (fun vq3 => 
                k1 vq3) b atv))))) (
    law03PackOnly.j9 fu (fun vq4 => 
        k1 vq4) b atv)
noncomputable def law03PackOnly (fu : Nat) (b : List Int) (atv : Int) : Option (Bool × Unit) :=
  let t1 := decide ((b.length : Int) > (2000 : Int))
  cond t1 (
    (law03Fixed fu).bind fun r2 =>
    some (r2.1, ())) (
    (packGet fu b atv).bind fun r3 =>
    cond (r3.2.2.1 == (0 : Int)) (
      let t4 := decide (r3.2.1 > (b.length : Int))
      cond t4 (
        some (false, ())) (
        cond (decide (atv < (0 : Int))) (
          some (false, ())) (
          cond (decide (r3.2.1 < atv)) (
            some (false, ())) (
            (packPutDat fu [] r3.1).bind fun r5 =>
            chk (cutOk b atv r3.2.1) <|
            let t6 := r5.1 != (cutL b atv r3.2.1)
            cond t6 (
              some (false, ())) (
              law03PackOnly.j6 fu (fun vq1 => 
                  some (vq1, ())) b atv))))) (
      law03PackOnly.j6 fu (fun vq2 => 
          some (vq2, ())) b atv))

noncomputable def law03PackOnly.body : Code := Try.f5.body.getD .skip
abbrev law03PackOnly.shj9 : Shp := ⟨[.d (.slice (.int .u8)), .d (.int .i64), .u, .u, .u, .u, .u, .u, .u, .u, .u, .u, .u, .u, .u, .u, .u, .u, .u, .u, .u, .u, .u, .u, .u, .u, .u, .u, .u, .u, .u, .u, .u, .u, .u, .u, .u, .u, .u, .u, .u, .u, .u, .u, .u, .u, .u, .u, .u, .u, .u, .u, .u, .u, .u, .u, .u, .u, .u, .u, .u, .u, .u, .u, .u, .u, .u, .u, .u, .u, .u, .u, .u, .u, .u, .u, .u, .u, .u, .u, .u, .u, .u, .u, .u, .u, .u, .u, .u, .u, .u, .u, .u, .u, .u, .u, .u, .u, .u, .u, .u, .u, .u, .u, .u, .u, .u, .u, .u, .u, .u, .u, .u, .u, .u, .u, .u, .u, .u, .u, .u, .u, .u, .u], []⟩
abbrev law03PackOnly.outj9e1 : Shp := ⟨[.u, .u, .u, .u, .d .bool, .u, .u, .u, .u, .u, .u, .u, .u, .u, .u, .u, .u, .u, .u, .u, .u, .u, .u, .u, .u, .u, .u, .u, .u, .u, .u, .u, .u, .u, .u, .u, .u, .u, .u, .u, .u, .u, .u, .u, .u, .u, .u, .u, .u, .u, .u, .u, .u, .u, .u, .u, .u, .u, .u, .u, .u, .u, .u, .u, .u, .u, .u, .u, .u, .u, .u, .u, .u, .u, .u, .u, .u, .u, .u, .u, .u, .u, .u, .u, .u, .u, .u, .u, .u, .u, .u, .u, .u, .u, .u, .u, .u, .u, .u, .u, .u, .u, .u, .u, .u, .u, .u, .u, .u, .u, .u, .u, .u, .u, .u, .u, .u, .u, .u, .u, .u, .u, .u, .u], []⟩
noncomputable def law03PackOnly.nmj9 : Norm := ⟨{ keep := [0, 1], shut := [(0, (.slice (.int .u8))), (1, (.int .i64))], retag := [], heap := 0, dead := [], cshut := [], cretag := [] }, [(1, { keep := [4], shut := [(4, .bool)], retag := [], heap := 0, dead := [], cshut := [], cretag := [] })]⟩
abbrev law03PackOnly.shj6 : Shp := ⟨[.d (.slice (.int .u8)), .d (.int .i64), .u, .u, .u, .u, .u, .u, .u, .u, .u, .u, .u, .u, .u, .u, .u, .u, .u, .u, .u, .u, .u, .u, .u, .u, .u, .u, .u, .u, .u, .u, .u, .u, .u, .u, .u, .u, .u, .u, .u, .u, .u, .u, .u, .u, .u, .u, .u, .u, .u, .u, .u, .u, .u, .u, .u, .u, .u, .u, .u, .u, .u, .u, .u, .u, .u, .u, .u, .u, .u, .u, .u, .u, .u, .u, .u, .u, .u, .u, .u, .u, .u, .u, .u, .u, .u, .u, .u, .u, .u, .u, .u, .u, .u, .u, .u, .u, .u, .u, .u, .u, .u, .u, .u, .u, .u, .u, .u, .u, .u, .u, .u, .u, .u, .u, .u, .u, .u, .u, .u, .u, .u, .u], []⟩
abbrev law03PackOnly.outj6e1 : Shp := ⟨[.u, .u, .u, .u, .d .bool, .u, .u, .u, .u, .u, .u, .u, .u, .u, .u, .u, .u, .u, .u, .u, .u, .u, .u, .u, .u, .u, .u, .u, .u, .u, .u, .u, .u, .u, .u, .u, .u, .u, .u, .u, .u, .u, .u, .u, .u, .u, .u, .u, .u, .u, .u, .u, .u, .u, .u, .u, .u, .u, .u, .u, .u, .u, .u, .u, .u, .u, .u, .u, .u, .u, .u, .u, .u, .u, .u, .u, .u, .u, .u, .u, .u, .u, .u, .u, .u, .u, .u, .u, .u, .u, .u, .u, .u, .u, .u, .u, .u, .u, .u, .u, .u, .u, .u, .u, .u, .u, .u, .u, .u, .u, .u, .u, .u, .u, .u, .u, .u, .u, .u, .u, .u, .u, .u, .u], []⟩
noncomputable def law03PackOnly.nmj6 : Norm := ⟨{ keep := [0, 1], shut := [(0, (.slice (.int .u8))), (1, (.int .i64))], retag := [], heap := 0, dead := [], cshut := [], cretag := [] }, [(1, { keep := [4], shut := [(4, .bool)], retag := [], heap := 0, dead := [], cshut := [], cretag := [] })]⟩
noncomputable def law03PackOnly.con : Con := { ps := [(.slice (.int .u8)), (.int .i64)], rs := [.bool], f := fun n x => law03PackOnly n x.1 x.2.1 }
noncomputable def law03PackOnly.env : Env := { tys := [(4, ⟨.bool, 1⟩), (5, ⟨(.int .u8), 1⟩), (9, ⟨.str, 16⟩), (22, ⟨(.slice (.int .u8)), 24⟩)], elems := [(22, 5)], ptrs := [], cons := [(7, law03Fixed.con), (18, packGet.con), (9, packPutDat.con), (22, packGetText.con), (11, packPutText.con), (24, packGetReal.con), (12, packPutRealDat.con)], objs := [], loops := [], cuts := [(9, law03PackOnly.nmj9), (6, law03PackOnly.nmj6)], globs := globs, base := 0 }
noncomputable def law03PackOnly.lp (n : Nat) : LP (Kd.struct law03PackOnly.con.rs).T := fun lo κ body nm K s =>
  cond (!lo && Nat.beq κ 9)
    (match law03PackOnly.shj9.dec s with
    | some v => law03PackOnly.j9 n (fun w0 => K .ret (law03PackOnly.outj9e1.enc (w0, ()))) v.1 v.2.1
    | none => loops n (Kd.struct law03PackOnly.con.rs).T lo κ body nm K s)
    (cond (!lo && Nat.beq κ 6)
    (match law03PackOnly.shj6.dec s with
    | some v => law03PackOnly.j6 n (fun w0 => K .ret (law03PackOnly.outj6e1.enc (w0, ()))) v.1 v.2.1
    | none => loops n (Kd.struct law03PackOnly.con.rs).T lo κ body nm K s)
    (loops n (Kd.struct law03PackOnly.con.rs).T lo κ body nm K s))
theorem law03PackOnly.atj9 (n : Nat) (s : St) (K : Ex → St → Option (Kd.struct law03PackOnly.con.rs).T) : law03PackOnly.lp n false 9 (evK law03PackOnly.env (law03PackOnly.lp n) n (sub [1, 1, 1, 1] law03PackOnly.body)) law03PackOnly.nmj9 K s = loops n (Kd.struct law03PackOnly.con.rs).T false 9 (evK law03PackOnly.env (law03PackOnly.lp n) n (sub [1, 1, 1, 1] law03PackOnly.body)) law03PackOnly.nmj9 K s := by
  show (match law03PackOnly.shj9.dec s with | some v => law03PackOnly.j9 n (fun w0 => K .ret (law03PackOnly.outj9e1.enc (w0, ()))) v.1 v.2.1 | none => loops n (Kd.struct law03PackOnly.con.rs).T false 9 (evK law03PackOnly.env (law03PackOnly.lp n) n (sub [1, 1, 1, 1] law03PackOnly.body)) law03PackOnly.nmj9 K s) = _
  cases h : law03PackOnly.shj9.dec s with
  | none => rfl
  | some v =>
    rw [Shp.dec_enc h]
    kernel_rfl
theorem law03PackOnly.atj6 (n : Nat) (s : St) (K : Ex → St → Option (Kd.struct law03PackOnly.con.rs).T) : law03PackOnly.lp n false 6 (evK law03PackOnly.env (law03PackOnly.lp n) n (sub [1, 1, 1] law03PackOnly.body)) law03PackOnly.nmj6 K s = loops n (Kd.struct law03PackOnly.con.rs).T false 6 (evK law03PackOnly.env (law03PackOnly.lp n) n (sub [1, 1, 1] law03PackOnly.body)) law03PackOnly.nmj6 K s := by
  show (match law03PackOnly.shj6.dec s with | some v => law03PackOnly.j6 n (fun w0 => K .ret (law03PackOnly.outj6e1.enc (w0, ()))) v.1 v.2.1 | none => loops n (Kd.struct law03PackOnly.con.rs).T false 6 (evK law03PackOnly.env (law03PackOnly.lp n) n (sub [1, 1, 1] law03PackOnly.body)) law03PackOnly.nmj6 K s) = _
  cases h : law03PackOnly.shj6.dec s with
  | none => rfl
  | some v =>
    rw [Shp.dec_enc h]
    kernel_rfl
theorem law03PackOnly.eq (n : Nat) (x : (Kd.struct law03PackOnly.con.ps).T) : evFunc law03PackOnly.env Try.f5 law03PackOnly.body law03PackOnly.con.ps law03PackOnly.con.rs (law03PackOnly.lp n) n x = law03PackOnly.con.f n x := by kernel_rfl
theorem law03PackOnly.sound : Sound Try.prog globs 5 law03PackOnly.con :=
  sound_by (E := law03PackOnly.env) (c := law03PackOnly.body) (envOk (G := globs) (lc := [(7, law03Fixed.con), (18, packGet.con), (9, packPutDat.con), (22, packGetText.con), (11, packPutText.con), (24, packGetReal.con), (12, packPutRealDat.con)]) (lo := []) (envB_spec (by kernel_rfl)) rfl rfl ⟨.inl ⟨law03Fixed.sound, by kernel_rfl⟩, ⟨.inl ⟨packGet.sound, by kernel_rfl⟩, ⟨.inl ⟨packPutDat.sound, by kernel_rfl⟩, ⟨.inl ⟨packGetText.sound, by kernel_rfl⟩, ⟨.inl ⟨packPutText.sound, by kernel_rfl⟩, ⟨.inl ⟨packGetReal.sound, by kernel_rfl⟩, ⟨.inl ⟨packPutRealDat.sound, by kernel_rfl⟩, trivial⟩⟩⟩⟩⟩⟩⟩ rfl trivial (by kernel_rfl) (by kernel_rfl)) Try.func5 (by kernel_rfl) law03PackOnly.lp (l := [(false, sub [1, 1, 1, 1] law03PackOnly.body, law03PackOnly.nmj9), (false, sub [1, 1, 1] law03PackOnly.body, law03PackOnly.nmj6)]) (by kernel_rfl) (fun n => ⟨law03PackOnly.atj9 n, ⟨law03PackOnly.atj6 n, trivial⟩⟩) law03PackOnly.eq
noncomputable def ref03Get.j11 (fu : Nat) (k0 : (List Int) → Int → Int → Int → Int → Option (Int × Int × Int × Unit)) (k1 : Int → Int → Int → Option (Int × Int × Int × Unit)) (b : List Int) (atv : Int) (n : Int) (times : Int) (i : Int) (c : Int) : Option (Int × Int × Int × Unit) :=
  let t1 := IntKind.u64.wrap (Int.tmod c (128 : Int))
  let t2 := IntKind.u64.wrap (t1 * times)
  let t3 := IntKind.u64.wrap (n + t2)
  let t4 := IntKind.i64.wrap (i + (1 : Int))
  cond (decide (c < (128 : Int))) (
    cond (c == (0 : Int)) (
      cond (decide (t4 > (1 : Int))) (
        k1 (0 : Int) (0 : Int) (2 : Int)) (
        let t5 := IntKind.i64.wrap (atv + t4)
        k1 t3 t5 (0 : Int))) (
      let t6 := IntKind.i64.wrap (atv + t4)
      k1 t3 t6 (0 : Int))) (
    let t7 := IntKind.u64.wrap (times * (128 : Int))
    k0 b atv t3 t7 t4)
noncomputable def ref03Get.b6 (fu : Nat) (next : (List Int) → Int → Int → Int → Int → Option (Int × Int × Int × Unit)) (k1 : Int → Int → Int → Option (Int × Int × Int × Unit)) (b : List Int) (atv : Int) (n : Int) (times : Int) (i : Int) : Option (Int × Int × Int × Unit) :=
  let t1 := IntKind.i64.wrap (atv + i)
  let t2 := decide (t1 ≥ (b.length : Int))
  cond t2 (
    k1 (0 : Int) (0 : Int) (3 : Int)) (
    let t3 := IntKind.i64.wrap (atv + i)
    chk (ixOk b t3) <|
    let e4 := ixL (0 : Int) b t3
    cond (i == (9 : Int)) (
      cond (decide (e4 > (1 : Int))) (
        k1 (0 : Int) (0 : Int) (4 : Int)) (
        ref03Get.j11 fu (fun bq2 atvq2 nq2 timesq2 iq2 => 
            next bq2 atvq2 nq2 timesq2 iq2) (fun vq3 vq3x2 vq3x3 => 
            k1 vq3 vq3x2 vq3x3) b atv n times i e4)) (
      ref03Get.j11 fu (fun bq4 atvq4 nq4 timesq4 iq4 => 
          next bq4 atvq4 nq4 timesq4 iq4) (fun vq5 vq5x2 vq5x3 => 
          k1 vq5 vq5x2 vq5x3) b atv n times i e4))
noncomputable def ref03Get.l6 (fu : Nat) (k1 : Int → Int → Int → Option (Int × Int × Int × Unit)) : Nat → (List Int) → Int → Int → Int → Int → Option (Int × Int × Int × Unit)
  | 0, _, _, _, _, _ => none
  | m + 1, b, atv, n, times, i => ref03Get.b6 fu (ref03Get.l6 fu k1 m) k1 b atv n times i
noncomputable def ref03Get (fu : Nat) (b : List Int) (atv : Int) : Option (Int × Int × Int × Unit) :=
  cond (decide (atv < (0 : Int))) (
    some ((0 : Int), (0 : Int), (3 : Int), ())) (
    let t1 := decide (atv > (b.length : Int))
    cond t1 (
      some ((0 : Int), (0 : Int), (3 : Int), ())) (
      ref03Get.l6 fu (fun vq1 vq1x2 vq1x3 => 
          some (vq1, vq1x2, vq1x3, ())) fu b atv (0 : Int) (1 : Int) (0 : Int)))

noncomputable def ref03Get.body : Code := Try.f19.body.getD .skip
abbrev ref03Get.shj11 : Shp := ⟨[.d (.slice (.int .u8)), .d (.int .i64), .u, .u, .u, .u, .u, .d (.int .u64), .d (.int .u64), .d (.int .i64), .d (.int .u8), .u, .u, .u, .u, .u, .u, .u, .u, .u, .u, .u, .u, .u, .u, .u, .u, .u, .u, .u, .u, .u, .u, .u, .u, .u, .u, .u, .u, .u, .u, .u, .u, .u, .u, .u, .u, .u, .u, .u, .u, .u, .u, .u, .u, .u, .u, .u, .u, .u], []⟩
abbrev ref03Get.outj11e0 : Shp := ⟨[.d (.slice (.int .u8)), .d (.int .i64), .u, .u, .u, .u, .u, .d (.int .u64), .d (.int .u64), .d (.int .i64), .u, .u, .u, .u, .u, .u, .u, .u, .u, .u, .u, .u, .u, .u, .u, .u, .u, .u, .u, .u, .u, .u, .u, .u, .u, .u, .u, .u, .u, .u, .u, .u, .u, .u, .u, .u, .u, .u, .u, .u, .u, .u, .u, .u, .u, .u, .u, .u, .u, .u], []⟩
abbrev ref03Get.outj11e1 : Shp := ⟨[.u, .u, .u, .u, .d (.int .u64), .d (.int .i64), .d (.int .i64), .u, .u, .u, .u, .u, .u, .u, .u, .u, .u, .u, .u, .u, .u, .u, .u, .u, .u, .u, .u, .u, .u, .u, .u, .u, .u, .u, .u, .u, .u, .u, .u, .u, .u, .u, .u, .u, .u, .u, .u, .u, .u, .u, .u, .u, .u, .u, .u, .u, .u, .u, .u, .u], []⟩
noncomputable def ref03Get.nmj11 : Norm := ⟨{ keep := [0, 1, 7, 8, 9, 10], shut := [(0, (.slice (.int .u8))), (1, (.int .i64)), (7, (.int .u64)), (8, (.int .u64)), (9, (.int .i64)), (10, (.int .u8))], retag := [], heap := 0, dead := [], cshut := [], cretag := [] }, [(0, { keep := [0, 1, 7, 8, 9], shut := [(0, (.slice (.int .u8))), (1, (.int .i64)), (7, (.int .u64)), (8, (.int .u64)), (9, (.int .i64))], retag := [], heap := 0, dead := [], cshut := [], cretag := [] }), (1, { keep := [4, 5, 6], shut := [(4, (.int .u64)), (5, (.int .i64)), (6, (.int .i64))], retag := [], heap := 0, dead := [], cshut := [], cretag := [] })]⟩
abbrev ref03Get.shl6 : Shp := ⟨[.d (.slice (.int .u8)), .d (.int .i64), .u, .u, .u, .u, .u, .d (.int .u64), .d (.int .u64), .d (.int .i64), .u, .u, .u, .u, .u, .u, .u, .u, .u, .u, .u, .u, .u, .u, .u, .u, .u, .u, .u, .u, .u, .u, .u, .u, .u, .u, .u, .u, .u, .u, .u, .u, .u, .u, .u, .u, .u, .u, .u, .u, .u, .u, .u, .u, .u, .u, .u, .u, .u, .u], []⟩
abbrev ref03Get.outl6e1 : Shp := ⟨[.u, .u, .u, .u, .d (.int .u64), .d (.int .i64), .d (.int .i64), .u, .u, .u, .u, .u, .u, .u, .u, .u, .u, .u, .u, .u, .u, .u, .u, .u, .u, .u, .u, .u, .u, .u, .u, .u, .u, .u, .u, .u, .u, .u, .u, .u, .u, .u, .u, .u, .u, .u, .u, .u, .u, .u, .u, .u, .u, .u, .u, .u, .u, .u, .u, .u], []⟩
noncomputable def ref03Get.nml6 : Norm := ⟨{ keep := [0, 1, 7, 8, 9], shut := [(0, (.slice (.int .u8))), (1, (.int .i64)), (7, (.int .u64)), (8, (.int .u64)), (9, (.int .i64))], retag := [], heap := 0, dead := [], cshut := [], cretag := [] }, [(1, { keep := [4, 5, 6], shut := [(4, (.int .u64)), (5, (.int .i64)), (6, (.int .i64))], retag := [], heap := 0, dead := [], cshut := [], cretag := [] })]⟩
noncomputable def ref03Get.con : Con := { ps := [(.slice (.int .u8)), (.int .i64)], rs := [(.int .u64), (.int .i64), (.int .i64)], f := fun n x => ref03Get n x.1 x.2.1 }
noncomputable def ref03Get.env : Env := { tys := [(23, ⟨(.int .u64), 8⟩), (3, ⟨(.int .i64), 8⟩), (4, ⟨.bool, 1⟩), (5, ⟨(.int .u8), 1⟩)], elems := [(22, 5)], ptrs := [], cons := [], objs := [], loops := [(6, ref03Get.nml6)], cuts := [(11, ref03Get.nmj11)], globs := globs, base := 0 }
noncomputable def ref03Get.lp (n : Nat) : LP (Kd.struct ref03Get.con.rs).T := fun lo κ body nm K s =>
  cond (!lo && Nat.beq κ 11)
    (match ref03Get.shj11.dec s with
    | some v => ref03Get.j11 n (fun w0 w1 w2 w3 w4 => K .normal (ref03Get.outj11e0.enc (w0, w1, w2, w3, w4, ()))) (fun w0 w1 w2 => K .ret (ref03Get.outj11e1.enc (w0, w1, w2, ()))) v.1 v.2.1 v.2.2.1 v.2.2.2.1 v.2.2.2.2.1 v.2.2.2.2.2.1
    | none => loops n (Kd.struct ref03Get.con.rs).T lo κ body nm K s)
    (cond (lo && Nat.beq κ 6)
    (match ref03Get.shl6.dec s with
    | some v => ref03Get.l6 n (fun w0 w1 w2 => K .ret (ref03Get.outl6e1.enc (w0, w1, w2, ()))) n v.1 v.2.1 v.2.2.1 v.2.2.2.1 v.2.2.2.2.1
    | none => loops n (Kd.struct ref03Get.con.rs).T lo κ body nm K s)
    (loops n (Kd.struct ref03Get.con.rs).T lo κ body nm K s))
theorem ref03Get.atj11 (n : Nat) (s : St) (K : Ex → St → Option (Kd.struct ref03Get.con.rs).T) : ref03Get.lp n false 11 (evK ref03Get.env (ref03Get.lp n) n (sub [1, 1, 1, 1, 1, 0, 0, 0, 1, 1, 1] ref03Get.body)) ref03Get.nmj11 K s = loops n (Kd.struct ref03Get.con.rs).T false 11 (evK ref03Get.env (ref03Get.lp n) n (sub [1, 1, 1, 1, 1, 0, 0, 0, 1, 1, 1] ref03Get.body)) ref03Get.nmj11 K s := by
  show (match ref03Get.shj11.dec s with | some v => ref03Get.j11 n (fun w0 w1 w2 w3 w4 => K .normal (ref03Get.outj11e0.enc (w0, w1, w2, w3, w4, ()))) (fun w0 w1 w2 => K .ret (ref03Get.outj11e1.enc (w0, w1, w2, ()))) v.1 v.2.1 v.2.2.1 v.2.2.2.1 v.2.2.2.2.1 v.2.2.2.2.2.1 | none => loops n (Kd.struct ref03Get.con.rs).T false 11 (evK ref03Get.env (ref03Get.lp n) n (sub [1, 1, 1, 1, 1, 0, 0, 0, 1, 1, 1] ref03Get.body)) ref03Get.nmj11 K s) = _
  cases h : ref03Get.shj11.dec s with
  | none => rfl
  | some v =>
    rw [Shp.dec_enc h]
    kernel_rfl
theorem ref03Get.atl6 (n : Nat) (s : St) (K : Ex → St → Option (Kd.struct ref03Get.con.rs).T) : ref03Get.lp n true 6 (evK ref03Get.env (ref03Get.lp n) n (sub [1, 1, 1, 1, 1, 0, 0] ref03Get.body)) ref03Get.nml6 K s = loops n (Kd.struct ref03Get.con.rs).T true 6 (evK ref03Get.env (ref03Get.lp n) n (sub [1, 1, 1, 1, 1, 0, 0] ref03Get.body)) ref03Get.nml6 K s := by
  show (match ref03Get.shl6.dec s with | some v => ref03Get.l6 n (fun w0 w1 w2 => K .ret (ref03Get.outl6e1.enc (w0, w1, w2, ()))) n v.1 v.2.1 v.2.2.1 v.2.2.2.1 v.2.2.2.2.1 | none => loops n (Kd.struct ref03Get.con.rs).T true 6 (evK ref03Get.env (ref03Get.lp n) n (sub [1, 1, 1, 1, 1, 0, 0] ref03Get.body)) ref03Get.nml6 K s) = _
  cases h : ref03Get.shl6.dec s with
  | none => rfl
  | some v =>
    rw [Shp.dec_enc h]
    exact (evLoop_eq (sh := ref03Get.shl6) (body := evK ref03Get.env (ref03Get.lp n) n (sub [1, 1, 1, 1, 1, 0, 0] ref03Get.body)) (nm := ref03Get.nml6) (K := K) (b := fun nx v => ref03Get.b6 n (fun x0 x1 x2 x3 x4 => nx (x0, x1, x2, x3, x4, ())) (fun w0 w1 w2 => K .ret (ref03Get.outl6e1.enc (w0, w1, w2, ()))) v.1 v.2.1 v.2.2.1 v.2.2.2.1 v.2.2.2.2.1) (l := fun m v => ref03Get.l6 n (fun w0 w1 w2 => K .ret (ref03Get.outl6e1.enc (w0, w1, w2, ()))) m v.1 v.2.1 v.2.2.1 v.2.2.2.1 v.2.2.2.2.1) (fun _ => rfl) (fun _ _ => rfl) (fun m v => by kernel_rfl) n v).symm
theorem ref03Get.eq (n : Nat) (x : (Kd.struct ref03Get.con.ps).T) : evFunc ref03Get.env Try.f19 ref03Get.body ref03Get.con.ps ref03Get.con.rs (ref03Get.lp n) n x = ref03Get.con.f n x := by kernel_rfl
theorem ref03Get.sound : Sound Try.prog globs 19 ref03Get.con :=
  sound_by (E := ref03Get.env) (c := ref03Get.body) (envOk (G := globs) (lc := []) (lo := []) (envB_spec (by kernel_rfl)) rfl rfl trivial rfl trivial (by kernel_rfl) (by kernel_rfl)) Try.func19 (by kernel_rfl) ref03Get.lp (l := [(false, sub [1, 1, 1, 1, 1, 0, 0, 0, 1, 1, 1] ref03Get.body, ref03Get.nmj11), (true, sub [1, 1, 1, 1, 1, 0, 0] ref03Get.body, ref03Get.nml6)]) (by kernel_rfl) (fun n => ⟨ref03Get.atj11 n, ⟨ref03Get.atl6 n, trivial⟩⟩) ref03Get.eq
noncomputable def packGetInt (fu : Nat) (b : List Int) (atv : Int) : Option (Int × Int × Int × Unit) :=
  (packGet fu b atv).bind fun r1 =>
  let t2 := IntKind.i64.wrap (sShr .u64 r1.1 (1 : Int))
  let t3 := IntKind.i64.wrap (bAnd .u64 r1.1 (1 : Int))
  let t4 := IntKind.i64.wrap (0 - t3)
  some (bXor .i64 t2 t4, r1.2.1, r1.2.2.1, ())

noncomputable def packGetInt.body : Code := Try.f20.body.getD .skip
noncomputable def packGetInt.con : Con := { ps := [(.slice (.int .u8)), (.int .i64)], rs := [(.int .i64), (.int .i64), (.int .i64)], f := fun n x => packGetInt n x.1 x.2.1 }
noncomputable def packGetInt.env : Env := { tys := [(2, ⟨(.int .i64), 8⟩), (3, ⟨(.int .i64), 8⟩), (33, ⟨(.int .i64), 8⟩), (23, ⟨(.int .u64), 8⟩)], elems := [], ptrs := [], cons := [(18, packGet.con)], objs := [], loops := [], cuts := [], globs := globs, base := 0 }
noncomputable def packGetInt.lp (n : Nat) : LP (Kd.struct packGetInt.con.rs).T := fun lo κ body nm K s =>
  loops n (Kd.struct packGetInt.con.rs).T lo κ body nm K s
theorem packGetInt.eq (n : Nat) (x : (Kd.struct packGetInt.con.ps).T) : evFunc packGetInt.env Try.f20 packGetInt.body packGetInt.con.ps packGetInt.con.rs (packGetInt.lp n) n x = packGetInt.con.f n x := by kernel_rfl
theorem packGetInt.sound : Sound Try.prog globs 20 packGetInt.con :=
  sound_by (E := packGetInt.env) (c := packGetInt.body) (envOk (G := globs) (lc := [(18, packGet.con)]) (lo := []) (envB_spec (by kernel_rfl)) rfl rfl ⟨.inl ⟨packGet.sound, by kernel_rfl⟩, trivial⟩ rfl trivial (by kernel_rfl) (by kernel_rfl)) Try.func20 (by kernel_rfl) packGetInt.lp (l := []) (by kernel_rfl) (fun n => trivial) packGetInt.eq
noncomputable def ref03GetInt (fu : Nat) (b : List Int) (atv : Int) : Option (Int × Int × Int × Unit) :=
  (ref03Get fu b atv).bind fun r1 =>
  let t2 := Int.tmod r1.1 (2 : Int) == (0 : Int)
  cond t2 (
    let t3 := IntKind.u64.wrap (Int.tdiv r1.1 (2 : Int))
    some (IntKind.i64.wrap t3, r1.2.1, r1.2.2.1, ())) (
    let t4 := IntKind.u64.wrap (Int.tdiv r1.1 (2 : Int))
    let t5 := IntKind.i64.wrap (0 - IntKind.i64.wrap t4)
    let t6 := IntKind.i64.wrap (t5 - (1 : Int))
    some (t6, r1.2.1, r1.2.2.1, ()))

noncomputable def ref03GetInt.body : Code := Try.f21.body.getD .skip
noncomputable def ref03GetInt.con : Con := { ps := [(.slice (.int .u8)), (.int .i64)], rs := [(.int .i64), (.int .i64), (.int .i64)], f := fun n x => ref03GetInt n x.1 x.2.1 }
noncomputable def ref03GetInt.env : Env := { tys := [(2, ⟨(.int .i64), 8⟩), (3, ⟨(.int .i64), 8⟩), (23, ⟨(.int .u64), 8⟩)], elems := [], ptrs := [], cons := [(19, ref03Get.con)], objs := [], loops := [], cuts := [], globs := globs, base := 0 }
noncomputable def ref03GetInt.lp (n : Nat) : LP (Kd.struct ref03GetInt.con.rs).T := fun lo κ body nm K s =>
  loops n (Kd.struct ref03GetInt.con.rs).T lo κ body nm K s
theorem ref03GetInt.eq (n : Nat) (x : (Kd.struct ref03GetInt.con.ps).T) : evFunc ref03GetInt.env Try.f21 ref03GetInt.body ref03GetInt.con.ps ref03GetInt.con.rs (ref03GetInt.lp n) n x = ref03GetInt.con.f n x := by kernel_rfl
theorem ref03GetInt.sound : Sound Try.prog globs 21 ref03GetInt.con :=
  sound_by (E := ref03GetInt.env) (c := ref03GetInt.body) (envOk (G := globs) (lc := [(19, ref03Get.con)]) (lo := []) (envB_spec (by kernel_rfl)) rfl rfl ⟨.inl ⟨ref03Get.sound, by kernel_rfl⟩, trivial⟩ rfl trivial (by kernel_rfl) (by kernel_rfl)) Try.func21 (by kernel_rfl) ref03GetInt.lp (l := []) (by kernel_rfl) (fun n => trivial) ref03GetInt.eq
noncomputable def ref03GetText.j6 (fu : Nat) (k1 : (List Int) → Int → Int → Option ((List Int) × Int × Int × Unit)) (b : List Int) (most : Int) (n : Int) (endv : Int) : Option ((List Int) × Int × Int × Unit) :=
  let t1 := decide (n > IntKind.u64.wrap most)
  cond t1 (
    k1 ([] : List Int) (0 : Int) (4 : Int)) (
    let t2 := IntKind.u64.wrap (b.length : Int)
    cond (decide (n > t2)) (
      k1 ([] : List Int) (0 : Int) (3 : Int)) (
      let t3 := IntKind.i64.wrap ((b.length : Int) - endv)
      let t4 := decide (IntKind.i64.wrap n > t3)
      cond t4 (
        k1 ([] : List Int) (0 : Int) (3 : Int)) (
        let t5 := IntKind.i64.wrap (endv + IntKind.i64.wrap n)
        chk (cutOk b endv t5) <|
        let t6 := IntKind.i64.wrap (endv + IntKind.i64.wrap n)
        k1 (cutL b endv t5) t6 (0 : Int))))
noncomputable def ref03GetText (fu : Nat) (b : List Int) (atv : Int) (most : Int) : Option ((List Int) × Int × Int × Unit) :=
  (ref03Get fu b atv).bind fun r1 =>
  cond (r1.2.2.1 != (0 : Int)) (
    some (([] : List Int), (0 : Int), r1.2.2.1, ())) (
    let t2 := decide (most < (0 : Int))
    cond t2 (
      ref03GetText.j6 fu (fun vq1 vq1x2 vq1x3 => 
          some (vq1, vq1x2, vq1x3, ())) b (0 : Int) r1.1 r1.2.1) (
      ref03GetText.j6 fu (fun vq2 vq2x2 vq2x3 => 
          some (vq2, vq2x2, vq2x3, ())) b most r1.1 r1.2.1))

noncomputable def ref03GetText.body : Code := Try.f23.body.getD .skip
abbrev ref03GetText.shj6 : Shp := ⟨[.d (.slice (.int .u8)), .u, .d (.int .i64), .u, .u, .u, .u, .u, .u, .d (.int .u64), .d (.int .i64), .u, .u, .u, .u, .u, .u, .u, .u, .u, .u, .u, .u, .u, .u, .u, .u, .u, .u, .u, .u, .u, .u, .u, .u, .u, .u, .u, .u, .u, .u, .u, .u, .u, .u, .u, .u, .u, .u, .u, .u, .u, .u, .u], []⟩
abbrev ref03GetText.outj6e1 : Shp := ⟨[.u, .u, .u, .u, .u, .u, .d .str, .d (.int .i64), .d (.int .i64), .u, .u, .u, .u, .u, .u, .u, .u, .u, .u, .u, .u, .u, .u, .u, .u, .u, .u, .u, .u, .u, .u, .u, .u, .u, .u, .u, .u, .u, .u, .u, .u, .u, .u, .u, .u, .u, .u, .u, .u, .u, .u, .u, .u, .u], []⟩
noncomputable def ref03GetText.nmj6 : Norm := ⟨{ keep := [0, 2, 9, 10], shut := [(0, (.slice (.int .u8))), (2, (.int .i64)), (9, (.int .u64)), (10, (.int .i64))], retag := [], heap := 0, dead := [], cshut := [], cretag := [] }, [(1, { keep := [6, 7, 8], shut := [(6, .str), (7, (.int .i64)), (8, (.int .i64))], retag := [], heap := 0, dead := [], cshut := [], cretag := [] })]⟩
noncomputable def ref03GetText.con : Con := { ps := [(.slice (.int .u8)), (.int .i64), (.int .i64)], rs := [.str, (.int .i64), (.int .i64)], f := fun n x => ref03GetText n x.1 x.2.1 x.2.2.1 }
noncomputable def ref03GetText.env : Env := { tys := [(9, ⟨.str, 16⟩), (3, ⟨(.int .i64), 8⟩), (23, ⟨(.int .u64), 8⟩), (5, ⟨(.int .u8), 1⟩), (4, ⟨.bool, 1⟩), (22, ⟨(.slice (.int .u8)), 24⟩)], elems := [(22, 5)], ptrs := [], cons := [(19, ref03Get.con)], objs := [], loops := [], cuts := [(6, ref03GetText.nmj6)], globs := globs, base := 0 }
noncomputable def ref03GetText.lp (n : Nat) : LP (Kd.struct ref03GetText.con.rs).T := fun lo κ body nm K s =>
  cond (!lo && Nat.beq κ 6)
    (match ref03GetText.shj6.dec s with
    | some v => ref03GetText.j6 n (fun w0 w1 w2 => K .ret (ref03GetText.outj6e1.enc (w0, w1, w2, ()))) v.1 v.2.1 v.2.2.1 v.2.2.2.1
    | none => loops n (Kd.struct ref03GetText.con.rs).T lo κ body nm K s)
    (loops n (Kd.struct ref03GetText.con.rs).T lo κ body nm K s)
theorem ref03GetText.atj6 (n : Nat) (s : St) (K : Ex → St → Option (Kd.struct ref03GetText.con.rs).T) : ref03GetText.lp n false 6 (evK ref03GetText.env (ref03GetText.lp n) n (sub [1, 1, 1, 1] ref03GetText.body)) ref03GetText.nmj6 K s = loops n (Kd.struct ref03GetText.con.rs).T false 6 (evK ref03GetText.env (ref03GetText.lp n) n (sub [1, 1, 1, 1] ref03GetText.body)) ref03GetText.nmj6 K s := by
  show (match ref03GetText.shj6.dec s with | some v => ref03GetText.j6 n (fun w0 w1 w2 => K .ret (ref03GetText.outj6e1.enc (w0, w1, w2, ()))) v.1 v.2.1 v.2.2.1 v.2.2.2.1 | none => loops n (Kd.struct ref03GetText.con.rs).T false 6 (evK ref03GetText.env (ref03GetText.lp n) n (sub [1, 1, 1, 1] ref03GetText.body)) ref03GetText.nmj6 K s) = _
  cases h : ref03GetText.shj6.dec s with
  | none => rfl
  | some v =>
    rw [Shp.dec_enc h]
    kernel_rfl
theorem ref03GetText.eq (n : Nat) (x : (Kd.struct ref03GetText.con.ps).T) : evFunc ref03GetText.env Try.f23 ref03GetText.body ref03GetText.con.ps ref03GetText.con.rs (ref03GetText.lp n) n x = ref03GetText.con.f n x := by kernel_rfl
theorem ref03GetText.sound : Sound Try.prog globs 23 ref03GetText.con :=
  sound_by (E := ref03GetText.env) (c := ref03GetText.body) (envOk (G := globs) (lc := [(19, ref03Get.con)]) (lo := []) (envB_spec (by kernel_rfl)) rfl rfl ⟨.inl ⟨ref03Get.sound, by kernel_rfl⟩, trivial⟩ rfl trivial (by kernel_rfl) (by kernel_rfl)) Try.func23 (by kernel_rfl) ref03GetText.lp (l := [(false, sub [1, 1, 1, 1] ref03GetText.body, ref03GetText.nmj6)]) (by kernel_rfl) (fun n => ⟨ref03GetText.atj6 n, trivial⟩) ref03GetText.eq
noncomputable def ref02OfBits (fu : Nat) (b : Int) : Option (S0 × Unit) :=
  let t1 := decide (b ≥ (9223372036854775808 : Int))
  let t2 := IntKind.u64.wrap (Int.tdiv b (4503599627370496 : Int))
  let t3 := IntKind.i64.wrap (Int.tmod t2 (2048 : Int))
  let t4 := Int.tmod b (4503599627370496 : Int)
  some ((t1, t3, t4, ()), ())

noncomputable def ref02OfBits.body : Code := Try.f33.body.getD .skip
noncomputable def ref02OfBits.con : Con := { ps := [(.int .u64)], rs := [kS0], f := fun n x => ref02OfBits n x.1 }
noncomputable def ref02OfBits.env : Env := { tys := [(54, ⟨kS0, 24⟩), (3, ⟨(.int .i64), 8⟩), (23, ⟨(.int .u64), 8⟩)], elems := [], ptrs := [], cons := [], objs := [], loops := [], cuts := [], globs := globs, base := 0 }
noncomputable def ref02OfBits.lp (n : Nat) : LP (Kd.struct ref02OfBits.con.rs).T := fun lo κ body nm K s =>
  loops n (Kd.struct ref02OfBits.con.rs).T lo κ body nm K s
theorem ref02OfBits.eq (n : Nat) (x : (Kd.struct ref02OfBits.con.ps).T) : evFunc ref02OfBits.env Try.f33 ref02OfBits.body ref02OfBits.con.ps ref02OfBits.con.rs (ref02OfBits.lp n) n x = ref02OfBits.con.f n x := by kernel_rfl
theorem ref02OfBits.sound : Sound Try.prog globs 33 ref02OfBits.con :=
  sound_by (E := ref02OfBits.env) (c := ref02OfBits.body) (envOk (G := globs) (lc := []) (lo := []) (envB_spec (by kernel_rfl)) rfl rfl trivial rfl trivial (by kernel_rfl) (by kernel_rfl)) Try.func33 (by kernel_rfl) ref02OfBits.lp (l := []) (by kernel_rfl) (fun n => trivial) ref02OfBits.eq
noncomputable def ref02PartsNaN (fu : Nat) (p : S0) : Option (Bool × Unit) :=
  cond (p.2.1 == (2047 : Int)) (
    some (p.2.2.1 != (0 : Int), ())) (
    some (false, ()))

noncomputable def ref02PartsNaN.body : Code := Try.f34.body.getD .skip
noncomputable def ref02PartsNaN.con : Con := { ps := [kS0], rs := [.bool], f := fun n x => ref02PartsNaN n x.1 }
noncomputable def ref02PartsNaN.env : Env := { tys := [(54, ⟨kS0, 24⟩), (4, ⟨.bool, 1⟩), (3, ⟨(.int .i64), 8⟩), (23, ⟨(.int .u64), 8⟩)], elems := [], ptrs := [], cons := [], objs := [], loops := [], cuts := [], globs := globs, base := 0 }
noncomputable def ref02PartsNaN.lp (n : Nat) : LP (Kd.struct ref02PartsNaN.con.rs).T := fun lo κ body nm K s =>
  loops n (Kd.struct ref02PartsNaN.con.rs).T lo κ body nm K s
theorem ref02PartsNaN.eq (n : Nat) (x : (Kd.struct ref02PartsNaN.con.ps).T) : evFunc ref02PartsNaN.env Try.f34 ref02PartsNaN.body ref02PartsNaN.con.ps ref02PartsNaN.con.rs (ref02PartsNaN.lp n) n x = ref02PartsNaN.con.f n x := by kernel_rfl
theorem ref02PartsNaN.sound : Sound Try.prog globs 34 ref02PartsNaN.con :=
  sound_by (E := ref02PartsNaN.env) (c := ref02PartsNaN.body) (envOk (G := globs) (lc := []) (lo := []) (envB_spec (by kernel_rfl)) rfl rfl trivial rfl trivial (by kernel_rfl) (by kernel_rfl)) Try.func34 (by kernel_rfl) ref02PartsNaN.lp (l := []) (by kernel_rfl) (fun n => trivial) ref02PartsNaN.eq
noncomputable def ref02PartsBits (fu : Nat) (p : S0) : Option (Int × Unit) :=
  (ref02PartsNaN fu p).bind fun r1 =>
  cond r1.1 (
    some ((9221120237041090560 : Int), ())) (
    let t2 := IntKind.u64.wrap (IntKind.u64.wrap p.2.1 * (4503599627370496 : Int))
    let t3 := IntKind.u64.wrap (t2 + p.2.2.1)
    cond p.1 (
      let t4 := IntKind.u64.wrap (t3 + (9223372036854775808 : Int))
      some (t4, ())) (
      some (t3, ())))

noncomputable def ref02PartsBits.body : Code := Try.f28.body.getD .skip
noncomputable def ref02PartsBits.con : Con := { ps := [kS0], rs := [(.int .u64)], f := fun n x => ref02PartsBits n x.1 }
noncomputable def ref02PartsBits.env : Env := { tys := [(54, ⟨kS0, 24⟩), (23, ⟨(.int .u64), 8⟩), (3, ⟨(.int .i64), 8⟩), (4, ⟨.bool, 1⟩)], elems := [], ptrs := [], cons := [(34, ref02PartsNaN.con)], objs := [], loops := [], cuts := [], globs := globs, base := 0 }
noncomputable def ref02PartsBits.lp (n : Nat) : LP (Kd.struct ref02PartsBits.con.rs).T := fun lo κ body nm K s =>
  loops n (Kd.struct ref02PartsBits.con.rs).T lo κ body nm K s
theorem ref02PartsBits.eq (n : Nat) (x : (Kd.struct ref02PartsBits.con.ps).T) : evFunc ref02PartsBits.env Try.f28 ref02PartsBits.body ref02PartsBits.con.ps ref02PartsBits.con.rs (ref02PartsBits.lp n) n x = ref02PartsBits.con.f n x := by kernel_rfl
theorem ref02PartsBits.sound : Sound Try.prog globs 28 ref02PartsBits.con :=
  sound_by (E := ref02PartsBits.env) (c := ref02PartsBits.body) (envOk (G := globs) (lc := [(34, ref02PartsNaN.con)]) (lo := []) (envB_spec (by kernel_rfl)) rfl rfl ⟨.inl ⟨ref02PartsNaN.sound, by kernel_rfl⟩, trivial⟩ rfl trivial (by kernel_rfl) (by kernel_rfl)) Try.func28 (by kernel_rfl) ref02PartsBits.lp (l := []) (by kernel_rfl) (fun n => trivial) ref02PartsBits.eq
noncomputable def ref03GetReal.b5 (fu : Nat) (next : (List Int) → Int → Int → Int → Option (Nat × Int × Int × Unit)) (k2 : Int → Int → Option (Nat × Int × Int × Unit)) (b : List Int) (atv : Int) (n : Int) (i : Int) : Option (Nat × Int × Int × Unit) :=
  cond (decide (i < (8 : Int))) (
    let t1 := IntKind.u64.wrap (n * (256 : Int))
    let t2 := IntKind.i64.wrap (atv + i)
    chk (ixOk b t2) <|
    let e3 := ixL (0 : Int) b t2
    let t4 := IntKind.u64.wrap (t1 + IntKind.u64.wrap e3)
    let t5 := IntKind.i64.wrap (i + (1 : Int))
    next b atv t4 t5) (
    k2 atv n)
noncomputable def ref03GetReal.l5 (fu : Nat) (k2 : Int → Int → Option (Nat × Int × Int × Unit)) : Nat → (List Int) → Int → Int → Int → Option (Nat × Int × Int × Unit)
  | 0, _, _, _, _ => none
  | m + 1, b, atv, n, i => ref03GetReal.b5 fu (ref03GetReal.l5 fu k2 m) k2 b atv n i
noncomputable def ref03GetReal (fu : Nat) (b : List Int) (atv : Int) : Option (Nat × Int × Int × Unit) :=
  cond (decide (atv < (0 : Int))) (
    some ((0 : Nat), (0 : Int), (3 : Int), ())) (
    let t1 := IntKind.i64.wrap ((b.length : Int) - (8 : Int))
    cond (decide (atv > t1)) (
      some ((0 : Nat), (0 : Int), (3 : Int), ())) (
      ref03GetReal.l5 fu (fun atvq2 nq2 => 
          (ref02OfBits fu nq2).bind fun r2 =>
          (ref02PartsBits fu r2.1).bind fun r3 =>
          cond (r3.1 != nq2) (
            some ((0 : Nat), (0 : Int), (2 : Int), ())) (
            (extFrom.f fu (nq2, ())).bind fun r4 =>
            let t5 := IntKind.i64.wrap (atvq2 + (8 : Int))
            some (r4.1, t5, (0 : Int), ()))) fu b atv (0 : Int) (0 : Int)))

noncomputable def ref03GetReal.body : Code := Try.f25.body.getD .skip
abbrev ref03GetReal.shl5 : Shp := ⟨[.d (.slice (.int .u8)), .d (.int .i64), .u, .u, .u, .u, .u, .d (.int .u64), .d (.int .i64), .u, .u, .u, .u, .u, .u, .u, .u, .u, .u, .u, .u, .u, .u, .u, .u, .u, .u, .u, .u, .u, .u, .u, .u, .u, .u, .u, .u, .u, .u, .u, .u], []⟩
abbrev ref03GetReal.outl5e2 : Shp := ⟨[.u, .d (.int .i64), .u, .u, .u, .u, .u, .d (.int .u64), .u, .u, .u, .u, .u, .u, .u, .u, .u, .u, .u, .u, .u, .u, .u, .u, .u, .u, .u, .u, .u, .u, .u, .u, .u, .u, .u, .u, .u, .u, .u, .u, .u], []⟩
noncomputable def ref03GetReal.nml5 : Norm := ⟨{ keep := [0, 1, 7, 8], shut := [(0, (.slice (.int .u8))), (1, (.int .i64)), (7, (.int .u64)), (8, (.int .i64))], retag := [], heap := 0, dead := [], cshut := [], cretag := [] }, [(2, { keep := [1, 7], shut := [(1, (.int .i64)), (7, (.int .u64))], retag := [], heap := 0, dead := [], cshut := [], cretag := [] })]⟩
noncomputable def ref03GetReal.con : Con := { ps := [(.slice (.int .u8)), (.int .i64)], rs := [.flt, (.int .i64), (.int .i64)], f := fun n x => ref03GetReal n x.1 x.2.1 }
noncomputable def ref03GetReal.env : Env := { tys := [(25, ⟨.flt, 8⟩), (3, ⟨(.int .i64), 8⟩), (4, ⟨.bool, 1⟩), (5, ⟨(.int .u8), 1⟩), (23, ⟨(.int .u64), 8⟩)], elems := [(22, 5)], ptrs := [], cons := [(33, ref02OfBits.con), (28, ref02PartsBits.con), (8, extFrom)], objs := [], loops := [(5, ref03GetReal.nml5)], cuts := [], globs := globs, base := 0 }
noncomputable def ref03GetReal.lp (n : Nat) : LP (Kd.struct ref03GetReal.con.rs).T := fun lo κ body nm K s =>
  cond (lo && Nat.beq κ 5)
    (match ref03GetReal.shl5.dec s with
    | some v => ref03GetReal.l5 n (fun w0 w1 => K (.exit 0) (ref03GetReal.outl5e2.enc (w0, w1, ()))) n v.1 v.2.1 v.2.2.1 v.2.2.2.1
    | none => loops n (Kd.struct ref03GetReal.con.rs).T lo κ body nm K s)
    (loops n (Kd.struct ref03GetReal.con.rs).T lo κ body nm K s)
theorem ref03GetReal.atl5 (n : Nat) (s : St) (K : Ex → St → Option (Kd.struct ref03GetReal.con.rs).T) : ref03GetReal.lp n true 5 (evK ref03GetReal.env (ref03GetReal.lp n) n (sub [1, 1, 1, 0, 1, 0, 0] ref03GetReal.body)) ref03GetReal.nml5 K s = loops n (Kd.struct ref03GetReal.con.rs).T true 5 (evK ref03GetReal.env (ref03GetReal.lp n) n (sub [1, 1, 1, 0, 1, 0, 0] ref03GetReal.body)) ref03GetReal.nml5 K s := by
  show (match ref03GetReal.shl5.dec s with | some v => ref03GetReal.l5 n (fun w0 w1 => K (.exit 0) (ref03GetReal.outl5e2.enc (w0, w1, ()))) n v.1 v.2.1 v.2.2.1 v.2.2.2.1 | none => loops n (Kd.struct ref03GetReal.con.rs).T true 5 (evK ref03GetReal.env (ref03GetReal.lp n) n (sub [1, 1, 1, 0, 1, 0, 0] ref03GetReal.body)) ref03GetReal.nml5 K s) = _
  cases h : ref03GetReal.shl5.dec s with
  | none => rfl
  | some v =>
    rw [Shp.dec_enc h]
    exact (evLoop_eq (sh := ref03GetReal.shl5) (body := evK ref03GetReal.env (ref03GetReal.lp n) n (sub [1, 1, 1, 0, 1, 0, 0] ref03GetReal.body)) (nm := ref03GetReal.nml5) (K := K) (b := fun nx v => ref03GetReal.b5 n (fun x0 x1 x2 x3 => nx (x0, x1, x2, x3, ())) (fun w0 w1 => K (.exit 0) (ref03GetReal.outl5e2.enc (w0, w1, ()))) v.1 v.2.1 v.2.2.1 v.2.2.2.1) (l := fun m v => ref03GetReal.l5 n (fun w0 w1 => K (.exit 0) (ref03GetReal.outl5e2.enc (w0, w1, ()))) m v.1 v.2.1 v.2.2.1 v.2.2.2.1) (fun _ => rfl) (fun _ _ => rfl) (fun m v => by kernel_rfl) n v).symm
theorem ref03GetReal.eq (n : Nat) (x : (Kd.struct ref03GetReal.con.ps).T) : evFunc ref03GetReal.env Try.f25 ref03GetReal.body ref03GetReal.con.ps ref03GetReal.con.rs (ref03GetReal.lp n) n x = ref03GetReal.con.f n x := by kernel_rfl
theorem ref03GetReal.sound : Sound Try.prog globs 25 ref03GetReal.con :=
  sound_by (E := ref03GetReal.env) (c := ref03GetReal.body) (envOk (G := globs) (lc := [(33, ref02OfBits.con), (28, ref02PartsBits.con), (8, extFrom)]) (lo := []) (envB_spec (by kernel_rfl)) rfl rfl ⟨.inl ⟨ref02OfBits.sound, by kernel_rfl⟩, ⟨.inl ⟨ref02PartsBits.sound, by kernel_rfl⟩, ⟨.inr (extFrom_ok Try.func8 (by kernel_rfl) (by kernel_rfl) (by kernel_rfl) (by kernel_rfl)), trivial⟩⟩⟩ rfl trivial (by kernel_rfl) (by kernel_rfl)) Try.func25 (by kernel_rfl) ref03GetReal.lp (l := [(true, sub [1, 1, 1, 0, 1, 0, 0] ref03GetReal.body, ref03GetReal.nml5)]) (by kernel_rfl) (fun n => ⟨ref03GetReal.atl5 n, trivial⟩) ref03GetReal.eq
noncomputable def law03PackGets (fu : Nat) (b : List Int) (atv : Int) (most : Int) : Option (Bool × Unit) :=
  let t1 := decide ((b.length : Int) > (2000 : Int))
  cond t1 (
    (law03Fixed fu).bind fun r2 =>
    some (r2.1, ())) (
    (packGet fu b atv).bind fun r3 =>
    (ref03Get fu b atv).bind fun r4 =>
    cond (r3.1 != r4.1) (
      some (false, ())) (
      cond (r3.2.1 != r4.2.1) (
        some (false, ())) (
        cond (r3.2.2.1 != r4.2.2.1) (
          some (false, ())) (
          (packGetInt fu b atv).bind fun r5 =>
          (ref03GetInt fu b atv).bind fun r6 =>
          cond (r5.1 != r6.1) (
            some (false, ())) (
            cond (r5.2.1 != r6.2.1) (
              some (false, ())) (
              cond (r5.2.2.1 != r6.2.2.1) (
                some (false, ())) (
                (packGetText fu b atv most).bind fun r7 =>
                (ref03GetText fu b atv most).bind fun r8 =>
                cond (r7.1 != r8.1) (
                  some (false, ())) (
                  cond (r7.2.1 != r8.2.1) (
                    some (false, ())) (
                    cond (r7.2.2.1 != r8.2.2.1) (
                      some (false, ())) (
                      (packGetReal fu b atv).bind fun r9 =>
                      (ref03GetReal fu b atv).bind fun r10 =>
                      (law03Fixed fu).bind fun r11 =>
                      cond r11.1 (
                        (extBits.f fu (r9.1, ())).bind fun r12 =>
                        (extBits.f fu (r10.1, ())).bind fun r13 =>
                        cond (r12.1 == r13.1) (
                          cond (r9.2.1 == r10.2.1) (
                            some (r9.2.2.1 == r10.2.2.1, ())) (
                            some (false, ()))) (
                          some (false, ()))) (
                        some (false, ()))))))))))))

noncomputable def law03PackGets.body : Code := Try.f4.body.getD .skip
noncomputable def law03PackGets.con : Con := { ps := [(.slice (.int .u8)), (.int .i64), (.int .i64)], rs := [.bool], f := fun n x => law03PackGets n x.1 x.2.1 x.2.2.1 }
noncomputable def law03PackGets.env : Env := { tys := [(4, ⟨.bool, 1⟩), (5, ⟨(.int .u8), 1⟩)], elems := [(22, 5)], ptrs := [], cons := [(7, law03Fixed.con), (18, packGet.con), (19, ref03Get.con), (20, packGetInt.con), (21, ref03GetInt.con), (22, packGetText.con), (23, ref03GetText.con), (24, packGetReal.con), (25, ref03GetReal.con), (26, extBits)], objs := [], loops := [], cuts := [], globs := globs, base := 0 }
noncomputable def law03PackGets.lp (n : Nat) : LP (Kd.struct law03PackGets.con.rs).T := fun lo κ body nm K s =>
  loops n (Kd.struct law03PackGets.con.rs).T lo κ body nm K s
theorem law03PackGets.eq (n : Nat) (x : (Kd.struct law03PackGets.con.ps).T) : evFunc law03PackGets.env Try.f4 law03PackGets.body law03PackGets.con.ps law03PackGets.con.rs (law03PackGets.lp n) n x = law03PackGets.con.f n x := by kernel_rfl
theorem law03PackGets.sound : Sound Try.prog globs 4 law03PackGets.con :=
  sound_by (E := law03PackGets.env) (c := law03PackGets.body) (envOk (G := globs) (lc := [(7, law03Fixed.con), (18, packGet.con), (19, ref03Get.con), (20, packGetInt.con), (21, ref03GetInt.con), (22, packGetText.con), (23, ref03GetText.con), (24, packGetReal.con), (25, ref03GetReal.con), (26, extBits)]) (lo := []) (envB_spec (by kernel_rfl)) rfl rfl ⟨.inl ⟨law03Fixed.sound, by kernel_rfl⟩, ⟨.inl ⟨packGet.sound, by kernel_rfl⟩, ⟨.inl ⟨ref03Get.sound, by kernel_rfl⟩, ⟨.inl ⟨packGetInt.sound, by kernel_rfl⟩, ⟨.inl ⟨ref03GetInt.sound, by kernel_rfl⟩, ⟨.inl ⟨packGetText.sound, by kernel_rfl⟩, ⟨.inl ⟨ref03GetText.sound, by kernel_rfl⟩, ⟨.inl ⟨packGetReal.sound, by kernel_rfl⟩, ⟨.inl ⟨ref03GetReal.sound, by kernel_rfl⟩, ⟨.inr (extBits_ok Try.func26 (by kernel_rfl) (by kernel_rfl) (by kernel_rfl) (by kernel_rfl)), trivial⟩⟩⟩⟩⟩⟩⟩⟩⟩⟩ rfl trivial (by kernel_rfl) (by kernel_rfl)) Try.func4 (by kernel_rfl) law03PackGets.lp (l := []) (by kernel_rfl) (fun n => trivial) law03PackGets.eq
noncomputable def packPutReal.b4 (fu : Nat) (next : (List Int) → Int → Int → Option (((List Int) × Unit) × (Unit))) (k2 : (List Int) → Option (((List Int) × Unit) × (Unit))) (out : List Int) (n : Int) (i : Int) : Option (((List Int) × Unit) × (Unit)) :=
  cond (decide (i ≥ (0 : Int))) (
    chk (!decide (i < 0)) <|
    let t1 := IntKind.u8.wrap (sShr .u64 n i)
    chk (apOk out ([t1]) 1) <|
    let t2 := IntKind.i64.wrap (i - (8 : Int))
    next (out ++ ([t1])) n t2) (
    k2 out)
noncomputable def packPutReal.l4 (fu : Nat) (k2 : (List Int) → Option (((List Int) × Unit) × (Unit))) : Nat → (List Int) → Int → Int → Option (((List Int) × Unit) × (Unit))
  | 0, _, _, _ => none
  | m + 1, out, n, i => packPutReal.b4 fu (packPutReal.l4 fu k2 m) k2 out n i
noncomputable def packPutReal (fu : Nat) (b : List Int) (xv : Nat) : Option (((List Int) × Unit) × (Unit)) :=
  (packOwn fu b (8 : Int)).bind fun r1 =>
  (realBits fu xv).bind fun r2 =>
  packPutReal.l4 fu (fun outq2 => 
      some ((outq2, ()), (()))) fu r1.1.1 r2.1 (56 : Int)

noncomputable def packPutReal.body : Code := Try.f12.body.getD .skip
abbrev packPutReal.shl4 : Shp := ⟨[.u, .u, .u, .u, .u, .o 5 (.int .u8), .d (.int .u64), .d (.int .i64), .u, .u, .u, .u, .u, .u, .u, .u, .u, .u, .u, .u, .u, .u, .u, .u], []⟩
abbrev packPutReal.outl4e2 : Shp := ⟨[.u, .u, .u, .u, .u, .o 5 (.int .u8), .u, .u, .u, .u, .u, .u, .u, .u, .u, .u, .u, .u, .u, .u, .u, .u, .u, .u], []⟩
noncomputable def packPutReal.nml4 : Norm := ⟨{ keep := [5, 6, 7], shut := [(6, (.int .u64)), (7, (.int .i64))], retag := [(5, 5, (.int .u8))], heap := 0, dead := [], cshut := [], cretag := [] }, [(2, { keep := [5], shut := [], retag := [(5, 5, (.int .u8))], heap := 0, dead := [], cshut := [], cretag := [] })]⟩
noncomputable def packPutReal.con : OCon := { ps := [.dat (.slice (.int .u8)), .dat .flt], rs := [.own (.int .u8)], f := fun n x => packPutReal n x.1 x.2.1 }
noncomputable def packPutReal.env : Env := { tys := [(22, ⟨(.slice (.int .u8)), 24⟩), (3, ⟨(.int .i64), 8⟩), (5, ⟨(.int .u8), 1⟩), (23, ⟨(.int .u64), 8⟩)], elems := [(22, 5)], ptrs := [], cons := [(30, realBits.con)], objs := [(29, [packOwn.con])], loops := [(4, packPutReal.nml4)], cuts := [], globs := globs, base := 0 }
noncomputable def packPutReal.lp (n : Nat) : LP (RT packPutReal.con.rs × BT packPutReal.con.ps) := fun lo κ body nm K s =>
  cond (lo && Nat.beq κ 4)
    (match packPutReal.shl4.dec s with
    | some v => packPutReal.l4 n (fun w0 => K (.exit 0) (packPutReal.outl4e2.enc (w0, ()))) n v.1 v.2.1 v.2.2.1
    | none => loops n (RT packPutReal.con.rs × BT packPutReal.con.ps) lo κ body nm K s)
    (loops n (RT packPutReal.con.rs × BT packPutReal.con.ps) lo κ body nm K s)
theorem packPutReal.atl4 (n : Nat) (s : St) (K : Ex → St → Option (RT packPutReal.con.rs × BT packPutReal.con.ps)) : packPutReal.lp n true 4 (evK packPutReal.env (packPutReal.lp n) n (sub [1, 1, 1, 0, 1, 0, 0] packPutReal.body)) packPutReal.nml4 K s = loops n (RT packPutReal.con.rs × BT packPutReal.con.ps) true 4 (evK packPutReal.env (packPutReal.lp n) n (sub [1, 1, 1, 0, 1, 0, 0] packPutReal.body)) packPutReal.nml4 K s := by
  show (match packPutReal.shl4.dec s with | some v => packPutReal.l4 n (fun w0 => K (.exit 0) (packPutReal.outl4e2.enc (w0, ()))) n v.1 v.2.1 v.2.2.1 | none => loops n (RT packPutReal.con.rs × BT packPutReal.con.ps) true 4 (evK packPutReal.env (packPutReal.lp n) n (sub [1, 1, 1, 0, 1, 0, 0] packPutReal.body)) packPutReal.nml4 K s) = _
  cases h : packPutReal.shl4.dec s with
  | none => rfl
  | some v =>
    rw [Shp.dec_enc h]
    exact (evLoop_eq (sh := packPutReal.shl4) (body := evK packPutReal.env (packPutReal.lp n) n (sub [1, 1, 1, 0, 1, 0, 0] packPutReal.body)) (nm := packPutReal.nml4) (K := K) (b := fun nx v => packPutReal.b4 n (fun x0 x1 x2 => nx (x0, x1, x2, ())) (fun w0 => K (.exit 0) (packPutReal.outl4e2.enc (w0, ()))) v.1 v.2.1 v.2.2.1) (l := fun m v => packPutReal.l4 n (fun w0 => K (.exit 0) (packPutReal.outl4e2.enc (w0, ()))) m v.1 v.2.1 v.2.2.1) (fun _ => rfl) (fun _ _ => rfl) (fun m v => by kernel_rfl) n v).symm
theorem packPutReal.eq (n : Nat) (x : PT packPutReal.con.ps) : evFuncO packPutReal.env Try.f12 packPutReal.body packPutReal.con.ps packPutReal.con.rs (packPutReal.lp n) n x = packPutReal.con.f n x := by kernel_rfl
theorem packPutReal.sound : SoundO Try.prog globs 12 packPutReal.con :=
  sound_byO (E := packPutReal.env) (c := packPutReal.body) (envOk (G := globs) (lc := [(30, realBits.con)]) (lo := [(29, [packOwn.con])]) (envB_spec (by kernel_rfl)) rfl rfl ⟨.inl ⟨realBits.sound, by kernel_rfl⟩, trivial⟩ rfl ⟨⟨⟨packOwn.sound, trivial⟩, by kernel_rfl⟩, trivial⟩ (by kernel_rfl) (by kernel_rfl)) Try.func12 (by kernel_rfl) (by kernel_rfl) (by kernel_rfl) packPutReal.lp (l := [(true, sub [1, 1, 1, 0, 1, 0, 0] packPutReal.body, packPutReal.nml4)]) (by kernel_rfl) (fun n => ⟨packPutReal.atl4 n, trivial⟩) packPutReal.eq
noncomputable def ref02Of (fu : Nat) (xv : Nat) : Option (S0 × Unit) :=
  (extBits.f fu (xv, ())).bind fun r1 =>
  (ref02OfBits fu r1.1).bind fun r2 =>
  some (r2.1, ())

noncomputable def ref02Of.body : Code := Try.f27.body.getD .skip
noncomputable def ref02Of.con : Con := { ps := [.flt], rs := [kS0], f := fun n x => ref02Of n x.1 }
noncomputable def ref02Of.env : Env := { tys := [(54, ⟨kS0, 24⟩)], elems := [], ptrs := [], cons := [(26, extBits), (33, ref02OfBits.con)], objs := [], loops := [], cuts := [], globs := globs, base := 0 }
noncomputable def ref02Of.lp (n : Nat) : LP (Kd.struct ref02Of.con.rs).T := fun lo κ body nm K s =>
  loops n (Kd.struct ref02Of.con.rs).T lo κ body nm K s
theorem ref02Of.eq (n : Nat) (x : (Kd.struct ref02Of.con.ps).T) : evFunc ref02Of.env Try.f27 ref02Of.body ref02Of.con.ps ref02Of.con.rs (ref02Of.lp n) n x = ref02Of.con.f n x := by kernel_rfl
theorem ref02Of.sound : Sound Try.prog globs 27 ref02Of.con :=
  sound_by (E := ref02Of.env) (c := ref02Of.body) (envOk (G := globs) (lc := [(26, extBits), (33, ref02OfBits.con)]) (lo := []) (envB_spec (by kernel_rfl)) rfl rfl ⟨.inr (extBits_ok Try.func26 (by kernel_rfl) (by kernel_rfl) (by kernel_rfl) (by kernel_rfl)), ⟨.inl ⟨ref02OfBits.sound, by kernel_rfl⟩, trivial⟩⟩ rfl trivial (by kernel_rfl) (by kernel_rfl)) Try.func27 (by kernel_rfl) ref02Of.lp (l := []) (by kernel_rfl) (fun n => trivial) ref02Of.eq
noncomputable def law03PackBack (fu : Nat) (ahead : List Int) (behind : List Int) (n : Int) (i : Int) (sv : List Int) (bits : Int) : Option (Bool × Unit) :=
  let t1 := decide ((ahead.length : Int) > (1000 : Int))
  cond t1 (
    (law03Fixed fu).bind fun r2 =>
    some (r2.1, ())) (
    let t3 := decide ((behind.length : Int) > (1000 : Int))
    cond t3 (
      (law03Fixed fu).bind fun r4 =>
      some (r4.1, ())) (
      let t5 := decide ((sv.length : Int) > (1000 : Int))
      cond t5 (
        (law03Fixed fu).bind fun r6 =>
        some (r6.1, ())) (
        (extFrom.f fu (bits, ())).bind fun r7 =>
        (packPut fu ahead n).bind fun r8 =>
        (packPutInt fu r8.1.1 i).bind fun r9 =>
        (packPutText fu r9.1 sv).bind fun r10 =>
        (packPutReal fu r10.1 r7.1).bind fun r11 =>
        chk (apOk r11.1.1 behind 1) <|
        (packGet fu (r11.1.1 ++ behind) (ahead.length : Int)).bind fun r12 =>
        (packGetInt fu (r11.1.1 ++ behind) r12.2.1).bind fun r13 =>
        (packGetText fu (r11.1.1 ++ behind) r13.2.1 (sv.length : Int)).bind fun r14 =>
        (packGetReal fu (r11.1.1 ++ behind) r14.2.1).bind fun r15 =>
        (law03Fixed fu).bind fun r16 =>
        cond r16.1 (
          cond (r12.2.2.1 == (0 : Int)) (
            cond (r13.2.2.1 == (0 : Int)) (
              cond (r14.2.2.1 == (0 : Int)) (
                cond (r15.2.2.1 == (0 : Int)) (
                  cond (r12.1 == n) (
                    cond (r13.1 == i) (
                      cond (r14.1 == sv) (
                        (ref02Of fu r15.1).bind fun r17 =>
                        (ref02PartsBits fu r17.1).bind fun r18 =>
                        (ref02Of fu r7.1).bind fun r19 =>
                        (ref02PartsBits fu r19.1).bind fun r20 =>
                        cond (r18.1 == r20.1) (
                          let t21 := r15.2.1 == (r11.1.1.length : Int)
                          some (t21, ())) (
                          some (false, ()))) (
                        some (false, ()))) (
                      some (false, ()))) (
                    some (false, ()))) (
                  some (false, ()))) (
                some (false, ()))) (
              some (false, ()))) (
            some (false, ()))) (
          some (false, ())))))

noncomputable def law03PackBack.body : Code := Try.f6.body.getD .skip
noncomputable def law03PackBack.con : Con := { ps := [(.slice (.int .u8)), (.slice (.int .u8)), (.int .u64), (.int .i64), .str, (.int .u64)], rs := [.bool], f := fun n x => law03PackBack n x.1 x.2.1 x.2.2.1 x.2.2.2.1 x.2.2.2.2.1 x.2.2.2.2.2.1 }
noncomputable def law03PackBack.env : Env := { tys := [(4, ⟨.bool, 1⟩), (5, ⟨(.int .u8), 1⟩), (9, ⟨.str, 16⟩)], elems := [(22, 5)], ptrs := [], cons := [(7, law03Fixed.con), (8, extFrom), (10, packPutInt.con), (11, packPutText.con), (18, packGet.con), (20, packGetInt.con), (22, packGetText.con), (24, packGetReal.con), (27, ref02Of.con), (28, ref02PartsBits.con)], objs := [(9, [packPut.con]), (12, [packPutReal.con])], loops := [], cuts := [], globs := globs, base := 0 }
noncomputable def law03PackBack.lp (n : Nat) : LP (Kd.struct law03PackBack.con.rs).T := fun lo κ body nm K s =>
  loops n (Kd.struct law03PackBack.con.rs).T lo κ body nm K s
theorem law03PackBack.eq (n : Nat) (x : (Kd.struct law03PackBack.con.ps).T) : evFunc law03PackBack.env Try.f6 law03PackBack.body law03PackBack.con.ps law03PackBack.con.rs (law03PackBack.lp n) n x = law03PackBack.con.f n x := by kernel_rfl
theorem law03PackBack.sound : Sound Try.prog globs 6 law03PackBack.con :=
  sound_by (E := law03PackBack.env) (c := law03PackBack.body) (envOk (G := globs) (lc := [(7, law03Fixed.con), (8, extFrom), (10, packPutInt.con), (11, packPutText.con), (18, packGet.con), (20, packGetInt.con), (22, packGetText.con), (24, packGetReal.con), (27, ref02Of.con), (28, ref02PartsBits.con)]) (lo := [(9, [packPut.con]), (12, [packPutReal.con])]) (envB_spec (by kernel_rfl)) rfl rfl ⟨.inl ⟨law03Fixed.sound, by kernel_rfl⟩, ⟨.inr (extFrom_ok Try.func8 (by kernel_rfl) (by kernel_rfl) (by kernel_rfl) (by kernel_rfl)), ⟨.inl ⟨packPutInt.sound, by kernel_rfl⟩, ⟨.inl ⟨packPutText.sound, by kernel_rfl⟩, ⟨.inl ⟨packGet.sound, by kernel_rfl⟩, ⟨.inl ⟨packGetInt.sound, by kernel_rfl⟩, ⟨.inl ⟨packGetText.sound, by kernel_rfl⟩, ⟨.inl ⟨packGetReal.sound, by kernel_rfl⟩, ⟨.inl ⟨ref02Of.sound, by kernel_rfl⟩, ⟨.inl ⟨ref02PartsBits.sound, by kernel_rfl⟩, trivial⟩⟩⟩⟩⟩⟩⟩⟩⟩⟩ rfl ⟨⟨⟨packPut.sound, trivial⟩, by kernel_rfl⟩, ⟨⟨⟨packPutReal.sound, trivial⟩, by kernel_rfl⟩, trivial⟩⟩ (by kernel_rfl) (by kernel_rfl)) Try.func6 (by kernel_rfl) law03PackBack.lp (l := []) (by kernel_rfl) (fun n => trivial) law03PackBack.eq
end
end Go.Shal.Pr
