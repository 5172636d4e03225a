/- Prints of functions, and proofs that they are what the code computes. By an AI agent. -/
import Derived.Test.YtpfmaljnnhammaaShD
import Derived.Test.YtpfmaljnnhammaaProg
set_option linter.unusedVariables false
set_option maxRecDepth 100000
namespace Go.Shal.Pr
open Go Go.Shal Go.Proofs
noncomputable section
def globs : Globs := []
abbrev kS0 : Kd := .struct [.bool, (.int .i64), (.int .u64)]
abbrev S0 : Type := Bool × Int × Int × Unit
noncomputable def bitsLen64.j7 (fu : Nat) (k1 : Int → Option (Int × Unit)) (xv : Int) (n : Int) : Option (Int × Unit) :=
  let t1 := decide (xv ≥ (256 : Int))
  cond t1 (
    let t2 := IntKind.i64.wrap (n + (8 : Int))
    let t3 := IntKind.u8.wrap (sShr .u64 xv (8 : Int))
    chk (ixOk ([0, 1, 2, 2, 3, 3, 3, 3, 4, 4, 4, 4, 4, 4, 4, 4, 5, 5, 5, 5, 5, 5, 5, 5, 5, 5, 5, 5, 5, 5, 5, 5, 6, 6, 6, 6, 6, 6, 6, 6, 6, 6, 6, 6, 6, 6, 6, 6, 6, 6, 6, 6, 6, 6, 6, 6, 6, 6, 6, 6, 6, 6, 6, 6, 7, 7, 7, 7, 7, 7, 7, 7, 7, 7, 7, 7, 7, 7, 7, 7, 7, 7, 7, 7, 7, 7, 7, 7, 7, 7, 7, 7, 7, 7, 7, 7, 7, 7, 7, 7, 7, 7, 7, 7, 7, 7, 7, 7, 7, 7, 7, 7, 7, 7, 7, 7, 7, 7, 7, 7, 7, 7, 7, 7, 7, 7, 7, 7, 8, 8, 8, 8, 8, 8, 8, 8, 8, 8, 8, 8, 8, 8, 8, 8, 8, 8, 8, 8, 8, 8, 8, 8, 8, 8, 8, 8, 8, 8, 8, 8, 8, 8, 8, 8, 8, 8, 8, 8, 8, 8, 8, 8, 8, 8, 8, 8, 8, 8, 8, 8, 8, 8, 8, 8, 8, 8, 8, 8, 8, 8, 8, 8, 8, 8, 8, 8, 8, 8, 8, 8, 8, 8, 8, 8, 8, 8, 8, 8, 8, 8, 8, 8, 8, 8, 8, 8, 8, 8, 8, 8, 8, 8, 8, 8, 8, 8, 8, 8, 8, 8, 8, 8, 8, 8, 8, 8, 8, 8, 8, 8, 8, 8, 8, 8, 8, 8, 8, 8, 8, 8, 8, 8, 8, 8, 8, 8] : List Int) t3) <|
    let t4 := ixL (0 : Int) ([0, 1, 2, 2, 3, 3, 3, 3, 4, 4, 4, 4, 4, 4, 4, 4, 5, 5, 5, 5, 5, 5, 5, 5, 5, 5, 5, 5, 5, 5, 5, 5, 6, 6, 6, 6, 6, 6, 6, 6, 6, 6, 6, 6, 6, 6, 6, 6, 6, 6, 6, 6, 6, 6, 6, 6, 6, 6, 6, 6, 6, 6, 6, 6, 7, 7, 7, 7, 7, 7, 7, 7, 7, 7, 7, 7, 7, 7, 7, 7, 7, 7, 7, 7, 7, 7, 7, 7, 7, 7, 7, 7, 7, 7, 7, 7, 7, 7, 7, 7, 7, 7, 7, 7, 7, 7, 7, 7, 7, 7, 7, 7, 7, 7, 7, 7, 7, 7, 7, 7, 7, 7, 7, 7, 7, 7, 7, 7, 8, 8, 8, 8, 8, 8, 8, 8, 8, 8, 8, 8, 8, 8, 8, 8, 8, 8, 8, 8, 8, 8, 8, 8, 8, 8, 8, 8, 8, 8, 8, 8, 8, 8, 8, 8, 8, 8, 8, 8, 8, 8, 8, 8, 8, 8, 8, 8, 8, 8, 8, 8, 8, 8, 8, 8, 8, 8, 8, 8, 8, 8, 8, 8, 8, 8, 8, 8, 8, 8, 8, 8, 8, 8, 8, 8, 8, 8, 8, 8, 8, 8, 8, 8, 8, 8, 8, 8, 8, 8, 8, 8, 8, 8, 8, 8, 8, 8, 8, 8, 8, 8, 8, 8, 8, 8, 8, 8, 8, 8, 8, 8, 8, 8, 8, 8, 8, 8, 8, 8, 8, 8, 8, 8, 8, 8, 8, 8] : List Int) t3
    let t5 := IntKind.i64.wrap (t2 + IntKind.i64.wrap t4)
    k1 t5) (
    chk (ixOk ([0, 1, 2, 2, 3, 3, 3, 3, 4, 4, 4, 4, 4, 4, 4, 4, 5, 5, 5, 5, 5, 5, 5, 5, 5, 5, 5, 5, 5, 5, 5, 5, 6, 6, 6, 6, 6, 6, 6, 6, 6, 6, 6, 6, 6, 6, 6, 6, 6, 6, 6, 6, 6, 6, 6, 6, 6, 6, 6, 6, 6, 6, 6, 6, 7, 7, 7, 7, 7, 7, 7, 7, 7, 7, 7, 7, 7, 7, 7, 7, 7, 7, 7, 7, 7, 7, 7, 7, 7, 7, 7, 7, 7, 7, 7, 7, 7, 7, 7, 7, 7, 7, 7, 7, 7, 7, 7, 7, 7, 7, 7, 7, 7, 7, 7, 7, 7, 7, 7, 7, 7, 7, 7, 7, 7, 7, 7, 7, 8, 8, 8, 8, 8, 8, 8, 8, 8, 8, 8, 8, 8, 8, 8, 8, 8, 8, 8, 8, 8, 8, 8, 8, 8, 8, 8, 8, 8, 8, 8, 8, 8, 8, 8, 8, 8, 8, 8, 8, 8, 8, 8, 8, 8, 8, 8, 8, 8, 8, 8, 8, 8, 8, 8, 8, 8, 8, 8, 8, 8, 8, 8, 8, 8, 8, 8, 8, 8, 8, 8, 8, 8, 8, 8, 8, 8, 8, 8, 8, 8, 8, 8, 8, 8, 8, 8, 8, 8, 8, 8, 8, 8, 8, 8, 8, 8, 8, 8, 8, 8, 8, 8, 8, 8, 8, 8, 8, 8, 8, 8, 8, 8, 8, 8, 8, 8, 8, 8, 8, 8, 8, 8, 8, 8, 8, 8, 8] : List Int) (IntKind.u8.wrap xv)) <|
    let t6 := ixL (0 : Int) ([0, 1, 2, 2, 3, 3, 3, 3, 4, 4, 4, 4, 4, 4, 4, 4, 5, 5, 5, 5, 5, 5, 5, 5, 5, 5, 5, 5, 5, 5, 5, 5, 6, 6, 6, 6, 6, 6, 6, 6, 6, 6, 6, 6, 6, 6, 6, 6, 6, 6, 6, 6, 6, 6, 6, 6, 6, 6, 6, 6, 6, 6, 6, 6, 7, 7, 7, 7, 7, 7, 7, 7, 7, 7, 7, 7, 7, 7, 7, 7, 7, 7, 7, 7, 7, 7, 7, 7, 7, 7, 7, 7, 7, 7, 7, 7, 7, 7, 7, 7, 7, 7, 7, 7, 7, 7, 7, 7, 7, 7, 7, 7, 7, 7, 7, 7, 7, 7, 7, 7, 7, 7, 7, 7, 7, 7, 7, 7, 8, 8, 8, 8, 8, 8, 8, 8, 8, 8, 8, 8, 8, 8, 8, 8, 8, 8, 8, 8, 8, 8, 8, 8, 8, 8, 8, 8, 8, 8, 8, 8, 8, 8, 8, 8, 8, 8, 8, 8, 8, 8, 8, 8, 8, 8, 8, 8, 8, 8, 8, 8, 8, 8, 8, 8, 8, 8, 8, 8, 8, 8, 8, 8, 8, 8, 8, 8, 8, 8, 8, 8, 8, 8, 8, 8, 8, 8, 8, 8, 8, 8, 8, 8, 8, 8, 8, 8, 8, 8, 8, 8, 8, 8, 8, 8, 8, 8, 8, 8, 8, 8, 8, 8, 8, 8, 8, 8, 8, 8, 8, 8, 8, 8, 8, 8, 8, 8, 8, 8, 8, 8, 8, 8, 8, 8, 8, 8] : List Int) (IntKind.u8.wrap xv)
    let t7 := IntKind.i64.wrap (n + IntKind.i64.wrap t6)
    k1 t7)
noncomputable def bitsLen64.j4 (fu : Nat) (k1 : Int → Option (Int × Unit)) (xv : Int) (n : Int) : Option (Int × Unit) :=
  let t1 := decide (xv ≥ (65536 : Int))
  cond t1 (
    let t2 := IntKind.i64.wrap (n + (16 : Int))
    bitsLen64.j7 fu (fun nq3 => 
        k1 nq3) (sShr .u64 xv (16 : Int)) t2) (
    bitsLen64.j7 fu (fun nq4 => 
        k1 nq4) xv n)
noncomputable def bitsLen64 (fu : Nat) (xv : Int) : Option (Int × Unit) :=
  let t1 := decide (xv ≥ (4294967296 : Int))
  cond t1 (
    bitsLen64.j4 fu (fun nq1 => 
        some (nq1, ())) (sShr .u64 xv (32 : Int)) (32 : Int)) (
    bitsLen64.j4 fu (fun nq2 => 
        some (nq2, ())) xv (0 : Int))

noncomputable def bitsLen64.body : Code := Try.f31.body.getD .skip
abbrev bitsLen64.shj7 : Shp := ⟨[.d (.int .u64), .u, .d (.int .i64), .u, .u, .u, .u, .u, .u, .u, .u, .u, .u, .u, .u, .u, .u, .u, .u, .u, .u, .u, .u, .u, .u], []⟩
abbrev bitsLen64.outj7e1 : Shp := ⟨[.u, .u, .d (.int .i64), .u, .u, .u, .u, .u, .u, .u, .u, .u, .u, .u, .u, .u, .u, .u, .u, .u, .u, .u, .u, .u, .u], []⟩
noncomputable def bitsLen64.nmj7 : Norm := ⟨{ keep := [0, 2], shut := [(0, (.int .u64)), (2, (.int .i64))], retag := [], heap := 0, dead := [], cshut := [], cretag := [] }, [(1, { keep := [2], shut := [(2, (.int .i64))], retag := [], heap := 0, dead := [], cshut := [], cretag := [] })]⟩
abbrev bitsLen64.shj4 : Shp := ⟨[.d (.int .u64), .u, .d (.int .i64), .u, .u, .u, .u, .u, .u, .u, .u, .u, .u, .u, .u, .u, .u, .u, .u, .u, .u, .u, .u, .u, .u], []⟩
abbrev bitsLen64.outj4e1 : Shp := ⟨[.u, .u, .d (.int .i64), .u, .u, .u, .u, .u, .u, .u, .u, .u, .u, .u, .u, .u, .u, .u, .u, .u, .u, .u, .u, .u, .u], []⟩
noncomputable def bitsLen64.nmj4 : Norm := ⟨{ keep := [0, 2], shut := [(0, (.int .u64)), (2, (.int .i64))], retag := [], heap := 0, dead := [], cshut := [], cretag := [] }, [(1, { keep := [2], shut := [(2, (.int .i64))], retag := [], heap := 0, dead := [], cshut := [], cretag := [] })]⟩
noncomputable def bitsLen64.con : Con := { ps := [(.int .u64)], rs := [(.int .i64)], f := fun n x => bitsLen64 n x.1 }
noncomputable def bitsLen64.env : Env := { tys := [(3, ⟨(.int .i64), 8⟩), (5, ⟨(.int .u8), 1⟩), (23, ⟨(.int .u64), 8⟩), (9, ⟨.str, 16⟩)], elems := [], ptrs := [], cons := [], objs := [], loops := [], cuts := [(7, bitsLen64.nmj7), (4, bitsLen64.nmj4)], globs := globs, base := 0 }
noncomputable def bitsLen64.lp (n : Nat) : LP (Kd.struct bitsLen64.con.rs).T := fun lo κ body nm K s =>
  cond (!lo && Nat.beq κ 7)
    (match bitsLen64.shj7.dec s with
    | some v => bitsLen64.j7 n (fun w0 => K .ret (bitsLen64.outj7e1.enc (w0, ()))) v.1 v.2.1
    | none => loops n (Kd.struct bitsLen64.con.rs).T lo κ body nm K s)
    (cond (!lo && Nat.beq κ 4)
    (match bitsLen64.shj4.dec s with
    | some v => bitsLen64.j4 n (fun w0 => K .ret (bitsLen64.outj4e1.enc (w0, ()))) v.1 v.2.1
    | none => loops n (Kd.struct bitsLen64.con.rs).T lo κ body nm K s)
    (loops n (Kd.struct bitsLen64.con.rs).T lo κ body nm K s))
theorem bitsLen64.atj7 (n : Nat) (s : St) (K : Ex → St → Option (Kd.struct bitsLen64.con.rs).T) : (bitsLen64.lp n) false 7 (evK bitsLen64.env (bitsLen64.lp n) n (sub [1, 1, 1] bitsLen64.body)) bitsLen64.nmj7 K s = loops n (Kd.struct bitsLen64.con.rs).T false 7 (evK bitsLen64.env (bitsLen64.lp n) n (sub [1, 1, 1] bitsLen64.body)) bitsLen64.nmj7 K s := by
  show (match bitsLen64.shj7.dec s with | some v => bitsLen64.j7 n (fun w0 => K .ret (bitsLen64.outj7e1.enc (w0, ()))) v.1 v.2.1 | none => loops n (Kd.struct bitsLen64.con.rs).T false 7 (evK bitsLen64.env (bitsLen64.lp n) n (sub [1, 1, 1] bitsLen64.body)) bitsLen64.nmj7 K s) = _
  cases h : bitsLen64.shj7.dec s with
  | none => rfl
  | some v =>
    rw [Shp.dec_enc h]
    kernel_rfl
theorem bitsLen64.atj4 (n : Nat) (s : St) (K : Ex → St → Option (Kd.struct bitsLen64.con.rs).T) : (bitsLen64.lp n) false 4 (evK bitsLen64.env (bitsLen64.lp n) n (sub [1, 1] bitsLen64.body)) bitsLen64.nmj4 K s = loops n (Kd.struct bitsLen64.con.rs).T false 4 (evK bitsLen64.env (bitsLen64.lp n) n (sub [1, 1] bitsLen64.body)) bitsLen64.nmj4 K s := by
  show (match bitsLen64.shj4.dec s with | some v => bitsLen64.j4 n (fun w0 => K .ret (bitsLen64.outj4e1.enc (w0, ()))) v.1 v.2.1 | none => loops n (Kd.struct bitsLen64.con.rs).T false 4 (evK bitsLen64.env (bitsLen64.lp n) n (sub [1, 1] bitsLen64.body)) bitsLen64.nmj4 K s) = _
  cases h : bitsLen64.shj4.dec s with
  | none => rfl
  | some v =>
    rw [Shp.dec_enc h]
    kernel_rfl
theorem bitsLen64.eq (n : Nat) (x : (Kd.struct bitsLen64.con.ps).T) : evFunc bitsLen64.env Try.f31 bitsLen64.body bitsLen64.con.ps bitsLen64.con.rs (bitsLen64.lp n) n x = bitsLen64.con.f n x := by kernel_rfl
theorem bitsLen64.sound : Sound Try.prog globs 31 bitsLen64.con :=
  sound_by (E := bitsLen64.env) (c := bitsLen64.body) (envOk (G := globs) (lc := []) (lo := []) (envB_spec (by kernel_rfl)) rfl rfl trivial rfl trivial (by kernel_rfl) (by kernel_rfl)) Try.func31 (by kernel_rfl) bitsLen64.lp (l := [(false, sub [1, 1, 1] bitsLen64.body, bitsLen64.nmj7), (false, sub [1, 1] bitsLen64.body, bitsLen64.nmj4)]) (by kernel_rfl) (fun n => ⟨bitsLen64.atj7 n, ⟨bitsLen64.atj4 n, trivial⟩⟩) bitsLen64.eq
noncomputable def packSize (fu : Nat) (n : Int) : Option (Int × Unit) :=
  (bitsLen64 fu n).bind fun r1 =>
  let t2 := IntKind.i64.wrap (max2 r1.1 (1 : Int) + (6 : Int))
  let t3 := IntKind.i64.wrap (Int.tdiv t2 (7 : Int))
  some (t3, ())

noncomputable def packSize.body : Code := Try.f17.body.getD .skip
noncomputable def packSize.con : Con := { ps := [(.int .u64)], rs := [(.int .i64)], f := fun n x => packSize n x.1 }
noncomputable def packSize.env : Env := { tys := [(3, ⟨(.int .i64), 8⟩)], elems := [], ptrs := [], cons := [(31, bitsLen64.con)], objs := [], loops := [], cuts := [], globs := globs, base := 0 }
noncomputable def packSize.lp (n : Nat) : LP (Kd.struct packSize.con.rs).T := fun lo κ body nm K s =>
  loops n (Kd.struct packSize.con.rs).T lo κ body nm K s
theorem packSize.eq (n : Nat) (x : (Kd.struct packSize.con.ps).T) : evFunc packSize.env Try.f17 packSize.body packSize.con.ps packSize.con.rs (packSize.lp n) n x = packSize.con.f n x := by kernel_rfl
theorem packSize.sound : Sound Try.prog globs 17 packSize.con :=
  sound_by (E := packSize.env) (c := packSize.body) (envOk (G := globs) (lc := [(31, bitsLen64.con)]) (lo := []) (envB_spec (by kernel_rfl)) rfl rfl ⟨.inl ⟨bitsLen64.sound, by kernel_rfl⟩, trivial⟩ rfl trivial (by kernel_rfl) (by kernel_rfl)) Try.func17 (by kernel_rfl) packSize.lp (l := []) (by kernel_rfl) (fun n => trivial) packSize.eq
noncomputable def packOwn (fu : Nat) (b : List Int) (room : Int) : Option (((List Int) × Unit) × (Unit)) :=
  let t1 := IntKind.i64.wrap ((b.length : Int) + room)
  chk (mkOk (0 : Int) t1 1) <|
  let t2 := List.replicate (0 : Int).toNat (0 : Int)
  chk (apOk t2 b 1) <|
  some ((t2 ++ b, ()), (()))

noncomputable def packOwn.body : Code := Try.f29.body.getD .skip
noncomputable def packOwn.con : OCon := { ps := [.dat (.slice (.int .u8)), .dat (.int .i64)], rs := [.own (.int .u8)], f := fun n x => packOwn n x.1 x.2.1 }
noncomputable def packOwn.env : Env := { tys := [(22, ⟨(.slice (.int .u8)), 24⟩), (5, ⟨(.int .u8), 1⟩)], elems := [(22, 5)], ptrs := [], cons := [], objs := [], loops := [], cuts := [], globs := globs, base := 0 }
noncomputable def packOwn.lp (n : Nat) : LP (RT packOwn.con.rs × BT packOwn.con.ps) := fun lo κ body nm K s =>
  loops n (RT packOwn.con.rs × BT packOwn.con.ps) lo κ body nm K s
theorem packOwn.eq (n : Nat) (x : PT packOwn.con.ps) : evFuncO packOwn.env Try.f29 packOwn.body packOwn.con.ps packOwn.con.rs (packOwn.lp n) n x = packOwn.con.f n x := by kernel_rfl
theorem packOwn.sound : SoundO Try.prog globs 29 packOwn.con :=
  sound_byO (E := packOwn.env) (c := packOwn.body) (envOk (G := globs) (lc := []) (lo := []) (envB_spec (by kernel_rfl)) rfl rfl trivial rfl trivial (by kernel_rfl) (by kernel_rfl)) Try.func29 (by kernel_rfl) (by kernel_rfl) (by kernel_rfl) packOwn.lp (l := []) (by kernel_rfl) (fun n => trivial) packOwn.eq
noncomputable def packPutDat.b2 (fu : Nat) (next : Int → (List Int) → Option ((List Int) × Unit)) (k2 : Int → (List Int) → Option ((List Int) × Unit)) (n : Int) (out : List Int) : Option ((List Int) × Unit) :=
  cond (decide (n ≥ (128 : Int))) (
    let t1 := bOr .u8 (IntKind.u8.wrap n) (128 : Int)
    chk (apOk out ([t1]) 1) <|
    next (sShr .u64 n (7 : Int)) (out ++ ([t1]))) (
    k2 n out)
noncomputable def packPutDat.l2 (fu : Nat) (k2 : Int → (List Int) → Option ((List Int) × Unit)) : Nat → Int → (List Int) → Option ((List Int) × Unit)
  | 0, _, _ => none
  | m + 1, n, out => packPutDat.b2 fu (packPutDat.l2 fu k2 m) k2 n out
noncomputable def packPutDat (fu : Nat) (b : List Int) (n : Int) : Option ((List Int) × Unit) :=
  (packSize fu n).bind fun r1 =>
  (packOwn fu b r1.1).bind fun r2 =>
  packPutDat.l2 fu (fun nq2 outq2 => 
      chk (apOk outq2 ([IntKind.u8.wrap nq2]) 1) <|
      let t3 := outq2 ++ ([IntKind.u8.wrap nq2])
      some (t3, ())) fu n r2.1.1

noncomputable def packPutDat.body : Code := Try.f9.body.getD .skip
abbrev packPutDat.shl2 : Shp := ⟨[.u, .d (.int .u64), .u, .u, .u, .o 5 (.int .u8), .u, .u, .u, .u, .u, .u, .u, .u, .u, .u, .u, .u, .u, .u, .u, .u, .u, .u, .u], []⟩
abbrev packPutDat.outl2e2 : Shp := ⟨[.u, .d (.int .u64), .u, .u, .u, .o 5 (.int .u8), .u, .u, .u, .u, .u, .u, .u, .u, .u, .u, .u, .u, .u, .u, .u, .u, .u, .u, .u], []⟩
noncomputable def packPutDat.nml2 : Norm := ⟨{ keep := [1, 5], shut := [(1, (.int .u64))], retag := [(5, 5, (.int .u8))], heap := 0, dead := [], cshut := [], cretag := [] }, [(2, { keep := [1, 5], shut := [(1, (.int .u64))], retag := [(5, 5, (.int .u8))], heap := 0, dead := [], cshut := [], cretag := [] })]⟩
noncomputable def packPutDat.con : Con := { ps := [(.slice (.int .u8)), (.int .u64)], rs := [(.slice (.int .u8))], f := fun n x => packPutDat n x.1 x.2.1 }
noncomputable def packPutDat.env : Env := { tys := [(22, ⟨(.slice (.int .u8)), 24⟩), (5, ⟨(.int .u8), 1⟩), (23, ⟨(.int .u64), 8⟩)], elems := [(22, 5)], ptrs := [], cons := [(17, packSize.con)], objs := [(29, [packOwn.con])], loops := [(2, packPutDat.nml2)], cuts := [], globs := globs, base := 0 }
noncomputable def packPutDat.lp (n : Nat) : LP (Kd.struct packPutDat.con.rs).T := fun lo κ body nm K s =>
  cond (lo && Nat.beq κ 2)
    (match packPutDat.shl2.dec s with
    | some v => packPutDat.l2 n (fun w0 w1 => K (.exit 0) (packPutDat.outl2e2.enc (w0, w1, ()))) n v.1 v.2.1
    | none => loops n (Kd.struct packPutDat.con.rs).T lo κ body nm K s)
    (loops n (Kd.struct packPutDat.con.rs).T lo κ body nm K s)
theorem packPutDat.atl2 (n : Nat) (s : St) (K : Ex → St → Option (Kd.struct packPutDat.con.rs).T) : (packPutDat.lp n) true 2 (evK packPutDat.env (packPutDat.lp n) n (sub [1, 1, 0, 0, 0] packPutDat.body)) packPutDat.nml2 K s = loops n (Kd.struct packPutDat.con.rs).T true 2 (evK packPutDat.env (packPutDat.lp n) n (sub [1, 1, 0, 0, 0] packPutDat.body)) packPutDat.nml2 K s := by
  show (match packPutDat.shl2.dec s with | some v => packPutDat.l2 n (fun w0 w1 => K (.exit 0) (packPutDat.outl2e2.enc (w0, w1, ()))) n v.1 v.2.1 | none => loops n (Kd.struct packPutDat.con.rs).T true 2 (evK packPutDat.env (packPutDat.lp n) n (sub [1, 1, 0, 0, 0] packPutDat.body)) packPutDat.nml2 K s) = _
  cases h : packPutDat.shl2.dec s with
  | none => rfl
  | some v =>
    rw [Shp.dec_enc h]
    exact (evLoop_eq (sh := packPutDat.shl2) (body := evK packPutDat.env (packPutDat.lp n) n (sub [1, 1, 0, 0, 0] packPutDat.body)) (nm := packPutDat.nml2) (K := K) (b := fun nx v => packPutDat.b2 n (fun x0 x1 => nx (x0, x1, ())) (fun w0 w1 => K (.exit 0) (packPutDat.outl2e2.enc (w0, w1, ()))) v.1 v.2.1) (l := fun m v => packPutDat.l2 n (fun w0 w1 => K (.exit 0) (packPutDat.outl2e2.enc (w0, w1, ()))) m v.1 v.2.1) (fun _ => rfl) (fun _ _ => rfl) (fun m v => by kernel_rfl) n v).symm
theorem packPutDat.eq (n : Nat) (x : (Kd.struct packPutDat.con.ps).T) : evFunc packPutDat.env Try.f9 packPutDat.body packPutDat.con.ps packPutDat.con.rs (packPutDat.lp n) n x = packPutDat.con.f n x := by kernel_rfl
theorem packPutDat.sound : Sound Try.prog globs 9 packPutDat.con :=
  sound_by (E := packPutDat.env) (c := packPutDat.body) (envOk (G := globs) (lc := [(17, packSize.con)]) (lo := [(29, [packOwn.con])]) (envB_spec (by kernel_rfl)) rfl rfl ⟨.inl ⟨packSize.sound, by kernel_rfl⟩, trivial⟩ rfl ⟨⟨⟨packOwn.sound, trivial⟩, by kernel_rfl⟩, trivial⟩ (by kernel_rfl) (by kernel_rfl)) Try.func9 (by kernel_rfl) packPutDat.lp (l := [(true, sub [1, 1, 0, 0, 0] packPutDat.body, packPutDat.nml2)]) (by kernel_rfl) (fun n => ⟨packPutDat.atl2 n, trivial⟩) packPutDat.eq
noncomputable def packPutIntDat (fu : Nat) (b : List Int) (n : Int) : Option ((List Int) × Unit) :=
  let t1 := sShl .u64 (IntKind.u64.wrap n) (1 : Int)
  let t2 := IntKind.u64.wrap (sShr .i64 n (63 : Int))
  (packPutDat fu b (bXor .u64 t1 t2)).bind fun r3 =>
  some (r3.1, ())

noncomputable def packPutIntDat.body : Code := Try.f10.body.getD .skip
noncomputable def packPutIntDat.con : Con := { ps := [(.slice (.int .u8)), (.int .i64)], rs := [(.slice (.int .u8))], f := fun n x => packPutIntDat n x.1 x.2.1 }
noncomputable def packPutIntDat.env : Env := { tys := [(22, ⟨(.slice (.int .u8)), 24⟩), (23, ⟨(.int .u64), 8⟩), (2, ⟨(.int .i64), 8⟩)], elems := [], ptrs := [], cons := [(9, packPutDat.con)], objs := [], loops := [], cuts := [], globs := globs, base := 0 }
noncomputable def packPutIntDat.lp (n : Nat) : LP (Kd.struct packPutIntDat.con.rs).T := fun lo κ body nm K s =>
  loops n (Kd.struct packPutIntDat.con.rs).T lo κ body nm K s
theorem packPutIntDat.eq (n : Nat) (x : (Kd.struct packPutIntDat.con.ps).T) : evFunc packPutIntDat.env Try.f10 packPutIntDat.body packPutIntDat.con.ps packPutIntDat.con.rs (packPutIntDat.lp n) n x = packPutIntDat.con.f n x := by kernel_rfl
theorem packPutIntDat.sound : Sound Try.prog globs 10 packPutIntDat.con :=
  sound_by (E := packPutIntDat.env) (c := packPutIntDat.body) (envOk (G := globs) (lc := [(9, packPutDat.con)]) (lo := []) (envB_spec (by kernel_rfl)) rfl rfl ⟨.inl ⟨packPutDat.sound, by kernel_rfl⟩, trivial⟩ rfl trivial (by kernel_rfl) (by kernel_rfl)) Try.func10 (by kernel_rfl) packPutIntDat.lp (l := []) (by kernel_rfl) (fun n => trivial) packPutIntDat.eq
noncomputable def law03Fixed (fu : Nat) : Option (Bool × Unit) :=
  (packPutDat fu [] (300 : Int)).bind fun r1 =>
  let t2 := r1.1 == ([172, 2] : List Int)
  cond t2 (
    (packPutIntDat fu [] (-1 : Int)).bind fun r3 =>
    cond (r3.1 == ([1] : List Int)) (
      (packSize fu (300 : Int)).bind fun r4 =>
      some (r4.1 == (2 : Int), ())) (
      some (false, ()))) (
    some (false, ()))

noncomputable def law03Fixed.body : Code := Try.f7.body.getD .skip
noncomputable def law03Fixed.con : Con := { ps := [], rs := [.bool], f := fun n x => law03Fixed n }
noncomputable def law03Fixed.env : Env := { tys := [(4, ⟨.bool, 1⟩), (9, ⟨.str, 16⟩), (22, ⟨(.slice (.int .u8)), 24⟩), (5, ⟨(.int .u8), 1⟩)], elems := [(22, 5)], ptrs := [], cons := [(9, packPutDat.con), (10, packPutIntDat.con), (17, packSize.con)], objs := [], loops := [], cuts := [], globs := globs, base := 0 }
noncomputable def law03Fixed.lp (n : Nat) : LP (Kd.struct law03Fixed.con.rs).T := fun lo κ body nm K s =>
  loops n (Kd.struct law03Fixed.con.rs).T lo κ body nm K s
theorem law03Fixed.eq (n : Nat) (x : (Kd.struct law03Fixed.con.ps).T) : evFunc law03Fixed.env Try.f7 law03Fixed.body law03Fixed.con.ps law03Fixed.con.rs (law03Fixed.lp n) n x = law03Fixed.con.f n x := by kernel_rfl
theorem law03Fixed.sound : Sound Try.prog globs 7 law03Fixed.con :=
  sound_by (E := law03Fixed.env) (c := law03Fixed.body) (envOk (G := globs) (lc := [(9, packPutDat.con), (10, packPutIntDat.con), (17, packSize.con)]) (lo := []) (envB_spec (by kernel_rfl)) rfl rfl ⟨.inl ⟨packPutDat.sound, by kernel_rfl⟩, ⟨.inl ⟨packPutIntDat.sound, by kernel_rfl⟩, ⟨.inl ⟨packSize.sound, by kernel_rfl⟩, trivial⟩⟩⟩ rfl trivial (by kernel_rfl) (by kernel_rfl)) Try.func7 (by kernel_rfl) law03Fixed.lp (l := []) (by kernel_rfl) (fun n => trivial) law03Fixed.eq
noncomputable def packPut.b2 (fu : Nat) (next : Int → (List Int) → Option (((List Int) × Unit) × (Unit))) (k2 : Int → (List Int) → Option (((List Int) × Unit) × (Unit))) (n : Int) (out : List Int) : Option (((List Int) × Unit) × (Unit)) :=
  cond (decide (n ≥ (128 : Int))) (
    let t1 := bOr .u8 (IntKind.u8.wrap n) (128 : Int)
    chk (apOk out ([t1]) 1) <|
    next (sShr .u64 n (7 : Int)) (out ++ ([t1]))) (
    k2 n out)
noncomputable def packPut.l2 (fu : Nat) (k2 : Int → (List Int) → Option (((List Int) × Unit) × (Unit))) : Nat → Int → (List Int) → Option (((List Int) × Unit) × (Unit))
  | 0, _, _ => none
  | m + 1, n, out => packPut.b2 fu (packPut.l2 fu k2 m) k2 n out
noncomputable def packPut (fu : Nat) (b : List Int) (n : Int) : Option (((List Int) × Unit) × (Unit)) :=
  (packSize fu n).bind fun r1 =>
  (packOwn fu b r1.1).bind fun r2 =>
  packPut.l2 fu (fun nq2 outq2 => 
      chk (apOk outq2 ([IntKind.u8.wrap nq2]) 1) <|
      let t3 := outq2 ++ ([IntKind.u8.wrap nq2])
      some ((t3, ()), (()))) fu n r2.1.1

noncomputable def packPut.body : Code := Try.f9.body.getD .skip
abbrev packPut.shl2 : Shp := ⟨[.u, .d (.int .u64), .u, .u, .u, .o 5 (.int .u8), .u, .u, .u, .u, .u, .u, .u, .u, .u, .u, .u, .u, .u, .u, .u, .u, .u, .u, .u], []⟩
abbrev packPut.outl2e2 : Shp := ⟨[.u, .d (.int .u64), .u, .u, .u, .o 5 (.int .u8), .u, .u, .u, .u, .u, .u, .u, .u, .u, .u, .u, .u, .u, .u, .u, .u, .u, .u, .u], []⟩
noncomputable def packPut.nml2 : Norm := ⟨{ keep := [1, 5], shut := [(1, (.int .u64))], retag := [(5, 5, (.int .u8))], heap := 0, dead := [], cshut := [], cretag := [] }, [(2, { keep := [1, 5], shut := [(1, (.int .u64))], retag := [(5, 5, (.int .u8))], heap := 0, dead := [], cshut := [], cretag := [] })]⟩
noncomputable def packPut.con : OCon := { ps := [.dat (.slice (.int .u8)), .dat (.int .u64)], rs := [.own (.int .u8)], f := fun n x => packPut n x.1 x.2.1 }
noncomputable def packPut.env : Env := { tys := [(22, ⟨(.slice (.int .u8)), 24⟩), (5, ⟨(.int .u8), 1⟩), (23, ⟨(.int .u64), 8⟩)], elems := [(22, 5)], ptrs := [], cons := [(17, packSize.con)], objs := [(29, [packOwn.con])], loops := [(2, packPut.nml2)], cuts := [], globs := globs, base := 0 }
noncomputable def packPut.lp (n : Nat) : LP (RT packPut.con.rs × BT packPut.con.ps) := fun lo κ body nm K s =>
  cond (lo && Nat.beq κ 2)
    (match packPut.shl2.dec s with
    | some v => packPut.l2 n (fun w0 w1 => K (.exit 0) (packPut.outl2e2.enc (w0, w1, ()))) n v.1 v.2.1
    | none => loops n (RT packPut.con.rs × BT packPut.con.ps) lo κ body nm K s)
    (loops n (RT packPut.con.rs × BT packPut.con.ps) lo κ body nm K s)
theorem packPut.atl2 (n : Nat) (s : St) (K : Ex → St → Option (RT packPut.con.rs × BT packPut.con.ps)) : (packPut.lp n) true 2 (evK packPut.env (packPut.lp n) n (sub [1, 1, 0, 0, 0] packPut.body)) packPut.nml2 K s = loops n (RT packPut.con.rs × BT packPut.con.ps) true 2 (evK packPut.env (packPut.lp n) n (sub [1, 1, 0, 0, 0] packPut.body)) packPut.nml2 K s := by
  show (match packPut.shl2.dec s with | some v => packPut.l2 n (fun w0 w1 => K (.exit 0) (packPut.outl2e2.enc (w0, w1, ()))) n v.1 v.2.1 | none => loops n (RT packPut.con.rs × BT packPut.con.ps) true 2 (evK packPut.env (packPut.lp n) n (sub [1, 1, 0, 0, 0] packPut.body)) packPut.nml2 K s) = _
  cases h : packPut.shl2.dec s with
  | none => rfl
  | some v =>
    rw [Shp.dec_enc h]
    exact (evLoop_eq (sh := packPut.shl2) (body := evK packPut.env (packPut.lp n) n (sub [1, 1, 0, 0, 0] packPut.body)) (nm := packPut.nml2) (K := K) (b := fun nx v => packPut.b2 n (fun x0 x1 => nx (x0, x1, ())) (fun w0 w1 => K (.exit 0) (packPut.outl2e2.enc (w0, w1, ()))) v.1 v.2.1) (l := fun m v => packPut.l2 n (fun w0 w1 => K (.exit 0) (packPut.outl2e2.enc (w0, w1, ()))) m v.1 v.2.1) (fun _ => rfl) (fun _ _ => rfl) (fun m v => by kernel_rfl) n v).symm
theorem packPut.eq (n : Nat) (x : PT packPut.con.ps) : evFuncO packPut.env Try.f9 packPut.body packPut.con.ps packPut.con.rs (packPut.lp n) n x = packPut.con.f n x := by kernel_rfl
theorem packPut.sound : SoundO Try.prog globs 9 packPut.con :=
  sound_byO (E := packPut.env) (c := packPut.body) (envOk (G := globs) (lc := [(17, packSize.con)]) (lo := [(29, [packOwn.con])]) (envB_spec (by kernel_rfl)) rfl rfl ⟨.inl ⟨packSize.sound, by kernel_rfl⟩, trivial⟩ rfl ⟨⟨⟨packOwn.sound, trivial⟩, by kernel_rfl⟩, trivial⟩ (by kernel_rfl) (by kernel_rfl)) Try.func9 (by kernel_rfl) (by kernel_rfl) (by kernel_rfl) packPut.lp (l := [(true, sub [1, 1, 0, 0, 0] packPut.body, packPut.nml2)]) (by kernel_rfl) (fun n => ⟨packPut.atl2 n, trivial⟩) packPut.eq
noncomputable def packPutTextDat (fu : Nat) (b : List Int) (sv : List Int) : Option ((List Int) × Unit) :=
  let t1 := IntKind.u64.wrap (sv.length : Int)
  (packPut fu b t1).bind fun r2 =>
  chk (apOk r2.1.1 sv 1) <|
  some (r2.1.1 ++ sv, ())

noncomputable def packPutTextDat.body : Code := Try.f11.body.getD .skip
noncomputable def packPutTextDat.con : Con := { ps := [(.slice (.int .u8)), .str], rs := [(.slice (.int .u8))], f := fun n x => packPutTextDat n x.1 x.2.1 }
noncomputable def packPutTextDat.env : Env := { tys := [(22, ⟨(.slice (.int .u8)), 24⟩), (9, ⟨.str, 16⟩), (23, ⟨(.int .u64), 8⟩), (3, ⟨(.int .i64), 8⟩), (5, ⟨(.int .u8), 1⟩)], elems := [(22, 5)], ptrs := [], cons := [], objs := [(9, [packPut.con])], loops := [], cuts := [], globs := globs, base := 0 }
noncomputable def packPutTextDat.lp (n : Nat) : LP (Kd.struct packPutTextDat.con.rs).T := fun lo κ body nm K s =>
  loops n (Kd.struct packPutTextDat.con.rs).T lo κ body nm K s
theorem packPutTextDat.eq (n : Nat) (x : (Kd.struct packPutTextDat.con.ps).T) : evFunc packPutTextDat.env Try.f11 packPutTextDat.body packPutTextDat.con.ps packPutTextDat.con.rs (packPutTextDat.lp n) n x = packPutTextDat.con.f n x := by kernel_rfl
theorem packPutTextDat.sound : Sound Try.prog globs 11 packPutTextDat.con :=
  sound_by (E := packPutTextDat.env) (c := packPutTextDat.body) (envOk (G := globs) (lc := []) (lo := [(9, [packPut.con])]) (envB_spec (by kernel_rfl)) rfl rfl trivial rfl ⟨⟨⟨packPut.sound, trivial⟩, by kernel_rfl⟩, trivial⟩ (by kernel_rfl) (by kernel_rfl)) Try.func11 (by kernel_rfl) packPutTextDat.lp (l := []) (by kernel_rfl) (fun n => trivial) packPutTextDat.eq
noncomputable def realBits (fu : Nat) (xv : Nat) : Option (Int × Unit) :=
  cond (fNeq xv xv) (
    some ((9221120237041090560 : Int), ())) (
    (extBits.f fu (xv, ())).bind fun r1 =>
    some (r1.1, ()))

noncomputable def realBits.body : Code := Try.f30.body.getD .skip
noncomputable def realBits.con : Con := { ps := [.flt], rs := [(.int .u64)], f := fun n x => realBits n x.1 }
noncomputable def realBits.env : Env := { tys := [(23, ⟨(.int .u64), 8⟩)], elems := [], ptrs := [], cons := [(26, extBits)], objs := [], loops := [], cuts := [], globs := globs, base := 0 }
noncomputable def realBits.lp (n : Nat) : LP (Kd.struct realBits.con.rs).T := fun lo κ body nm K s =>
  loops n (Kd.struct realBits.con.rs).T lo κ body nm K s
theorem realBits.eq (n : Nat) (x : (Kd.struct realBits.con.ps).T) : evFunc realBits.env Try.f30 realBits.body realBits.con.ps realBits.con.rs (realBits.lp n) n x = realBits.con.f n x := by kernel_rfl
theorem realBits.sound : Sound Try.prog globs 30 realBits.con :=
  sound_by (E := realBits.env) (c := realBits.body) (envOk (G := globs) (lc := [(26, extBits)]) (lo := []) (envB_spec (by kernel_rfl)) rfl rfl ⟨.inr (extBits_ok Try.func26 (by kernel_rfl) (by kernel_rfl) (by kernel_rfl) (by kernel_rfl)), trivial⟩ rfl trivial (by kernel_rfl) (by kernel_rfl)) Try.func30 (by kernel_rfl) realBits.lp (l := []) (by kernel_rfl) (fun n => trivial) realBits.eq
noncomputable def packPutRealDat.b4 (fu : Nat) (next : (List Int) → Int → Int → Option ((List Int) × Unit)) (k2 : (List Int) → Option ((List Int) × Unit)) (out : List Int) (n : Int) (i : Int) : Option ((List Int) × Unit) :=
  cond (decide (i ≥ (0 : Int))) (
    chk (!decide (i < 0)) <|
    let t1 := IntKind.u8.wrap (sShr .u64 n i)
    chk (apOk out ([t1]) 1) <|
    let t2 := IntKind.i64.wrap (i - (8 : Int))
    next (out ++ ([t1])) n t2) (
    k2 out)
noncomputable def packPutRealDat.l4 (fu : Nat) (k2 : (List Int) → Option ((List Int) × Unit)) : Nat → (List Int) → Int → Int → Option ((List Int) × Unit)
  | 0, _, _, _ => none
  | m + 1, out, n, i => packPutRealDat.b4 fu (packPutRealDat.l4 fu k2 m) k2 out n i
noncomputable def packPutRealDat (fu : Nat) (b : List Int) (xv : Nat) : Option ((List Int) × Unit) :=
  (packOwn fu b (8 : Int)).bind fun r1 =>
  (realBits fu xv).bind fun r2 =>
  packPutRealDat.l4 fu (fun outq2 => 
      some (outq2, ())) fu r1.1.1 r2.1 (56 : Int)

noncomputable def packPutRealDat.body : Code := Try.f12.body.getD .skip
abbrev packPutRealDat.shl4 : Shp := ⟨[.u, .u, .u, .u, .u, .o 5 (.int .u8), .d (.int .u64), .d (.int .i64), .u, .u, .u, .u, .u, .u, .u, .u, .u, .u, .u, .u, .u, .u, .u, .u], []⟩
abbrev packPutRealDat.outl4e2 : Shp := ⟨[.u, .u, .u, .u, .u, .o 5 (.int .u8), .u, .u, .u, .u, .u, .u, .u, .u, .u, .u, .u, .u, .u, .u, .u, .u, .u, .u], []⟩
noncomputable def packPutRealDat.nml4 : Norm := ⟨{ keep := [5, 6, 7], shut := [(6, (.int .u64)), (7, (.int .i64))], retag := [(5, 5, (.int .u8))], heap := 0, dead := [], cshut := [], cretag := [] }, [(2, { keep := [5], shut := [], retag := [(5, 5, (.int .u8))], heap := 0, dead := [], cshut := [], cretag := [] })]⟩
noncomputable def packPutRealDat.con : Con := { ps := [(.slice (.int .u8)), .flt], rs := [(.slice (.int .u8))], f := fun n x => packPutRealDat n x.1 x.2.1 }
noncomputable def packPutRealDat.env : Env := { tys := [(22, ⟨(.slice (.int .u8)), 24⟩), (3, ⟨(.int .i64), 8⟩), (5, ⟨(.int .u8), 1⟩), (23, ⟨(.int .u64), 8⟩)], elems := [(22, 5)], ptrs := [], cons := [(30, realBits.con)], objs := [(29, [packOwn.con])], loops := [(4, packPutRealDat.nml4)], cuts := [], globs := globs, base := 0 }
noncomputable def packPutRealDat.lp (n : Nat) : LP (Kd.struct packPutRealDat.con.rs).T := fun lo κ body nm K s =>
  cond (lo && Nat.beq κ 4)
    (match packPutRealDat.shl4.dec s with
    | some v => packPutRealDat.l4 n (fun w0 => K (.exit 0) (packPutRealDat.outl4e2.enc (w0, ()))) n v.1 v.2.1 v.2.2.1
    | none => loops n (Kd.struct packPutRealDat.con.rs).T lo κ body nm K s)
    (loops n (Kd.struct packPutRealDat.con.rs).T lo κ body nm K s)
theorem packPutRealDat.atl4 (n : Nat) (s : St) (K : Ex → St → Option (Kd.struct packPutRealDat.con.rs).T) : (packPutRealDat.lp n) true 4 (evK packPutRealDat.env (packPutRealDat.lp n) n (sub [1, 1, 1, 0, 1, 0, 0] packPutRealDat.body)) packPutRealDat.nml4 K s = loops n (Kd.struct packPutRealDat.con.rs).T true 4 (evK packPutRealDat.env (packPutRealDat.lp n) n (sub [1, 1, 1, 0, 1, 0, 0] packPutRealDat.body)) packPutRealDat.nml4 K s := by
  show (match packPutRealDat.shl4.dec s with | some v => packPutRealDat.l4 n (fun w0 => K (.exit 0) (packPutRealDat.outl4e2.enc (w0, ()))) n v.1 v.2.1 v.2.2.1 | none => loops n (Kd.struct packPutRealDat.con.rs).T true 4 (evK packPutRealDat.env (packPutRealDat.lp n) n (sub [1, 1, 1, 0, 1, 0, 0] packPutRealDat.body)) packPutRealDat.nml4 K s) = _
  cases h : packPutRealDat.shl4.dec s with
  | none => rfl
  | some v =>
    rw [Shp.dec_enc h]
    exact (evLoop_eq (sh := packPutRealDat.shl4) (body := evK packPutRealDat.env (packPutRealDat.lp n) n (sub [1, 1, 1, 0, 1, 0, 0] packPutRealDat.body)) (nm := packPutRealDat.nml4) (K := K) (b := fun nx v => packPutRealDat.b4 n (fun x0 x1 x2 => nx (x0, x1, x2, ())) (fun w0 => K (.exit 0) (packPutRealDat.outl4e2.enc (w0, ()))) v.1 v.2.1 v.2.2.1) (l := fun m v => packPutRealDat.l4 n (fun w0 => K (.exit 0) (packPutRealDat.outl4e2.enc (w0, ()))) m v.1 v.2.1 v.2.2.1) (fun _ => rfl) (fun _ _ => rfl) (fun m v => by kernel_rfl) n v).symm
theorem packPutRealDat.eq (n : Nat) (x : (Kd.struct packPutRealDat.con.ps).T) : evFunc packPutRealDat.env Try.f12 packPutRealDat.body packPutRealDat.con.ps packPutRealDat.con.rs (packPutRealDat.lp n) n x = packPutRealDat.con.f n x := by kernel_rfl
theorem packPutRealDat.sound : Sound Try.prog globs 12 packPutRealDat.con :=
  sound_by (E := packPutRealDat.env) (c := packPutRealDat.body) (envOk (G := globs) (lc := [(30, realBits.con)]) (lo := [(29, [packOwn.con])]) (envB_spec (by kernel_rfl)) rfl rfl ⟨.inl ⟨realBits.sound, by kernel_rfl⟩, trivial⟩ rfl ⟨⟨⟨packOwn.sound, trivial⟩, by kernel_rfl⟩, trivial⟩ (by kernel_rfl) (by kernel_rfl)) Try.func12 (by kernel_rfl) packPutRealDat.lp (l := [(true, sub [1, 1, 1, 0, 1, 0, 0] packPutRealDat.body, packPutRealDat.nml4)]) (by kernel_rfl) (fun n => ⟨packPutRealDat.atl4 n, trivial⟩) packPutRealDat.eq
noncomputable def ref03PutDat.b3 (fu : Nat) (next : Int → (List Int) → Option ((List Int) × Unit)) (k2 : Int → (List Int) → Option ((List Int) × Unit)) (n : Int) (out : List Int) : Option ((List Int) × Unit) :=
  cond (decide (n ≥ (128 : Int))) (
    let t1 := IntKind.u64.wrap (Int.tmod n (128 : Int) + (128 : Int))
    chk (apOk out ([IntKind.u8.wrap t1]) 1) <|
    let t2 := out ++ ([IntKind.u8.wrap t1])
    let t3 := IntKind.u64.wrap (Int.tdiv n (128 : Int))
    next t3 t2) (
    k2 n out)
noncomputable def ref03PutDat.l3 (fu : Nat) (k2 : Int → (List Int) → Option ((List Int) × Unit)) : Nat → Int → (List Int) → Option ((List Int) × Unit)
  | 0, _, _ => none
  | m + 1, n, out => ref03PutDat.b3 fu (ref03PutDat.l3 fu k2 m) k2 n out
noncomputable def ref03PutDat (fu : Nat) (b : List Int) (n : Int) : Option ((List Int) × Unit) :=
  chk (apOk [] b 1) <|
  ref03PutDat.l3 fu (fun nq2 outq2 => 
      chk (apOk outq2 ([IntKind.u8.wrap nq2]) 1) <|
      let t1 := outq2 ++ ([IntKind.u8.wrap nq2])
      some (t1, ())) fu n ([] ++ b)

noncomputable def ref03PutDat.body : Code := Try.f13.body.getD .skip
abbrev ref03PutDat.shl3 : Shp := ⟨[.u, .d (.int .u64), .u, .u, .u, .o 5 (.int .u8), .u, .u, .u, .u, .u, .u, .u, .u, .u, .u, .u, .u, .u, .u, .u, .u, .u, .u, .u, .u], []⟩
abbrev ref03PutDat.outl3e2 : Shp := ⟨[.u, .d (.int .u64), .u, .u, .u, .o 5 (.int .u8), .u, .u, .u, .u, .u, .u, .u, .u, .u, .u, .u, .u, .u, .u, .u, .u, .u, .u, .u, .u], []⟩
noncomputable def ref03PutDat.nml3 : Norm := ⟨{ keep := [1, 5], shut := [(1, (.int .u64))], retag := [(5, 5, (.int .u8))], heap := 0, dead := [], cshut := [], cretag := [] }, [(2, { keep := [1, 5], shut := [(1, (.int .u64))], retag := [(5, 5, (.int .u8))], heap := 0, dead := [], cshut := [], cretag := [] })]⟩
noncomputable def ref03PutDat.con : Con := { ps := [(.slice (.int .u8)), (.int .u64)], rs := [(.slice (.int .u8))], f := fun n x => ref03PutDat n x.1 x.2.1 }
noncomputable def ref03PutDat.env : Env := { tys := [(22, ⟨(.slice (.int .u8)), 24⟩), (5, ⟨(.int .u8), 1⟩), (23, ⟨(.int .u64), 8⟩)], elems := [(22, 5)], ptrs := [], cons := [], objs := [], loops := [(3, ref03PutDat.nml3)], cuts := [], globs := globs, base := 0 }
noncomputable def ref03PutDat.lp (n : Nat) : LP (Kd.struct ref03PutDat.con.rs).T := fun lo κ body nm K s =>
  cond (lo && Nat.beq κ 3)
    (match ref03PutDat.shl3.dec s with
    | some v => ref03PutDat.l3 n (fun w0 w1 => K (.exit 0) (ref03PutDat.outl3e2.enc (w0, w1, ()))) n v.1 v.2.1
    | none => loops n (Kd.struct ref03PutDat.con.rs).T lo κ body nm K s)
    (loops n (Kd.struct ref03PutDat.con.rs).T lo κ body nm K s)
theorem ref03PutDat.atl3 (n : Nat) (s : St) (K : Ex → St → Option (Kd.struct ref03PutDat.con.rs).T) : (ref03PutDat.lp n) true 3 (evK ref03PutDat.env (ref03PutDat.lp n) n (sub [1, 1, 1, 0, 0, 0] ref03PutDat.body)) ref03PutDat.nml3 K s = loops n (Kd.struct ref03PutDat.con.rs).T true 3 (evK ref03PutDat.env (ref03PutDat.lp n) n (sub [1, 1, 1, 0, 0, 0] ref03PutDat.body)) ref03PutDat.nml3 K s := by
  show (match ref03PutDat.shl3.dec s with | some v => ref03PutDat.l3 n (fun w0 w1 => K (.exit 0) (ref03PutDat.outl3e2.enc (w0, w1, ()))) n v.1 v.2.1 | none => loops n (Kd.struct ref03PutDat.con.rs).T true 3 (evK ref03PutDat.env (ref03PutDat.lp n) n (sub [1, 1, 1, 0, 0, 0] ref03PutDat.body)) ref03PutDat.nml3 K s) = _
  cases h : ref03PutDat.shl3.dec s with
  | none => rfl
  | some v =>
    rw [Shp.dec_enc h]
    exact (evLoop_eq (sh := ref03PutDat.shl3) (body := evK ref03PutDat.env (ref03PutDat.lp n) n (sub [1, 1, 1, 0, 0, 0] ref03PutDat.body)) (nm := ref03PutDat.nml3) (K := K) (b := fun nx v => ref03PutDat.b3 n (fun x0 x1 => nx (x0, x1, ())) (fun w0 w1 => K (.exit 0) (ref03PutDat.outl3e2.enc (w0, w1, ()))) v.1 v.2.1) (l := fun m v => ref03PutDat.l3 n (fun w0 w1 => K (.exit 0) (ref03PutDat.outl3e2.enc (w0, w1, ()))) m v.1 v.2.1) (fun _ => rfl) (fun _ _ => rfl) (fun m v => by kernel_rfl) n v).symm
theorem ref03PutDat.eq (n : Nat) (x : (Kd.struct ref03PutDat.con.ps).T) : evFunc ref03PutDat.env Try.f13 ref03PutDat.body ref03PutDat.con.ps ref03PutDat.con.rs (ref03PutDat.lp n) n x = ref03PutDat.con.f n x := by kernel_rfl
theorem ref03PutDat.sound : Sound Try.prog globs 13 ref03PutDat.con :=
  sound_by (E := ref03PutDat.env) (c := ref03PutDat.body) (envOk (G := globs) (lc := []) (lo := []) (envB_spec (by kernel_rfl)) rfl rfl trivial rfl trivial (by kernel_rfl) (by kernel_rfl)) Try.func13 (by kernel_rfl) ref03PutDat.lp (l := [(true, sub [1, 1, 1, 0, 0, 0] ref03PutDat.body, ref03PutDat.nml3)]) (by kernel_rfl) (fun n => ⟨ref03PutDat.atl3 n, trivial⟩) ref03PutDat.eq
noncomputable def ref03PutIntDat (fu : Nat) (b : List Int) (n : Int) : Option ((List Int) × Unit) :=
  cond (decide (n ≥ (0 : Int))) (
    let t1 := IntKind.u64.wrap ((2 : Int) * IntKind.u64.wrap n)
    (ref03PutDat fu b t1).bind fun r2 =>
    some (r2.1, ())) (
    let t3 := IntKind.i64.wrap (n + (1 : Int))
    let t4 := IntKind.i64.wrap (0 - t3)
    let t5 := IntKind.u64.wrap ((2 : Int) * IntKind.u64.wrap t4)
    let t6 := IntKind.u64.wrap (t5 + (1 : Int))
    (ref03PutDat fu b t6).bind fun r7 =>
    some (r7.1, ()))

noncomputable def ref03PutIntDat.body : Code := Try.f14.body.getD .skip
noncomputable def ref03PutIntDat.con : Con := { ps := [(.slice (.int .u8)), (.int .i64)], rs := [(.slice (.int .u8))], f := fun n x => ref03PutIntDat n x.1 x.2.1 }
noncomputable def ref03PutIntDat.env : Env := { tys := [(22, ⟨(.slice (.int .u8)), 24⟩), (23, ⟨(.int .u64), 8⟩), (2, ⟨(.int .i64), 8⟩)], elems := [], ptrs := [], cons := [(13, ref03PutDat.con)], objs := [], loops := [], cuts := [], globs := globs, base := 0 }
noncomputable def ref03PutIntDat.lp (n : Nat) : LP (Kd.struct ref03PutIntDat.con.rs).T := fun lo κ body nm K s =>
  loops n (Kd.struct ref03PutIntDat.con.rs).T lo κ body nm K s
theorem ref03PutIntDat.eq (n : Nat) (x : (Kd.struct ref03PutIntDat.con.ps).T) : evFunc ref03PutIntDat.env Try.f14 ref03PutIntDat.body ref03PutIntDat.con.ps ref03PutIntDat.con.rs (ref03PutIntDat.lp n) n x = ref03PutIntDat.con.f n x := by kernel_rfl
theorem ref03PutIntDat.sound : Sound Try.prog globs 14 ref03PutIntDat.con :=
  sound_by (E := ref03PutIntDat.env) (c := ref03PutIntDat.body) (envOk (G := globs) (lc := [(13, ref03PutDat.con)]) (lo := []) (envB_spec (by kernel_rfl)) rfl rfl ⟨.inl ⟨ref03PutDat.sound, by kernel_rfl⟩, trivial⟩ rfl trivial (by kernel_rfl) (by kernel_rfl)) Try.func14 (by kernel_rfl) ref03PutIntDat.lp (l := []) (by kernel_rfl) (fun n => trivial) ref03PutIntDat.eq
noncomputable def ref03Put.b3 (fu : Nat) (next : Int → (List Int) → Option (((List Int) × Unit) × (Unit))) (k2 : Int → (List Int) → Option (((List Int) × Unit) × (Unit))) (n : Int) (out : List Int) : Option (((List Int) × Unit) × (Unit)) :=
  cond (decide (n ≥ (128 : Int))) (
    let t1 := IntKind.u64.wrap (Int.tmod n (128 : Int) + (128 : Int))
    chk (apOk out ([IntKind.u8.wrap t1]) 1) <|
    let t2 := out ++ ([IntKind.u8.wrap t1])
    let t3 := IntKind.u64.wrap (Int.tdiv n (128 : Int))
    next t3 t2) (
    k2 n out)
noncomputable def ref03Put.l3 (fu : Nat) (k2 : Int → (List Int) → Option (((List Int) × Unit) × (Unit))) : Nat → Int → (List Int) → Option (((List Int) × Unit) × (Unit))
  | 0, _, _ => none
  | m + 1, n, out => ref03Put.b3 fu (ref03Put.l3 fu k2 m) k2 n out
noncomputable def ref03Put (fu : Nat) (b : List Int) (n : Int) : Option (((List Int) × Unit) × (Unit)) :=
  chk (apOk [] b 1) <|
  ref03Put.l3 fu (fun nq2 outq2 => 
      chk (apOk outq2 ([IntKind.u8.wrap nq2]) 1) <|
      let t1 := outq2 ++ ([IntKind.u8.wrap nq2])
      some ((t1, ()), (()))) fu n ([] ++ b)

noncomputable def ref03Put.body : Code := Try.f13.body.getD .skip
abbrev ref03Put.shl3 : Shp := ⟨[.u, .d (.int .u64), .u, .u, .u, .o 5 (.int .u8), .u, .u, .u, .u, .u, .u, .u, .u, .u, .u, .u, .u, .u, .u, .u, .u, .u, .u, .u, .u], []⟩
abbrev ref03Put.outl3e2 : Shp := ⟨[.u, .d (.int .u64), .u, .u, .u, .o 5 (.int .u8), .u, .u, .u, .u, .u, .u, .u, .u, .u, .u, .u, .u, .u, .u, .u, .u, .u, .u, .u, .u], []⟩
noncomputable def ref03Put.nml3 : Norm := ⟨{ keep := [1, 5], shut := [(1, (.int .u64))], retag := [(5, 5, (.int .u8))], heap := 0, dead := [], cshut := [], cretag := [] }, [(2, { keep := [1, 5], shut := [(1, (.int .u64))], retag := [(5, 5, (.int .u8))], heap := 0, dead := [], cshut := [], cretag := [] })]⟩
noncomputable def ref03Put.con : OCon := { ps := [.dat (.slice (.int .u8)), .dat (.int .u64)], rs := [.own (.int .u8)], f := fun n x => ref03Put n x.1 x.2.1 }
noncomputable def ref03Put.env : Env := { tys := [(22, ⟨(.slice (.int .u8)), 24⟩), (5, ⟨(.int .u8), 1⟩), (23, ⟨(.int .u64), 8⟩)], elems := [(22, 5)], ptrs := [], cons := [], objs := [], loops := [(3, ref03Put.nml3)], cuts := [], globs := globs, base := 0 }
noncomputable def ref03Put.lp (n : Nat) : LP (RT ref03Put.con.rs × BT ref03Put.con.ps) := fun lo κ body nm K s =>
  cond (lo && Nat.beq κ 3)
    (match ref03Put.shl3.dec s with
    | some v => ref03Put.l3 n (fun w0 w1 => K (.exit 0) (ref03Put.outl3e2.enc (w0, w1, ()))) n v.1 v.2.1
    | none => loops n (RT ref03Put.con.rs × BT ref03Put.con.ps) lo κ body nm K s)
    (loops n (RT ref03Put.con.rs × BT ref03Put.con.ps) lo κ body nm K s)
theorem ref03Put.atl3 (n : Nat) (s : St) (K : Ex → St → Option (RT ref03Put.con.rs × BT ref03Put.con.ps)) : (ref03Put.lp n) true 3 (evK ref03Put.env (ref03Put.lp n) n (sub [1, 1, 1, 0, 0, 0] ref03Put.body)) ref03Put.nml3 K s = loops n (RT ref03Put.con.rs × BT ref03Put.con.ps) true 3 (evK ref03Put.env (ref03Put.lp n) n (sub [1, 1, 1, 0, 0, 0] ref03Put.body)) ref03Put.nml3 K s := by
  show (match ref03Put.shl3.dec s with | some v => ref03Put.l3 n (fun w0 w1 => K (.exit 0) (ref03Put.outl3e2.enc (w0, w1, ()))) n v.1 v.2.1 | none => loops n (RT ref03Put.con.rs × BT ref03Put.con.ps) true 3 (evK ref03Put.env (ref03Put.lp n) n (sub [1, 1, 1, 0, 0, 0] ref03Put.body)) ref03Put.nml3 K s) = _
  cases h : ref03Put.shl3.dec s with
  | none => rfl
  | some v =>
    rw [Shp.dec_enc h]
    exact (evLoop_eq (sh := ref03Put.shl3) (body := evK ref03Put.env (ref03Put.lp n) n (sub [1, 1, 1, 0, 0, 0] ref03Put.body)) (nm := ref03Put.nml3) (K := K) (b := fun nx v => ref03Put.b3 n (fun x0 x1 => nx (x0, x1, ())) (fun w0 w1 => K (.exit 0) (ref03Put.outl3e2.enc (w0, w1, ()))) v.1 v.2.1) (l := fun m v => ref03Put.l3 n (fun w0 w1 => K (.exit 0) (ref03Put.outl3e2.enc (w0, w1, ()))) m v.1 v.2.1) (fun _ => rfl) (fun _ _ => rfl) (fun m v => by kernel_rfl) n v).symm
theorem ref03Put.eq (n : Nat) (x : PT ref03Put.con.ps) : evFuncO ref03Put.env Try.f13 ref03Put.body ref03Put.con.ps ref03Put.con.rs (ref03Put.lp n) n x = ref03Put.con.f n x := by kernel_rfl
theorem ref03Put.sound : SoundO Try.prog globs 13 ref03Put.con :=
  sound_byO (E := ref03Put.env) (c := ref03Put.body) (envOk (G := globs) (lc := []) (lo := []) (envB_spec (by kernel_rfl)) rfl rfl trivial rfl trivial (by kernel_rfl) (by kernel_rfl)) Try.func13 (by kernel_rfl) (by kernel_rfl) (by kernel_rfl) ref03Put.lp (l := [(true, sub [1, 1, 1, 0, 0, 0] ref03Put.body, ref03Put.nml3)]) (by kernel_rfl) (fun n => ⟨ref03Put.atl3 n, trivial⟩) ref03Put.eq
noncomputable def ref03PutTextDat (fu : Nat) (b : List Int) (sv : List Int) : Option ((List Int) × Unit) :=
  let t1 := IntKind.u64.wrap (sv.length : Int)
  (ref03Put fu b t1).bind fun r2 =>
  chk (apOk r2.1.1 sv 1) <|
  some (r2.1.1 ++ sv, ())

noncomputable def ref03PutTextDat.body : Code := Try.f15.body.getD .skip
noncomputable def ref03PutTextDat.con : Con := { ps := [(.slice (.int .u8)), .str], rs := [(.slice (.int .u8))], f := fun n x => ref03PutTextDat n x.1 x.2.1 }
noncomputable def ref03PutTextDat.env : Env := { tys := [(22, ⟨(.slice (.int .u8)), 24⟩), (9, ⟨.str, 16⟩), (23, ⟨(.int .u64), 8⟩), (3, ⟨(.int .i64), 8⟩), (5, ⟨(.int .u8), 1⟩)], elems := [(22, 5)], ptrs := [], cons := [], objs := [(13, [ref03Put.con])], loops := [], cuts := [], globs := globs, base := 0 }
noncomputable def ref03PutTextDat.lp (n : Nat) : LP (Kd.struct ref03PutTextDat.con.rs).T := fun lo κ body nm K s =>
  loops n (Kd.struct ref03PutTextDat.con.rs).T lo κ body nm K s
theorem ref03PutTextDat.eq (n : Nat) (x : (Kd.struct ref03PutTextDat.con.ps).T) : evFunc ref03PutTextDat.env Try.f15 ref03PutTextDat.body ref03PutTextDat.con.ps ref03PutTextDat.con.rs (ref03PutTextDat.lp n) n x = ref03PutTextDat.con.f n x := by kernel_rfl
theorem ref03PutTextDat.sound : Sound Try.prog globs 15 ref03PutTextDat.con :=
  sound_by (E := ref03PutTextDat.env) (c := ref03PutTextDat.body) (envOk (G := globs) (lc := []) (lo := [(13, [ref03Put.con])]) (envB_spec (by kernel_rfl)) rfl rfl trivial rfl ⟨⟨⟨ref03Put.sound, trivial⟩, by kernel_rfl⟩, trivial⟩ (by kernel_rfl) (by kernel_rfl)) Try.func15 (by kernel_rfl) ref03PutTextDat.lp (l := []) (by kernel_rfl) (fun n => trivial) ref03PutTextDat.eq
noncomputable def ref02OfBits (fu : Nat) (b : Int) : Option (S0 × Unit) :=
  let t1 := decide (b ≥ (9223372036854775808 : Int))
  let t2 := IntKind.u64.wrap (Int.tdiv b (4503599627370496 : Int))
  let t3 := IntKind.i64.wrap (Int.tmod t2 (2048 : Int))
  let t4 := Int.tmod b (4503599627370496 : Int)
  some ((t1, t3, t4, ()), ())

noncomputable def ref02OfBits.body : Code := Try.f33.body.getD .skip
noncomputable def ref02OfBits.con : Con := { ps := [(.int .u64)], rs := [kS0], f := fun n x => ref02OfBits n x.1 }
noncomputable def ref02OfBits.env : Env := { tys := [(54, ⟨kS0, 24⟩), (3, ⟨(.int .i64), 8⟩), (23, ⟨(.int .u64), 8⟩)], elems := [], ptrs := [], cons := [], objs := [], loops := [], cuts := [], globs := globs, base := 0 }
noncomputable def ref02OfBits.lp (n : Nat) : LP (Kd.struct ref02OfBits.con.rs).T := fun lo κ body nm K s =>
  loops n (Kd.struct ref02OfBits.con.rs).T lo κ body nm K s
theorem ref02OfBits.eq (n : Nat) (x : (Kd.struct ref02OfBits.con.ps).T) : evFunc ref02OfBits.env Try.f33 ref02OfBits.body ref02OfBits.con.ps ref02OfBits.con.rs (ref02OfBits.lp n) n x = ref02OfBits.con.f n x := by kernel_rfl
theorem ref02OfBits.sound : Sound Try.prog globs 33 ref02OfBits.con :=
  sound_by (E := ref02OfBits.env) (c := ref02OfBits.body) (envOk (G := globs) (lc := []) (lo := []) (envB_spec (by kernel_rfl)) rfl rfl trivial rfl trivial (by kernel_rfl) (by kernel_rfl)) Try.func33 (by kernel_rfl) ref02OfBits.lp (l := []) (by kernel_rfl) (fun n => trivial) ref02OfBits.eq
noncomputable def ref02Of (fu : Nat) (xv : Nat) : Option (S0 × Unit) :=
  (extBits.f fu (xv, ())).bind fun r1 =>
  (ref02OfBits fu r1.1).bind fun r2 =>
  some (r2.1, ())

noncomputable def ref02Of.body : Code := Try.f27.body.getD .skip
noncomputable def ref02Of.con : Con := { ps := [.flt], rs := [kS0], f := fun n x => ref02Of n x.1 }
noncomputable def ref02Of.env : Env := { tys := [(54, ⟨kS0, 24⟩)], elems := [], ptrs := [], cons := [(26, extBits), (33, ref02OfBits.con)], objs := [], loops := [], cuts := [], globs := globs, base := 0 }
noncomputable def ref02Of.lp (n : Nat) : LP (Kd.struct ref02Of.con.rs).T := fun lo κ body nm K s =>
  loops n (Kd.struct ref02Of.con.rs).T lo κ body nm K s
theorem ref02Of.eq (n : Nat) (x : (Kd.struct ref02Of.con.ps).T) : evFunc ref02Of.env Try.f27 ref02Of.body ref02Of.con.ps ref02Of.con.rs (ref02Of.lp n) n x = ref02Of.con.f n x := by kernel_rfl
theorem ref02Of.sound : Sound Try.prog globs 27 ref02Of.con :=
  sound_by (E := ref02Of.env) (c := ref02Of.body) (envOk (G := globs) (lc := [(26, extBits), (33, ref02OfBits.con)]) (lo := []) (envB_spec (by kernel_rfl)) rfl rfl ⟨.inr (extBits_ok Try.func26 (by kernel_rfl) (by kernel_rfl) (by kernel_rfl) (by kernel_rfl)), ⟨.inl ⟨ref02OfBits.sound, by kernel_rfl⟩, trivial⟩⟩ rfl trivial (by kernel_rfl) (by kernel_rfl)) Try.func27 (by kernel_rfl) ref02Of.lp (l := []) (by kernel_rfl) (fun n => trivial) ref02Of.eq
noncomputable def ref02PartsNaN (fu : Nat) (p : S0) : Option (Bool × Unit) :=
  cond (p.2.1 == (2047 : Int)) (
    some (p.2.2.1 != (0 : Int), ())) (
    some (false, ()))

noncomputable def ref02PartsNaN.body : Code := Try.f34.body.getD .skip
noncomputable def ref02PartsNaN.con : Con := { ps := [kS0], rs := [.bool], f := fun n x => ref02PartsNaN n x.1 }
noncomputable def ref02PartsNaN.env : Env := { tys := [(54, ⟨kS0, 24⟩), (4, ⟨.bool, 1⟩), (3, ⟨(.int .i64), 8⟩), (23, ⟨(.int .u64), 8⟩)], elems := [], ptrs := [], cons := [], objs := [], loops := [], cuts := [], globs := globs, base := 0 }
noncomputable def ref02PartsNaN.lp (n : Nat) : LP (Kd.struct ref02PartsNaN.con.rs).T := fun lo κ body nm K s =>
  loops n (Kd.struct ref02PartsNaN.con.rs).T lo κ body nm K s
theorem ref02PartsNaN.eq (n : Nat) (x : (Kd.struct ref02PartsNaN.con.ps).T) : evFunc ref02PartsNaN.env Try.f34 ref02PartsNaN.body ref02PartsNaN.con.ps ref02PartsNaN.con.rs (ref02PartsNaN.lp n) n x = ref02PartsNaN.con.f n x := by kernel_rfl
theorem ref02PartsNaN.sound : Sound Try.prog globs 34 ref02PartsNaN.con :=
  sound_by (E := ref02PartsNaN.env) (c := ref02PartsNaN.body) (envOk (G := globs) (lc := []) (lo := []) (envB_spec (by kernel_rfl)) rfl rfl trivial rfl trivial (by kernel_rfl) (by kernel_rfl)) Try.func34 (by kernel_rfl) ref02PartsNaN.lp (l := []) (by kernel_rfl) (fun n => trivial) ref02PartsNaN.eq
noncomputable def ref02PartsBits (fu : Nat) (p : S0) : Option (Int × Unit) :=
  (ref02PartsNaN fu p).bind fun r1 =>
  cond r1.1 (
    some ((9221120237041090560 : Int), ())) (
    let t2 := IntKind.u64.wrap (IntKind.u64.wrap p.2.1 * (4503599627370496 : Int))
    let t3 := IntKind.u64.wrap (t2 + p.2.2.1)
    cond p.1 (
      let t4 := IntKind.u64.wrap (t3 + (9223372036854775808 : Int))
      some (t4, ())) (
      some (t3, ())))

noncomputable def ref02PartsBits.body : Code := Try.f28.body.getD .skip
noncomputable def ref02PartsBits.con : Con := { ps := [kS0], rs := [(.int .u64)], f := fun n x => ref02PartsBits n x.1 }
noncomputable def ref02PartsBits.env : Env := { tys := [(54, ⟨kS0, 24⟩), (23, ⟨(.int .u64), 8⟩), (3, ⟨(.int .i64), 8⟩), (4, ⟨.bool, 1⟩)], elems := [], ptrs := [], cons := [(34, ref02PartsNaN.con)], objs := [], loops := [], cuts := [], globs := globs, base := 0 }
noncomputable def ref02PartsBits.lp (n : Nat) : LP (Kd.struct ref02PartsBits.con.rs).T := fun lo κ body nm K s =>
  loops n (Kd.struct ref02PartsBits.con.rs).T lo κ body nm K s
theorem ref02PartsBits.eq (n : Nat) (x : (Kd.struct ref02PartsBits.con.ps).T) : evFunc ref02PartsBits.env Try.f28 ref02PartsBits.body ref02PartsBits.con.ps ref02PartsBits.con.rs (ref02PartsBits.lp n) n x = ref02PartsBits.con.f n x := by kernel_rfl
theorem ref02PartsBits.sound : Sound Try.prog globs 28 ref02PartsBits.con :=
  sound_by (E := ref02PartsBits.env) (c := ref02PartsBits.body) (envOk (G := globs) (lc := [(34, ref02PartsNaN.con)]) (lo := []) (envB_spec (by kernel_rfl)) rfl rfl ⟨.inl ⟨ref02PartsNaN.sound, by kernel_rfl⟩, trivial⟩ rfl trivial (by kernel_rfl) (by kernel_rfl)) Try.func28 (by kernel_rfl) ref02PartsBits.lp (l := []) (by kernel_rfl) (fun n => trivial) ref02PartsBits.eq
noncomputable def ref03PutRealDat.b6 (fu : Nat) (next : (List Int) → Int → Int → (List Int) → Option ((List Int) × Unit)) (k2 : (List Int) → (List Int) → Option ((List Int) × Unit)) (out : List Int) (n : Int) (i : Int) (c0 : List Int) : Option ((List Int) × Unit) :=
  cond (decide (i ≥ (0 : Int))) (
    let t1 := IntKind.u8.wrap (Int.tmod n (256 : Int))
    chk (ixArr 8 i) <|
    chk (nOk c0 8) <|
    let w2 := stL c0 i t1
    let t3 := IntKind.u64.wrap (Int.tdiv n (256 : Int))
    let t4 := IntKind.i64.wrap (i - (1 : Int))
    next out t3 t4 w2) (
    k2 out c0)
noncomputable def ref03PutRealDat.l6 (fu : Nat) (k2 : (List Int) → (List Int) → Option ((List Int) × Unit)) : Nat → (List Int) → Int → Int → (List Int) → Option ((List Int) × Unit)
  | 0, _, _, _, _ => none
  | m + 1, out, n, i, c0 => ref03PutRealDat.b6 fu (ref03PutRealDat.l6 fu k2 m) k2 out n i c0
noncomputable def ref03PutRealDat (fu : Nat) (b : List Int) (xv : Nat) : Option ((List Int) × Unit) :=
  chk (apOk [] b 1) <|
  (ref02Of fu xv).bind fun r1 =>
  (ref02PartsBits fu r1.1).bind fun r2 =>
  chk (mkMut (8 : Int) (8 : Int) 1) <|
  ref03PutRealDat.l6 fu (fun outq2 c0q2 => 
      chk (nOk c0q2 8 && apOk outq2 c0q2 1) <|
      some (outq2 ++ c0q2, ())) fu ([] ++ b) r2.1 (7 : Int) (List.replicate (8 : Int).toNat (0 : Int))

noncomputable def ref03PutRealDat.body : Code := Try.f16.body.getD .skip
abbrev ref03PutRealDat.shl6 : Shp := ⟨[.u, .u, .u, .u, .u, .o 5 (.int .u8), .d (.int .u64), .s 0 (.int .u8) 8, .d (.int .i64), .u, .u, .u, .u, .u, .u, .u, .u, .u, .u, .u, .u, .u, .u, .u, .u, .u, .u, .u, .u, .u, .u, .u], [.a (.int .u8)]⟩
abbrev ref03PutRealDat.outl6e2 : Shp := ⟨[.u, .u, .u, .u, .u, .o 5 (.int .u8), .u, .s 0 (.int .u8) 8, .u, .u, .u, .u, .u, .u, .u, .u, .u, .u, .u, .u, .u, .u, .u, .u, .u, .u, .u, .u, .u, .u, .u, .u], [.a (.int .u8)]⟩
noncomputable def ref03PutRealDat.nml6 : Norm := ⟨{ keep := [5, 6, 7, 8], shut := [(6, (.int .u64)), (8, (.int .i64))], retag := [(5, 5, (.int .u8))], heap := 1, dead := [], cshut := [], cretag := [] }, [(2, { keep := [5, 7], shut := [], retag := [(5, 5, (.int .u8))], heap := 1, dead := [], cshut := [], cretag := [] })]⟩
noncomputable def ref03PutRealDat.con : Con := { ps := [(.slice (.int .u8)), .flt], rs := [(.slice (.int .u8))], f := fun n x => ref03PutRealDat n x.1 x.2.1 }
noncomputable def ref03PutRealDat.env : Env := { tys := [(22, ⟨(.slice (.int .u8)), 24⟩), (5, ⟨(.int .u8), 1⟩), (3, ⟨(.int .i64), 8⟩), (23, ⟨(.int .u64), 8⟩)], elems := [(22, 5)], ptrs := [], cons := [(27, ref02Of.con), (28, ref02PartsBits.con)], objs := [], loops := [(6, ref03PutRealDat.nml6)], cuts := [], globs := globs, base := 0, muts := [16] }
noncomputable def ref03PutRealDat.lp (n : Nat) : LP (Kd.struct ref03PutRealDat.con.rs).T := fun lo κ body nm K s =>
  cond (lo && Nat.beq κ 6)
    (match ref03PutRealDat.shl6.dec s with
    | some v => ref03PutRealDat.l6 n (fun w0 w1 => K (.exit 0) (ref03PutRealDat.outl6e2.enc (w0, w1, ()))) n v.1 v.2.1 v.2.2.1 v.2.2.2.1
    | none => loops n (Kd.struct ref03PutRealDat.con.rs).T lo κ body nm K s)
    (loops n (Kd.struct ref03PutRealDat.con.rs).T lo κ body nm K s)
theorem ref03PutRealDat.atl6 (n : Nat) (s : St) (K : Ex → St → Option (Kd.struct ref03PutRealDat.con.rs).T) : (ref03PutRealDat.lp n) true 6 (evK ref03PutRealDat.env (ref03PutRealDat.lp n) n (sub [1, 1, 1, 1, 1, 0, 1, 0, 0] ref03PutRealDat.body)) ref03PutRealDat.nml6 K s = loops n (Kd.struct ref03PutRealDat.con.rs).T true 6 (evK ref03PutRealDat.env (ref03PutRealDat.lp n) n (sub [1, 1, 1, 1, 1, 0, 1, 0, 0] ref03PutRealDat.body)) ref03PutRealDat.nml6 K s := by
  show (match ref03PutRealDat.shl6.dec s with | some v => ref03PutRealDat.l6 n (fun w0 w1 => K (.exit 0) (ref03PutRealDat.outl6e2.enc (w0, w1, ()))) n v.1 v.2.1 v.2.2.1 v.2.2.2.1 | none => loops n (Kd.struct ref03PutRealDat.con.rs).T true 6 (evK ref03PutRealDat.env (ref03PutRealDat.lp n) n (sub [1, 1, 1, 1, 1, 0, 1, 0, 0] ref03PutRealDat.body)) ref03PutRealDat.nml6 K s) = _
  cases h : ref03PutRealDat.shl6.dec s with
  | none => rfl
  | some v =>
    rw [Shp.dec_enc h]
    exact (evLoop_eq (sh := ref03PutRealDat.shl6) (body := evK ref03PutRealDat.env (ref03PutRealDat.lp n) n (sub [1, 1, 1, 1, 1, 0, 1, 0, 0] ref03PutRealDat.body)) (nm := ref03PutRealDat.nml6) (K := K) (b := fun nx v => ref03PutRealDat.b6 n (fun x0 x1 x2 x3 => nx (x0, x1, x2, x3, ())) (fun w0 w1 => K (.exit 0) (ref03PutRealDat.outl6e2.enc (w0, w1, ()))) v.1 v.2.1 v.2.2.1 v.2.2.2.1) (l := fun m v => ref03PutRealDat.l6 n (fun w0 w1 => K (.exit 0) (ref03PutRealDat.outl6e2.enc (w0, w1, ()))) m v.1 v.2.1 v.2.2.1 v.2.2.2.1) (fun _ => rfl) (fun _ _ => rfl) (fun m v => by kernel_rfl) n v).symm
theorem ref03PutRealDat.eq (n : Nat) (x : (Kd.struct ref03PutRealDat.con.ps).T) : evFunc ref03PutRealDat.env Try.f16 ref03PutRealDat.body ref03PutRealDat.con.ps ref03PutRealDat.con.rs (ref03PutRealDat.lp n) n x = ref03PutRealDat.con.f n x := by kernel_rfl
theorem ref03PutRealDat.sound : Sound Try.prog globs 16 ref03PutRealDat.con :=
  sound_by (E := ref03PutRealDat.env) (c := ref03PutRealDat.body) (envOk (G := globs) (lc := [(27, ref02Of.con), (28, ref02PartsBits.con)]) (lo := []) (envB_spec (by kernel_rfl)) rfl rfl ⟨.inl ⟨ref02Of.sound, by kernel_rfl⟩, ⟨.inl ⟨ref02PartsBits.sound, by kernel_rfl⟩, trivial⟩⟩ rfl trivial (by kernel_rfl) (by kernel_rfl)) Try.func16 (by kernel_rfl) ref03PutRealDat.lp (l := [(true, sub [1, 1, 1, 1, 1, 0, 1, 0, 0] ref03PutRealDat.body, ref03PutRealDat.nml6)]) (by kernel_rfl) (fun n => ⟨ref03PutRealDat.atl6 n, trivial⟩) ref03PutRealDat.eq
noncomputable def law03PackPuts.b8 (fu : Nat) (next : (List Int) → Int → Int → (List Int) → Nat → (List Int) → (List Int) → (List Int) → (List Int) → (List Int) → Int → Int → Option (Bool × Unit)) (k1 : Bool → Option (Bool × Unit)) (k2 : (List Int) → Int → Int → (List Int) → Nat → (List Int) → (List Int) → (List Int) → (List Int) → Option (Bool × Unit)) (b : List Int) (n : Int) (i : Int) (sv : List Int) (xv : Nat) (one : List Int) (two : List Int) (three : List Int) (four : List Int) (v : List Int) (vx2 : Int) (vx3 : Int) : Option (Bool × Unit) :=
  cond (decide (vx3 < vx2)) (
    chk (ixOk v vx3) <|
    let e1 := ixL (0 : Int) v vx3
    cond (e1 != (0 : Int)) (
      k1 false) (
      let t2 := IntKind.i64.wrap (vx3 + (1 : Int))
      next b n i sv xv one two three four v vx2 t2)) (
    k2 b n i sv xv one two three four)
noncomputable def law03PackPuts.l8 (fu : Nat) (k1 : Bool → Option (Bool × Unit)) (k2 : (List Int) → Int → Int → (List Int) → Nat → (List Int) → (List Int) → (List Int) → (List Int) → Option (Bool × Unit)) : Nat → (List Int) → Int → Int → (List Int) → Nat → (List Int) → (List Int) → (List Int) → (List Int) → (List Int) → Int → Int → Option (Bool × Unit)
  | 0, _, _, _, _, _, _, _, _, _, _, _, _ => none
  | m + 1, b, n, i, sv, xv, one, two, three, four, v, vx2, vx3 => law03PackPuts.b8 fu (law03PackPuts.l8 fu k1 k2 m) k1 k2 b n i sv xv one two three four v vx2 vx3
noncomputable def law03PackPuts (fu : Nat) (b : List Int) (n : Int) (i : Int) (sv : List Int) (bits : Int) : Option (Bool × Unit) :=
  let t1 := decide ((b.length : Int) > (2000 : Int))
  cond t1 (
    (law03Fixed fu).bind fun r2 =>
    some (r2.1, ())) (
    let t3 := decide ((sv.length : Int) > (2000 : Int))
    cond t3 (
      (law03Fixed fu).bind fun r4 =>
      some (r4.1, ())) (
      (extFrom.f fu (bits, ())).bind fun r5 =>
      let t6 := IntKind.i64.wrap ((b.length : Int) + (64 : Int))
      chk (mkOk (0 : Int) t6 1) <|
      chk (nOk (List.replicate t6.toNat (0 : Int)) t6.toNat && Nat.ble ((0 : Int).toNat + b.length) t6.toNat) <|
      let w7 := List.take ((0 : Int).toNat) (List.replicate t6.toNat (0 : Int)) ++ b ++ List.drop ((0 : Int).toNat + b.length) (List.replicate t6.toNat (0 : Int))
      chk (nOk w7 t6.toNat && (decide ((t6.toNat : Int) = (t6.toNat : Int)) && (Nat.ble ((0 : Int).toNat + b.length) w7.length && (Nat.ble ((0 : Int).toNat) w7.length && (Nat.ble ((0 : Int).toNat + b.length) w7.length && (Nat.ble ((0 : Int).toNat + b.length) w7.length && (Nat.ble ((0 : Int).toNat + b.length) w7.length && true))))))) <|
      let t8 := List.take ((0 : Int).toNat + b.length) w7
      (packPutDat fu t8 n).bind fun r9 =>
      let t10 := List.take ((0 : Int).toNat + b.length) w7
      (packPutIntDat fu t10 i).bind fun r11 =>
      let t12 := List.take ((0 : Int).toNat + b.length) w7
      (packPutTextDat fu t12 sv).bind fun r13 =>
      let t14 := List.take ((0 : Int).toNat + b.length) w7
      (packPutRealDat fu t14 r5.1).bind fun r15 =>
      chk (cutOk w7 (b.length : Int) (w7.length : Int)) <|
      let t16 := cutL w7 (b.length : Int) (w7.length : Int)
      law03PackPuts.l8 fu (fun vq3 => 
          some (vq3, ())) (fun bq4 nq4 iq4 svq4 xvq4 oneq4 twoq4 threeq4 fourq4 => 
          (law03Fixed fu).bind fun r17 =>
          cond r17.1 (
            (ref03PutDat fu bq4 nq4).bind fun r18 =>
            cond (oneq4 == r18.1) (
              (ref03PutIntDat fu bq4 iq4).bind fun r19 =>
              cond (twoq4 == r19.1) (
                (ref03PutTextDat fu bq4 svq4).bind fun r20 =>
                cond (threeq4 == r20.1) (
                  (ref03PutRealDat fu bq4 xvq4).bind fun r21 =>
                  cond (fourq4 == r21.1) (
                    (packSize fu nq4).bind fun r22 =>
                    let t23 := IntKind.i64.wrap ((bq4.length : Int) + r22.1)
                    let t24 := (oneq4.length : Int) == t23
                    some (t24, ())) (
                    some (false, ()))) (
                  some (false, ()))) (
                some (false, ()))) (
              some (false, ()))) (
            some (false, ()))) fu b n i sv r5.1 r9.1 r11.1 r13.1 r15.1 t16 (t16.length : Int) (0 : Int)))

noncomputable def law03PackPuts.body : Code := Try.f3.body.getD .skip
abbrev law03PackPuts.shl8 : Shp := ⟨[.d (.slice (.int .u8)), .d (.int .u64), .d (.int .i64), .d .str, .u, .u, .u, .u, .u, .u, .u, .d .flt, .u, .u, .d (.slice (.int .u8)), .d (.slice (.int .u8)), .d (.slice (.int .u8)), .d (.slice (.int .u8)), .u, .u, .u, .u, .u, .u, .u, .u, .u, .u, .u, .u, .u, .u, .u, .u, .u, .u, .u, .u, .u, .u, .u, .u, .u, .u, .u, .u, .u, .u, .u, .u, .u, .u, .u, .u, .u, .u, .d (.slice (.int .u8)), .d (.int .i64), .d (.int .i64), .u, .u, .u, .u, .u, .u, .u, .u, .u, .u, .u, .u, .u, .u, .u, .u, .u, .u, .u, .u, .u, .u, .u, .u, .u, .u, .u, .u, .u, .u, .u, .u, .u, .u, .u, .u, .u, .u, .u, .u, .u, .u, .u, .u, .u, .u, .u, .u, .u, .u, .u, .u, .u], []⟩
abbrev law03PackPuts.outl8e1 : Shp := ⟨[.u, .u, .u, .u, .u, .u, .u, .u, .u, .u, .d .bool, .u, .u, .u, .u, .u, .u, .u, .u, .u, .u, .u, .u, .u, .u, .u, .u, .u, .u, .u, .u, .u, .u, .u, .u, .u, .u, .u, .u, .u, .u, .u, .u, .u, .u, .u, .u, .u, .u, .u, .u, .u, .u, .u, .u, .u, .u, .u, .u, .u, .u, .u, .u, .u, .u, .u, .u, .u, .u, .u, .u, .u, .u, .u, .u, .u, .u, .u, .u, .u, .u, .u, .u, .u, .u, .u, .u, .u, .u, .u, .u, .u, .u, .u, .u, .u, .u, .u, .u, .u, .u, .u, .u, .u, .u, .u, .u, .u, .u, .u, .u, .u], []⟩
abbrev law03PackPuts.outl8e2 : Shp := ⟨[.d (.slice (.int .u8)), .d (.int .u64), .d (.int .i64), .d .str, .u, .u, .u, .u, .u, .u, .u, .d .flt, .u, .u, .d (.slice (.int .u8)), .d (.slice (.int .u8)), .d (.slice (.int .u8)), .d (.slice (.int .u8)), .u, .u, .u, .u, .u, .u, .u, .u, .u, .u, .u, .u, .u, .u, .u, .u, .u, .u, .u, .u, .u, .u, .u, .u, .u, .u, .u, .u, .u, .u, .u, .u, .u, .u, .u, .u, .u, .u, .u, .u, .u, .u, .u, .u, .u, .u, .u, .u, .u, .u, .u, .u, .u, .u, .u, .u, .u, .u, .u, .u, .u, .u, .u, .u, .u, .u, .u, .u, .u, .u, .u, .u, .u, .u, .u, .u, .u, .u, .u, .u, .u, .u, .u, .u, .u, .u, .u, .u, .u, .u, .u, .u, .u, .u], []⟩
noncomputable def law03PackPuts.nml8 : Norm := ⟨{ keep := [0, 1, 2, 3, 11, 14, 15, 16, 17, 56, 57, 58], shut := [(0, (.slice (.int .u8))), (1, (.int .u64)), (2, (.int .i64)), (3, .str), (11, .flt), (14, (.slice (.int .u8))), (15, (.slice (.int .u8))), (16, (.slice (.int .u8))), (17, (.slice (.int .u8))), (56, (.slice (.int .u8))), (57, (.int .i64)), (58, (.int .i64))], retag := [], heap := 0, dead := [], cshut := [], cretag := [] }, [(1, { keep := [10], shut := [(10, .bool)], retag := [], heap := 0, dead := [], cshut := [], cretag := [] }), (2, { keep := [0, 1, 2, 3, 11, 14, 15, 16, 17], shut := [(0, (.slice (.int .u8))), (1, (.int .u64)), (2, (.int .i64)), (3, .str), (11, .flt), (14, (.slice (.int .u8))), (15, (.slice (.int .u8))), (16, (.slice (.int .u8))), (17, (.slice (.int .u8)))], retag := [], heap := 0, dead := [], cshut := [], cretag := [] })]⟩
noncomputable def law03PackPuts.con : Con := { ps := [(.slice (.int .u8)), (.int .u64), (.int .i64), .str, (.int .u64)], rs := [.bool], f := fun n x => law03PackPuts n x.1 x.2.1 x.2.2.1 x.2.2.2.1 x.2.2.2.2.1 }
noncomputable def law03PackPuts.env : Env := { tys := [(4, ⟨.bool, 1⟩), (5, ⟨(.int .u8), 1⟩), (9, ⟨.str, 16⟩), (3, ⟨(.int .i64), 8⟩), (22, ⟨(.slice (.int .u8)), 24⟩)], elems := [(22, 5)], ptrs := [], cons := [(7, law03Fixed.con), (8, extFrom), (9, packPutDat.con), (10, packPutIntDat.con), (11, packPutTextDat.con), (12, packPutRealDat.con), (13, ref03PutDat.con), (14, ref03PutIntDat.con), (15, ref03PutTextDat.con), (16, ref03PutRealDat.con), (17, packSize.con)], objs := [], loops := [(8, law03PackPuts.nml8)], cuts := [], globs := globs, base := 0, rooms := [34] }
noncomputable def law03PackPuts.lp (n : Nat) : LP (Kd.struct law03PackPuts.con.rs).T := fun lo κ body nm K s =>
  cond (lo && Nat.beq κ 8)
    (match law03PackPuts.shl8.dec s with
    | some v => law03PackPuts.l8 n (fun w0 => K .ret (law03PackPuts.outl8e1.enc (w0, ()))) (fun w0 w1 w2 w3 w4 w5 w6 w7 w8 => K (.exit 0) (law03PackPuts.outl8e2.enc (w0, w1, w2, w3, w4, w5, w6, w7, w8, ()))) n v.1 v.2.1 v.2.2.1 v.2.2.2.1 v.2.2.2.2.1 v.2.2.2.2.2.1 v.2.2.2.2.2.2.1 v.2.2.2.2.2.2.2.1 v.2.2.2.2.2.2.2.2.1 v.2.2.2.2.2.2.2.2.2.1 v.2.2.2.2.2.2.2.2.2.2.1 v.2.2.2.2.2.2.2.2.2.2.2.1
    | none => loops n (Kd.struct law03PackPuts.con.rs).T lo κ body nm K s)
    (loops n (Kd.struct law03PackPuts.con.rs).T lo κ body nm K s)
theorem law03PackPuts.atl8 (n : Nat) (s : St) (K : Ex → St → Option (Kd.struct law03PackPuts.con.rs).T) : (law03PackPuts.lp n) true 8 (evK law03PackPuts.env (law03PackPuts.lp n) n (sub [1, 1, 1, 1, 1, 1, 0, 1, 0, 0] law03PackPuts.body)) law03PackPuts.nml8 K s = loops n (Kd.struct law03PackPuts.con.rs).T true 8 (evK law03PackPuts.env (law03PackPuts.lp n) n (sub [1, 1, 1, 1, 1, 1, 0, 1, 0, 0] law03PackPuts.body)) law03PackPuts.nml8 K s := by
  show (match law03PackPuts.shl8.dec s with | some v => law03PackPuts.l8 n (fun w0 => K .ret (law03PackPuts.outl8e1.enc (w0, ()))) (fun w0 w1 w2 w3 w4 w5 w6 w7 w8 => K (.exit 0) (law03PackPuts.outl8e2.enc (w0, w1, w2, w3, w4, w5, w6, w7, w8, ()))) n v.1 v.2.1 v.2.2.1 v.2.2.2.1 v.2.2.2.2.1 v.2.2.2.2.2.1 v.2.2.2.2.2.2.1 v.2.2.2.2.2.2.2.1 v.2.2.2.2.2.2.2.2.1 v.2.2.2.2.2.2.2.2.2.1 v.2.2.2.2.2.2.2.2.2.2.1 v.2.2.2.2.2.2.2.2.2.2.2.1 | none => loops n (Kd.struct law03PackPuts.con.rs).T true 8 (evK law03PackPuts.env (law03PackPuts.lp n) n (sub [1, 1, 1, 1, 1, 1, 0, 1, 0, 0] law03PackPuts.body)) law03PackPuts.nml8 K s) = _
  cases h : law03PackPuts.shl8.dec s with
  | none => rfl
  | some v =>
    rw [Shp.dec_enc h]
    exact (evLoop_eq (sh := law03PackPuts.shl8) (body := evK law03PackPuts.env (law03PackPuts.lp n) n (sub [1, 1, 1, 1, 1, 1, 0, 1, 0, 0] law03PackPuts.body)) (nm := law03PackPuts.nml8) (K := K) (b := fun nx v => law03PackPuts.b8 n (fun x0 x1 x2 x3 x4 x5 x6 x7 x8 x9 x10 x11 => nx (x0, x1, x2, x3, x4, x5, x6, x7, x8, x9, x10, x11, ())) (fun w0 => K .ret (law03PackPuts.outl8e1.enc (w0, ()))) (fun w0 w1 w2 w3 w4 w5 w6 w7 w8 => K (.exit 0) (law03PackPuts.outl8e2.enc (w0, w1, w2, w3, w4, w5, w6, w7, w8, ()))) v.1 v.2.1 v.2.2.1 v.2.2.2.1 v.2.2.2.2.1 v.2.2.2.2.2.1 v.2.2.2.2.2.2.1 v.2.2.2.2.2.2.2.1 v.2.2.2.2.2.2.2.2.1 v.2.2.2.2.2.2.2.2.2.1 v.2.2.2.2.2.2.2.2.2.2.1 v.2.2.2.2.2.2.2.2.2.2.2.1) (l := fun m v => law03PackPuts.l8 n (fun w0 => K .ret (law03PackPuts.outl8e1.enc (w0, ()))) (fun w0 w1 w2 w3 w4 w5 w6 w7 w8 => K (.exit 0) (law03PackPuts.outl8e2.enc (w0, w1, w2, w3, w4, w5, w6, w7, w8, ()))) m v.1 v.2.1 v.2.2.1 v.2.2.2.1 v.2.2.2.2.1 v.2.2.2.2.2.1 v.2.2.2.2.2.2.1 v.2.2.2.2.2.2.2.1 v.2.2.2.2.2.2.2.2.1 v.2.2.2.2.2.2.2.2.2.1 v.2.2.2.2.2.2.2.2.2.2.1 v.2.2.2.2.2.2.2.2.2.2.2.1) (fun _ => rfl) (fun _ _ => rfl) (fun m v => by kernel_rfl) n v).symm
theorem law03PackPuts.eq (n : Nat) (x : (Kd.struct law03PackPuts.con.ps).T) : evFunc law03PackPuts.env Try.f3 law03PackPuts.body law03PackPuts.con.ps law03PackPuts.con.rs (law03PackPuts.lp n) n x = law03PackPuts.con.f n x := by kernel_rfl
theorem law03PackPuts.sound : Sound Try.prog globs 3 law03PackPuts.con :=
  sound_by (E := law03PackPuts.env) (c := law03PackPuts.body) (envOk (G := globs) (lc := [(7, law03Fixed.con), (8, extFrom), (9, packPutDat.con), (10, packPutIntDat.con), (11, packPutTextDat.con), (12, packPutRealDat.con), (13, ref03PutDat.con), (14, ref03PutIntDat.con), (15, ref03PutTextDat.con), (16, ref03PutRealDat.con), (17, packSize.con)]) (lo := []) (envB_spec (by kernel_rfl)) rfl rfl ⟨.inl ⟨law03Fixed.sound, by kernel_rfl⟩, ⟨.inr (extFrom_ok Try.func8 (by kernel_rfl) (by kernel_rfl) (by kernel_rfl) (by kernel_rfl)), ⟨.inl ⟨packPutDat.sound, by kernel_rfl⟩, ⟨.inl ⟨packPutIntDat.sound, by kernel_rfl⟩, ⟨.inl ⟨packPutTextDat.sound, by kernel_rfl⟩, ⟨.inl ⟨packPutRealDat.sound, by kernel_rfl⟩, ⟨.inl ⟨ref03PutDat.sound, by kernel_rfl⟩, ⟨.inl ⟨ref03PutIntDat.sound, by kernel_rfl⟩, ⟨.inl ⟨ref03PutTextDat.sound, by kernel_rfl⟩, ⟨.inl ⟨ref03PutRealDat.sound, by kernel_rfl⟩, ⟨.inl ⟨packSize.sound, by kernel_rfl⟩, trivial⟩⟩⟩⟩⟩⟩⟩⟩⟩⟩⟩ rfl trivial (by kernel_rfl) (by kernel_rfl)) Try.func3 (by kernel_rfl) law03PackPuts.lp (l := [(true, sub [1, 1, 1, 1, 1, 1, 0, 1, 0, 0] law03PackPuts.body, law03PackPuts.nml8)]) (by kernel_rfl) (fun n => ⟨law03PackPuts.atl8 n, trivial⟩) law03PackPuts.eq
end
end Go.Shal.Pr
