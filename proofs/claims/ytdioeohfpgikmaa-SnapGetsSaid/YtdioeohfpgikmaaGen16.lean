/- Prints of functions, and proofs that they are what the code computes. By an AI agent. -/
import Derived.Test.YtdioeohfpgikmaaShC
import Derived.Test.YtdioeohfpgikmaaProg
set_option linter.unusedVariables false
set_option maxRecDepth 100000
namespace Go.Shal.Pr
open Go Go.Shal Go.Proofs
noncomputable section
def globs : Globs := []
abbrev kS0 : Kd := .struct [(.int .u64), (.int .u64), (.int .u64)]
abbrev S0 : Type := Int × Int × Int × Unit
abbrev kS1 : Kd := .struct [(.int .u64), (.int .u64), .bool, (.int .u64), (.slice kS0)]
abbrev S1 : Type := Int × Int × Bool × Int × (List S0) × Unit
abbrev kO2 : Ob := (.dat (.slice (.int .u8)) (.dat (.int .i64) (.dat (.int .i64) .nil)))
abbrev O2 : Type := (List Int) × Int × Int × Unit
abbrev kS3 : Kd := .struct [(.slice (.int .u8)), (.int .i64), (.int .i64)]
abbrev S3 : Type := (List Int) × Int × Int × Unit
noncomputable def snapMay.b6 (fu : Nat) (next : (List S0) → Int → Int → S1 → Option (Bool × Unit)) (k1 : Bool → Option (Bool × Unit)) (k2 : S1 → Option (Bool × Unit)) (v : List S0) (vx2 : Int) (vx3 : Int) (b0 : S1) : Option (Bool × Unit) :=
  cond (decide (vx3 < vx2)) (
    chk (ixOk v vx3) <|
    let e1 := ixL ((0 : Int), (0 : Int), (0 : Int), ()) v vx3
    cond (decide (vx3 > (0 : Int))) (
      let t2 := IntKind.i64.wrap (vx3 - (1 : Int))
      chk (ixOk b0.2.2.2.2.1 t2) <|
      let e3 := ixL ((0 : Int), (0 : Int), (0 : Int), ()) b0.2.2.2.2.1 t2
      cond (decide (e1.1 ≤ e3.1)) (
        k1 false) (
        let t4 := IntKind.i64.wrap (vx3 - (1 : Int))
        chk (ixOk b0.2.2.2.2.1 t4) <|
        let e5 := ixL ((0 : Int), (0 : Int), (0 : Int), ()) b0.2.2.2.2.1 t4
        cond (decide (e1.2.1 < e5.2.1)) (
          k1 false) (
          let t6 := IntKind.i64.wrap (vx3 + (1 : Int))
          next v vx2 t6 b0))) (
      let t7 := IntKind.i64.wrap (vx3 + (1 : Int))
      next v vx2 t7 b0)) (
    k2 b0)
noncomputable def snapMay.l6 (fu : Nat) (k1 : Bool → Option (Bool × Unit)) (k2 : S1 → Option (Bool × Unit)) : Nat → (List S0) → Int → Int → S1 → Option (Bool × Unit)
  | 0, _, _, _, _ => none
  | m + 1, v, vx2, vx3, b0 => snapMay.b6 fu (snapMay.l6 fu k1 k2 m) k1 k2 v vx2 vx3 b0
noncomputable def snapMay (fu : Nat) (sv : S1) : Option (Bool × Unit) :=
  let t1 := decide (sv.1 > (1099511627776 : Int))
  cond t1 (
    some (false, ())) (
    let t2 := decide (sv.2.1 > (1099511627776 : Int))
    cond t2 (
      some (false, ())) (
      let t3 := (sv.2.2.2.2.1.length : Int)
      cond (decide (t3 > (64 : Int))) (
        some (false, ())) (
        cond sv.2.2.1 (
          let t4 := (sv.2.2.2.2.1.length : Int)
          some (t4 == (0 : Int), ())) (
          let t5 := (sv.2.2.2.2.1.length : Int)
          snapMay.l6 fu (fun vq3 => 
              some (vq3, ())) (fun b0q4 => 
              let t6 := b0q4.2.2.2.1 == (0 : Int)
              some (t6, ())) fu sv.2.2.2.2.1 t5 (0 : Int) sv))))

noncomputable def snapMay.body : Code := Try.f61.body.getD .skip
abbrev snapMay.shl6 : Shp := ⟨[.u, .p 0 0, .u, .u, .u, .u, .u, .u, .u, .u, .u, .u, .u, .u, .u, .u, .u, .u, .u, .u, .u, .u, .u, .u, .u, .u, .d (.slice kS0), .d (.int .i64), .d (.int .i64), .u, .u, .u, .u, .u, .u, .u, .u, .u, .u, .u, .u, .u, .u, .u, .u, .u, .u, .u, .u, .u, .u, .u, .u, .u, .u, .u, .u, .u, .u, .u, .u, .u, .u], [[.g kS1]]⟩
abbrev snapMay.outl6e1 : Shp := ⟨[.u, .u, .d .bool, .u, .u, .u, .u, .u, .u, .u, .u, .u, .u, .u, .u, .u, .u, .u, .u, .u, .u, .u, .u, .u, .u, .u, .u, .u, .u, .u, .u, .u, .u, .u, .u, .u, .u, .u, .u, .u, .u, .u, .u, .u, .u, .u, .u, .u, .u, .u, .u, .u, .u, .u, .u, .u, .u, .u, .u, .u, .u, .u, .u], []⟩
abbrev snapMay.outl6e2 : Shp := ⟨[.u, .p 0 0, .u, .u, .u, .u, .u, .u, .u, .u, .u, .u, .u, .u, .u, .u, .u, .u, .u, .u, .u, .u, .u, .u, .u, .u, .u, .u, .u, .u, .u, .u, .u, .u, .u, .u, .u, .u, .u, .u, .u, .u, .u, .u, .u, .u, .u, .u, .u, .u, .u, .u, .u, .u, .u, .u, .u, .u, .u, .u, .u, .u, .u], [[.g kS1]]⟩
noncomputable def snapMay.nml6 : Norm := ⟨{ keep := [1, 26, 27, 28], shut := [(26, (.slice kS0)), (27, (.int .i64)), (28, (.int .i64))], retag := [], heap := 1, dead := [], cshut := [(0, 0, (.int .u64)), (0, 1, (.int .u64)), (0, 2, .bool), (0, 3, (.int .u64)), (0, 4, (.slice kS0))], cretag := [] }, [(1, { keep := [2], shut := [(2, .bool)], retag := [], heap := 0, dead := [], cshut := [], cretag := [] }), (2, { keep := [1], shut := [], retag := [], heap := 1, dead := [], cshut := [(0, 0, (.int .u64)), (0, 1, (.int .u64)), (0, 2, .bool), (0, 3, (.int .u64)), (0, 4, (.slice kS0))], cretag := [] })]⟩
noncomputable def snapMay.con : Con := { ps := [kS1], rs := [.bool], f := fun n x => snapMay n x.1 }
noncomputable def snapMay.env : Env := { tys := [(77, ⟨kS1, 56⟩), (4, ⟨.bool, 1⟩), (27, ⟨(.int .u64), 8⟩), (75, ⟨(.slice kS0), 24⟩), (99, ⟨kS0, 24⟩), (3, ⟨(.int .i64), 8⟩)], elems := [(75, 99)], ptrs := [], cons := [], objs := [], loops := [(6, snapMay.nml6)], cuts := [], globs := globs, base := 0 }
noncomputable def snapMay.lp (n : Nat) : LP (Kd.struct snapMay.con.rs).T := fun lo κ body nm K s =>
  cond (lo && Nat.beq κ 6)
    (match snapMay.shl6.dec s with
    | some v => snapMay.l6 n (fun w0 => K .ret (snapMay.outl6e1.enc (w0, ()))) (fun w0 => K (.exit 0) (snapMay.outl6e2.enc (w0, ()))) n v.1 v.2.1 v.2.2.1 v.2.2.2.1
    | none => loops n (Kd.struct snapMay.con.rs).T lo κ body nm K s)
    (loops n (Kd.struct snapMay.con.rs).T lo κ body nm K s)
theorem snapMay.atl6 (n : Nat) (s : St) (K : Ex → St → Option (Kd.struct snapMay.con.rs).T) : snapMay.lp n true 6 (evK snapMay.env (snapMay.lp n) n (sub [1, 1, 1, 0, 1, 0, 0] snapMay.body)) snapMay.nml6 K s = loops n (Kd.struct snapMay.con.rs).T true 6 (evK snapMay.env (snapMay.lp n) n (sub [1, 1, 1, 0, 1, 0, 0] snapMay.body)) snapMay.nml6 K s := by
  show (match snapMay.shl6.dec s with | some v => snapMay.l6 n (fun w0 => K .ret (snapMay.outl6e1.enc (w0, ()))) (fun w0 => K (.exit 0) (snapMay.outl6e2.enc (w0, ()))) n v.1 v.2.1 v.2.2.1 v.2.2.2.1 | none => loops n (Kd.struct snapMay.con.rs).T true 6 (evK snapMay.env (snapMay.lp n) n (sub [1, 1, 1, 0, 1, 0, 0] snapMay.body)) snapMay.nml6 K s) = _
  cases h : snapMay.shl6.dec s with
  | none => rfl
  | some v =>
    rw [Shp.dec_enc h]
    exact (evLoop_eq (sh := snapMay.shl6) (body := evK snapMay.env (snapMay.lp n) n (sub [1, 1, 1, 0, 1, 0, 0] snapMay.body)) (nm := snapMay.nml6) (K := K) (b := fun nx v => snapMay.b6 n (fun x0 x1 x2 x3 => nx (x0, x1, x2, x3, ())) (fun w0 => K .ret (snapMay.outl6e1.enc (w0, ()))) (fun w0 => K (.exit 0) (snapMay.outl6e2.enc (w0, ()))) v.1 v.2.1 v.2.2.1 v.2.2.2.1) (l := fun m v => snapMay.l6 n (fun w0 => K .ret (snapMay.outl6e1.enc (w0, ()))) (fun w0 => K (.exit 0) (snapMay.outl6e2.enc (w0, ()))) m v.1 v.2.1 v.2.2.1 v.2.2.2.1) (fun _ => rfl) (fun _ _ => rfl) (fun m v => by kernel_rfl) n v).symm
theorem snapMay.eq (n : Nat) (x : (Kd.struct snapMay.con.ps).T) : evFunc snapMay.env Try.f61 snapMay.body snapMay.con.ps snapMay.con.rs (snapMay.lp n) n x = snapMay.con.f n x := by kernel_rfl
theorem snapMay.sound : Sound Try.prog globs 61 snapMay.con :=
  sound_by (E := snapMay.env) (c := snapMay.body) (envOk (G := globs) (lc := []) (lo := []) (envB_spec (by kernel_rfl)) rfl rfl trivial rfl trivial (by kernel_rfl) (by kernel_rfl)) Try.func61 (by kernel_rfl) snapMay.lp (l := [(true, sub [1, 1, 1, 0, 1, 0, 0] snapMay.body, snapMay.nml6)]) (by kernel_rfl) (fun n => ⟨snapMay.atl6 n, trivial⟩) snapMay.eq
noncomputable def bitsLen64.j7 (fu : Nat) (k1 : Int → Option (Int × Unit)) (xv : Int) (n : Int) : Option (Int × Unit) :=
  let t1 := decide (xv ≥ (256 : Int))
  cond t1 (
    let t2 := IntKind.i64.wrap (n + (8 : Int))
    let t3 := IntKind.u8.wrap (sShr .u64 xv (8 : Int))
    chk (ixOk ([0, 1, 2, 2, 3, 3, 3, 3, 4, 4, 4, 4, 4, 4, 4, 4, 5, 5, 5, 5, 5, 5, 5, 5, 5, 5, 5, 5, 5, 5, 5, 5, 6, 6, 6, 6, 6, 6, 6, 6, 6, 6, 6, 6, 6, 6, 6, 6, 6, 6, 6, 6, 6, 6, 6, 6, 6, 6, 6, 6, 6, 6, 6, 6, 7, 7, 7, 7, 7, 7, 7, 7, 7, 7, 7, 7, 7, 7, 7, 7, 7, 7, 7, 7, 7, 7, 7, 7, 7, 7, 7, 7, 7, 7, 7, 7, 7, 7, 7, 7, 7, 7, 7, 7, 7, 7, 7, 7, 7, 7, 7, 7, 7, 7, 7, 7, 7, 7, 7, 7, 7, 7, 7, 7, 7, 7, 7, 7, 8, 8, 8, 8, 8, 8, 8, 8, 8, 8, 8, 8, 8, 8, 8, 8, 8, 8, 8, 8, 8, 8, 8, 8, 8, 8, 8, 8, 8, 8, 8, 8, 8, 8, 8, 8, 8, 8, 8, 8, 8, 8, 8, 8, 8, 8, 8, 8, 8, 8, 8, 8, 8, 8, 8, 8, 8, 8, 8, 8, 8, 8, 8, 8, 8, 8, 8, 8, 8, 8, 8, 8, 8, 8, 8, 8, 8, 8, 8, 8, 8, 8, 8, 8, 8, 8, 8, 8, 8, 8, 8, 8, 8, 8, 8, 8, 8, 8, 8, 8, 8, 8, 8, 8, 8, 8, 8, 8, 8, 8, 8, 8, 8, 8, 8, 8, 8, 8, 8, 8, 8, 8, 8, 8, 8, 8, 8, 8] : List Int) t3) <|
    let t4 := ixL (0 : Int) ([0, 1, 2, 2, 3, 3, 3, 3, 4, 4, 4, 4, 4, 4, 4, 4, 5, 5, 5, 5, 5, 5, 5, 5, 5, 5, 5, 5, 5, 5, 5, 5, 6, 6, 6, 6, 6, 6, 6, 6, 6, 6, 6, 6, 6, 6, 6, 6, 6, 6, 6, 6, 6, 6, 6, 6, 6, 6, 6, 6, 6, 6, 6, 6, 7, 7, 7, 7, 7, 7, 7, 7, 7, 7, 7, 7, 7, 7, 7, 7, 7, 7, 7, 7, 7, 7, 7, 7, 7, 7, 7, 7, 7, 7, 7, 7, 7, 7, 7, 7, 7, 7, 7, 7, 7, 7, 7, 7, 7, 7, 7, 7, 7, 7, 7, 7, 7, 7, 7, 7, 7, 7, 7, 7, 7, 7, 7, 7, 8, 8, 8, 8, 8, 8, 8, 8, 8, 8, 8, 8, 8, 8, 8, 8, 8, 8, 8, 8, 8, 8, 8, 8, 8, 8, 8, 8, 8, 8, 8, 8, 8, 8, 8, 8, 8, 8, 8, 8, 8, 8, 8, 8, 8, 8, 8, 8, 8, 8, 8, 8, 8, 8, 8, 8, 8, 8, 8, 8, 8, 8, 8, 8, 8, 8, 8, 8, 8, 8, 8, 8, 8, 8, 8, 8, 8, 8, 8, 8, 8, 8, 8, 8, 8, 8, 8, 8, 8, 8, 8, 8, 8, 8, 8, 8, 8, 8, 8, 8, 8, 8, 8, 8, 8, 8, 8, 8, 8, 8, 8, 8, 8, 8, 8, 8, 8, 8, 8, 8, 8, 8, 8, 8, 8, 8, 8, 8] : List Int) t3
    let t5 := IntKind.i64.wrap (t2 + IntKind.i64.wrap t4)
    k1 t5) (
    chk (ixOk ([0, 1, 2, 2, 3, 3, 3, 3, 4, 4, 4, 4, 4, 4, 4, 4, 5, 5, 5, 5, 5, 5, 5, 5, 5, 5, 5, 5, 5, 5, 5, 5, 6, 6, 6, 6, 6, 6, 6, 6, 6, 6, 6, 6, 6, 6, 6, 6, 6, 6, 6, 6, 6, 6, 6, 6, 6, 6, 6, 6, 6, 6, 6, 6, 7, 7, 7, 7, 7, 7, 7, 7, 7, 7, 7, 7, 7, 7, 7, 7, 7, 7, 7, 7, 7, 7, 7, 7, 7, 7, 7, 7, 7, 7, 7, 7, 7, 7, 7, 7, 7, 7, 7, 7, 7, 7, 7, 7, 7, 7, 7, 7, 7, 7, 7, 7, 7, 7, 7, 7, 7, 7, 7, 7, 7, 7, 7, 7, 8, 8, 8, 8, 8, 8, 8, 8, 8, 8, 8, 8, 8, 8, 8, 8, 8, 8, 8, 8, 8, 8, 8, 8, 8, 8, 8, 8, 8, 8, 8, 8, 8, 8, 8, 8, 8, 8, 8, 8, 8, 8, 8, 8, 8, 8, 8, 8, 8, 8, 8, 8, 8, 8, 8, 8, 8, 8, 8, 8, 8, 8, 8, 8, 8, 8, 8, 8, 8, 8, 8, 8, 8, 8, 8, 8, 8, 8, 8, 8, 8, 8, 8, 8, 8, 8, 8, 8, 8, 8, 8, 8, 8, 8, 8, 8, 8, 8, 8, 8, 8, 8, 8, 8, 8, 8, 8, 8, 8, 8, 8, 8, 8, 8, 8, 8, 8, 8, 8, 8, 8, 8, 8, 8, 8, 8, 8, 8] : List Int) (IntKind.u8.wrap xv)) <|
    let t6 := ixL (0 : Int) ([0, 1, 2, 2, 3, 3, 3, 3, 4, 4, 4, 4, 4, 4, 4, 4, 5, 5, 5, 5, 5, 5, 5, 5, 5, 5, 5, 5, 5, 5, 5, 5, 6, 6, 6, 6, 6, 6, 6, 6, 6, 6, 6, 6, 6, 6, 6, 6, 6, 6, 6, 6, 6, 6, 6, 6, 6, 6, 6, 6, 6, 6, 6, 6, 7, 7, 7, 7, 7, 7, 7, 7, 7, 7, 7, 7, 7, 7, 7, 7, 7, 7, 7, 7, 7, 7, 7, 7, 7, 7, 7, 7, 7, 7, 7, 7, 7, 7, 7, 7, 7, 7, 7, 7, 7, 7, 7, 7, 7, 7, 7, 7, 7, 7, 7, 7, 7, 7, 7, 7, 7, 7, 7, 7, 7, 7, 7, 7, 8, 8, 8, 8, 8, 8, 8, 8, 8, 8, 8, 8, 8, 8, 8, 8, 8, 8, 8, 8, 8, 8, 8, 8, 8, 8, 8, 8, 8, 8, 8, 8, 8, 8, 8, 8, 8, 8, 8, 8, 8, 8, 8, 8, 8, 8, 8, 8, 8, 8, 8, 8, 8, 8, 8, 8, 8, 8, 8, 8, 8, 8, 8, 8, 8, 8, 8, 8, 8, 8, 8, 8, 8, 8, 8, 8, 8, 8, 8, 8, 8, 8, 8, 8, 8, 8, 8, 8, 8, 8, 8, 8, 8, 8, 8, 8, 8, 8, 8, 8, 8, 8, 8, 8, 8, 8, 8, 8, 8, 8, 8, 8, 8, 8, 8, 8, 8, 8, 8, 8, 8, 8, 8, 8, 8, 8, 8, 8] : List Int) (IntKind.u8.wrap xv)
    let t7 := IntKind.i64.wrap (n + IntKind.i64.wrap t6)
    k1 t7)
noncomputable def bitsLen64.j4 (fu : Nat) (k1 : Int → Option (Int × Unit)) (xv : Int) (n : Int) : Option (Int × Unit) :=
  let t1 := decide (xv ≥ (65536 : Int))
  cond t1 (
    let t2 := IntKind.i64.wrap (n + (16 : Int))
    bitsLen64.j7 fu (fun nq3 => 
        k1 nq3) (sShr .u64 xv (16 : Int)) t2) (
    bitsLen64.j7 fu (fun nq4 => 
        k1 nq4) xv n)
noncomputable def bitsLen64 (fu : Nat) (xv : Int) : Option (Int × Unit) :=
  let t1 := decide (xv ≥ (4294967296 : Int))
  cond t1 (
    bitsLen64.j4 fu (fun nq1 => 
        some (nq1, ())) (sShr .u64 xv (32 : Int)) (32 : Int)) (
    bitsLen64.j4 fu (fun nq2 => 
        some (nq2, ())) xv (0 : Int))

noncomputable def bitsLen64.body : Code := Try.f75.body.getD .skip
abbrev bitsLen64.shj7 : Shp := ⟨[.d (.int .u64), .u, .d (.int .i64), .u, .u, .u, .u, .u, .u, .u, .u, .u, .u, .u, .u, .u, .u, .u, .u, .u, .u, .u, .u, .u, .u], []⟩
abbrev bitsLen64.outj7e1 : Shp := ⟨[.u, .u, .d (.int .i64), .u, .u, .u, .u, .u, .u, .u, .u, .u, .u, .u, .u, .u, .u, .u, .u, .u, .u, .u, .u, .u, .u], []⟩
noncomputable def bitsLen64.nmj7 : Norm := ⟨{ keep := [0, 2], shut := [(0, (.int .u64)), (2, (.int .i64))], retag := [], heap := 0, dead := [], cshut := [], cretag := [] }, [(1, { keep := [2], shut := [(2, (.int .i64))], retag := [], heap := 0, dead := [], cshut := [], cretag := [] })]⟩
abbrev bitsLen64.shj4 : Shp := ⟨[.d (.int .u64), .u, .d (.int .i64), .u, .u, .u, .u, .u, .u, .u, .u, .u, .u, .u, .u, .u, .u, .u, .u, .u, .u, .u, .u, .u, .u], []⟩
abbrev bitsLen64.outj4e1 : Shp := ⟨[.u, .u, .d (.int .i64), .u, .u, .u, .u, .u, .u, .u, .u, .u, .u, .u, .u, .u, .u, .u, .u, .u, .u, .u, .u, .u, .u], []⟩
noncomputable def bitsLen64.nmj4 : Norm := ⟨{ keep := [0, 2], shut := [(0, (.int .u64)), (2, (.int .i64))], retag := [], heap := 0, dead := [], cshut := [], cretag := [] }, [(1, { keep := [2], shut := [(2, (.int .i64))], retag := [], heap := 0, dead := [], cshut := [], cretag := [] })]⟩
noncomputable def bitsLen64.con : Con := { ps := [(.int .u64)], rs := [(.int .i64)], f := fun n x => bitsLen64 n x.1 }
noncomputable def bitsLen64.env : Env := { tys := [(3, ⟨(.int .i64), 8⟩), (5, ⟨(.int .u8), 1⟩), (27, ⟨(.int .u64), 8⟩), (9, ⟨.str, 16⟩)], elems := [], ptrs := [], cons := [], objs := [], loops := [], cuts := [(7, bitsLen64.nmj7), (4, bitsLen64.nmj4)], globs := globs, base := 0 }
noncomputable def bitsLen64.lp (n : Nat) : LP (Kd.struct bitsLen64.con.rs).T := fun lo κ body nm K s =>
  cond (!lo && Nat.beq κ 7)
    (match bitsLen64.shj7.dec s with
    | some v => bitsLen64.j7 n (fun w0 => K .ret (bitsLen64.outj7e1.enc (w0, ()))) v.1 v.2.1
    | none => loops n (Kd.struct bitsLen64.con.rs).T lo κ body nm K s)
    (cond (!lo && Nat.beq κ 4)
    (match bitsLen64.shj4.dec s with
    | some v => bitsLen64.j4 n (fun w0 => K .ret (bitsLen64.outj4e1.enc (w0, ()))) v.1 v.2.1
    | none => loops n (Kd.struct bitsLen64.con.rs).T lo κ body nm K s)
    (loops n (Kd.struct bitsLen64.con.rs).T lo κ body nm K s))
theorem bitsLen64.atj7 (n : Nat) (s : St) (K : Ex → St → Option (Kd.struct bitsLen64.con.rs).T) : bitsLen64.lp n false 7 (evK bitsLen64.env (bitsLen64.lp n) n (sub [1, 1, 1] bitsLen64.body)) bitsLen64.nmj7 K s = loops n (Kd.struct bitsLen64.con.rs).T false 7 (evK bitsLen64.env (bitsLen64.lp n) n (sub [1, 1, 1] bitsLen64.body)) bitsLen64.nmj7 K s := by
  show (match bitsLen64.shj7.dec s with | some v => bitsLen64.j7 n (fun w0 => K .ret (bitsLen64.outj7e1.enc (w0, ()))) v.1 v.2.1 | none => loops n (Kd.struct bitsLen64.con.rs).T false 7 (evK bitsLen64.env (bitsLen64.lp n) n (sub [1, 1, 1] bitsLen64.body)) bitsLen64.nmj7 K s) = _
  cases h : bitsLen64.shj7.dec s with
  | none => rfl
  | some v =>
    rw [Shp.dec_enc h]
    kernel_rfl
theorem bitsLen64.atj4 (n : Nat) (s : St) (K : Ex → St → Option (Kd.struct bitsLen64.con.rs).T) : bitsLen64.lp n false 4 (evK bitsLen64.env (bitsLen64.lp n) n (sub [1, 1] bitsLen64.body)) bitsLen64.nmj4 K s = loops n (Kd.struct bitsLen64.con.rs).T false 4 (evK bitsLen64.env (bitsLen64.lp n) n (sub [1, 1] bitsLen64.body)) bitsLen64.nmj4 K s := by
  show (match bitsLen64.shj4.dec s with | some v => bitsLen64.j4 n (fun w0 => K .ret (bitsLen64.outj4e1.enc (w0, ()))) v.1 v.2.1 | none => loops n (Kd.struct bitsLen64.con.rs).T false 4 (evK bitsLen64.env (bitsLen64.lp n) n (sub [1, 1] bitsLen64.body)) bitsLen64.nmj4 K s) = _
  cases h : bitsLen64.shj4.dec s with
  | none => rfl
  | some v =>
    rw [Shp.dec_enc h]
    kernel_rfl
theorem bitsLen64.eq (n : Nat) (x : (Kd.struct bitsLen64.con.ps).T) : evFunc bitsLen64.env Try.f75 bitsLen64.body bitsLen64.con.ps bitsLen64.con.rs (bitsLen64.lp n) n x = bitsLen64.con.f n x := by kernel_rfl
theorem bitsLen64.sound : Sound Try.prog globs 75 bitsLen64.con :=
  sound_by (E := bitsLen64.env) (c := bitsLen64.body) (envOk (G := globs) (lc := []) (lo := []) (envB_spec (by kernel_rfl)) rfl rfl trivial rfl trivial (by kernel_rfl) (by kernel_rfl)) Try.func75 (by kernel_rfl) bitsLen64.lp (l := [(false, sub [1, 1, 1] bitsLen64.body, bitsLen64.nmj7), (false, sub [1, 1] bitsLen64.body, bitsLen64.nmj4)]) (by kernel_rfl) (fun n => ⟨bitsLen64.atj7 n, ⟨bitsLen64.atj4 n, trivial⟩⟩) bitsLen64.eq
noncomputable def packSize (fu : Nat) (n : Int) : Option (Int × Unit) :=
  (bitsLen64 fu n).bind fun r1 =>
  let t2 := IntKind.i64.wrap (max2 r1.1 (1 : Int) + (6 : Int))
  let t3 := IntKind.i64.wrap (Int.tdiv t2 (7 : Int))
  some (t3, ())

noncomputable def packSize.body : Code := Try.f72.body.getD .skip
noncomputable def packSize.con : Con := { ps := [(.int .u64)], rs := [(.int .i64)], f := fun n x => packSize n x.1 }
noncomputable def packSize.env : Env := { tys := [(3, ⟨(.int .i64), 8⟩)], elems := [], ptrs := [], cons := [(75, bitsLen64.con)], objs := [], loops := [], cuts := [], globs := globs, base := 0 }
noncomputable def packSize.lp (n : Nat) : LP (Kd.struct packSize.con.rs).T := fun lo κ body nm K s =>
  loops n (Kd.struct packSize.con.rs).T lo κ body nm K s
theorem packSize.eq (n : Nat) (x : (Kd.struct packSize.con.ps).T) : evFunc packSize.env Try.f72 packSize.body packSize.con.ps packSize.con.rs (packSize.lp n) n x = packSize.con.f n x := by kernel_rfl
theorem packSize.sound : Sound Try.prog globs 72 packSize.con :=
  sound_by (E := packSize.env) (c := packSize.body) (envOk (G := globs) (lc := [(75, bitsLen64.con)]) (lo := []) (envB_spec (by kernel_rfl)) rfl rfl ⟨.inl ⟨bitsLen64.sound, by kernel_rfl⟩, trivial⟩ rfl trivial (by kernel_rfl) (by kernel_rfl)) Try.func72 (by kernel_rfl) packSize.lp (l := []) (by kernel_rfl) (fun n => trivial) packSize.eq
noncomputable def packOwn (fu : Nat) (b : List Int) (room : Int) : Option (((List Int) × Unit) × (Unit)) :=
  let t1 := IntKind.i64.wrap ((b.length : Int) + room)
  chk (mkOk (0 : Int) t1 1) <|
  let t2 := List.replicate (0 : Int).toNat (0 : Int)
  chk (apOk t2 b 1) <|
  some ((t2 ++ b, ()), (()))

noncomputable def packOwn.body : Code := Try.f71.body.getD .skip
noncomputable def packOwn.con : OCon := { ps := [.dat (.slice (.int .u8)), .dat (.int .i64)], rs := [.own (.int .u8)], f := fun n x => packOwn n x.1 x.2.1 }
noncomputable def packOwn.env : Env := { tys := [(54, ⟨(.slice (.int .u8)), 24⟩), (5, ⟨(.int .u8), 1⟩)], elems := [(54, 5)], ptrs := [], cons := [], objs := [], loops := [], cuts := [], globs := globs, base := 0 }
noncomputable def packOwn.lp (n : Nat) : LP (RT packOwn.con.rs × BT packOwn.con.ps) := fun lo κ body nm K s =>
  loops n (RT packOwn.con.rs × BT packOwn.con.ps) lo κ body nm K s
theorem packOwn.eq (n : Nat) (x : PT packOwn.con.ps) : evFuncO packOwn.env Try.f71 packOwn.body packOwn.con.ps packOwn.con.rs (packOwn.lp n) n x = packOwn.con.f n x := by kernel_rfl
theorem packOwn.sound : SoundO Try.prog globs 71 packOwn.con :=
  sound_byO (E := packOwn.env) (c := packOwn.body) (envOk (G := globs) (lc := []) (lo := []) (envB_spec (by kernel_rfl)) rfl rfl trivial rfl trivial (by kernel_rfl) (by kernel_rfl)) Try.func71 (by kernel_rfl) (by kernel_rfl) (by kernel_rfl) packOwn.lp (l := []) (by kernel_rfl) (fun n => trivial) packOwn.eq
noncomputable def packPut.b2 (fu : Nat) (next : Int → (List Int) → Option (((List Int) × Unit) × (Unit))) (k2 : Int → (List Int) → Option (((List Int) × Unit) × (Unit))) (n : Int) (out : List Int) : Option (((List Int) × Unit) × (Unit)) :=
  cond (decide (n ≥ (128 : Int))) (
    let t1 := bOr .u8 (IntKind.u8.wrap n) (128 : Int)
    chk (apOk out ([t1]) 1) <|
    next (sShr .u64 n (7 : Int)) (out ++ ([t1]))) (
    k2 n out)
noncomputable def packPut.l2 (fu : Nat) (k2 : Int → (List Int) → Option (((List Int) × Unit) × (Unit))) : Nat → Int → (List Int) → Option (((List Int) × Unit) × (Unit))
  | 0, _, _ => none
  | m + 1, n, out => packPut.b2 fu (packPut.l2 fu k2 m) k2 n out
noncomputable def packPut (fu : Nat) (b : List Int) (n : Int) : Option (((List Int) × Unit) × (Unit)) :=
  (packSize fu n).bind fun r1 =>
  (packOwn fu b r1.1).bind fun r2 =>
  packPut.l2 fu (fun nq2 outq2 => 
      chk (apOk outq2 ([IntKind.u8.wrap nq2]) 1) <|
      let t3 := outq2 ++ ([IntKind.u8.wrap nq2])
      some ((t3, ()), (()))) fu n r2.1.1

noncomputable def packPut.body : Code := Try.f62.body.getD .skip
abbrev packPut.shl2 : Shp := ⟨[.u, .d (.int .u64), .u, .u, .u, .o 5 (.int .u8), .u, .u, .u, .u, .u, .u, .u, .u, .u, .u, .u, .u, .u, .u, .u, .u, .u, .u, .u], []⟩
abbrev packPut.outl2e2 : Shp := ⟨[.u, .d (.int .u64), .u, .u, .u, .o 5 (.int .u8), .u, .u, .u, .u, .u, .u, .u, .u, .u, .u, .u, .u, .u, .u, .u, .u, .u, .u, .u], []⟩
noncomputable def packPut.nml2 : Norm := ⟨{ keep := [1, 5], shut := [(1, (.int .u64))], retag := [(5, 5, (.int .u8))], heap := 0, dead := [], cshut := [], cretag := [] }, [(2, { keep := [1, 5], shut := [(1, (.int .u64))], retag := [(5, 5, (.int .u8))], heap := 0, dead := [], cshut := [], cretag := [] })]⟩
noncomputable def packPut.con : OCon := { ps := [.dat (.slice (.int .u8)), .dat (.int .u64)], rs := [.own (.int .u8)], f := fun n x => packPut n x.1 x.2.1 }
noncomputable def packPut.env : Env := { tys := [(54, ⟨(.slice (.int .u8)), 24⟩), (5, ⟨(.int .u8), 1⟩), (27, ⟨(.int .u64), 8⟩)], elems := [(54, 5)], ptrs := [], cons := [(72, packSize.con)], objs := [(71, [packOwn.con])], loops := [(2, packPut.nml2)], cuts := [], globs := globs, base := 0 }
noncomputable def packPut.lp (n : Nat) : LP (RT packPut.con.rs × BT packPut.con.ps) := fun lo κ body nm K s =>
  cond (lo && Nat.beq κ 2)
    (match packPut.shl2.dec s with
    | some v => packPut.l2 n (fun w0 w1 => K (.exit 0) (packPut.outl2e2.enc (w0, w1, ()))) n v.1 v.2.1
    | none => loops n (RT packPut.con.rs × BT packPut.con.ps) lo κ body nm K s)
    (loops n (RT packPut.con.rs × BT packPut.con.ps) lo κ body nm K s)
theorem packPut.atl2 (n : Nat) (s : St) (K : Ex → St → Option (RT packPut.con.rs × BT packPut.con.ps)) : packPut.lp n true 2 (evK packPut.env (packPut.lp n) n (sub [1, 1, 0, 0, 0] packPut.body)) packPut.nml2 K s = loops n (RT packPut.con.rs × BT packPut.con.ps) true 2 (evK packPut.env (packPut.lp n) n (sub [1, 1, 0, 0, 0] packPut.body)) packPut.nml2 K s := by
  show (match packPut.shl2.dec s with | some v => packPut.l2 n (fun w0 w1 => K (.exit 0) (packPut.outl2e2.enc (w0, w1, ()))) n v.1 v.2.1 | none => loops n (RT packPut.con.rs × BT packPut.con.ps) true 2 (evK packPut.env (packPut.lp n) n (sub [1, 1, 0, 0, 0] packPut.body)) packPut.nml2 K s) = _
  cases h : packPut.shl2.dec s with
  | none => rfl
  | some v =>
    rw [Shp.dec_enc h]
    exact (evLoop_eq (sh := packPut.shl2) (body := evK packPut.env (packPut.lp n) n (sub [1, 1, 0, 0, 0] packPut.body)) (nm := packPut.nml2) (K := K) (b := fun nx v => packPut.b2 n (fun x0 x1 => nx (x0, x1, ())) (fun w0 w1 => K (.exit 0) (packPut.outl2e2.enc (w0, w1, ()))) v.1 v.2.1) (l := fun m v => packPut.l2 n (fun w0 w1 => K (.exit 0) (packPut.outl2e2.enc (w0, w1, ()))) m v.1 v.2.1) (fun _ => rfl) (fun _ _ => rfl) (fun m v => by kernel_rfl) n v).symm
theorem packPut.eq (n : Nat) (x : PT packPut.con.ps) : evFuncO packPut.env Try.f62 packPut.body packPut.con.ps packPut.con.rs (packPut.lp n) n x = packPut.con.f n x := by kernel_rfl
theorem packPut.sound : SoundO Try.prog globs 62 packPut.con :=
  sound_byO (E := packPut.env) (c := packPut.body) (envOk (G := globs) (lc := [(72, packSize.con)]) (lo := [(71, [packOwn.con])]) (envB_spec (by kernel_rfl)) rfl rfl ⟨.inl ⟨packSize.sound, by kernel_rfl⟩, trivial⟩ rfl ⟨⟨⟨packOwn.sound, trivial⟩, by kernel_rfl⟩, trivial⟩ (by kernel_rfl) (by kernel_rfl)) Try.func62 (by kernel_rfl) (by kernel_rfl) (by kernel_rfl) packPut.lp (l := [(true, sub [1, 1, 0, 0, 0] packPut.body, packPut.nml2)]) (by kernel_rfl) (fun n => ⟨packPut.atl2 n, trivial⟩) packPut.eq
noncomputable def snapPut.b9 (fu : Nat) (next : (List Int) → (List S0) → Int → Int → S0 → Option ((List Int) × Int × Unit)) (k2 : (List Int) → Option ((List Int) × Int × Unit)) (b : List Int) (v : List S0) (vx2 : Int) (vx3 : Int) (b1 : S0) : Option ((List Int) × Int × Unit) :=
  cond (decide (vx3 < vx2)) (
    chk (ixOk v vx3) <|
    let e1 := ixL ((0 : Int), (0 : Int), (0 : Int), ()) v vx3
    let t2 := IntKind.u64.wrap (e1.1 - b1.1)
    (packPut fu b t2).bind fun r3 =>
    let t4 := IntKind.u64.wrap (e1.2.1 - b1.2.1)
    (packPut fu r3.1.1 t4).bind fun r5 =>
    (packPut fu r5.1.1 e1.2.2.1).bind fun r6 =>
    let t7 := IntKind.i64.wrap (vx3 + (1 : Int))
    next r6.1.1 v vx2 t7 e1) (
    k2 b)
noncomputable def snapPut.l9 (fu : Nat) (k2 : (List Int) → Option ((List Int) × Int × Unit)) : Nat → (List Int) → (List S0) → Int → Int → S0 → Option ((List Int) × Int × Unit)
  | 0, _, _, _, _, _ => none
  | m + 1, b, v, vx2, vx3, b1 => snapPut.b9 fu (snapPut.l9 fu k2 m) k2 b v vx2 vx3 b1
noncomputable def snapPut (fu : Nat) (sv : S1) : Option ((List Int) × Int × Unit) :=
  (snapMay fu sv).bind fun r1 =>
  cond (!r1.1) (
    some ([], (1 : Int), ())) (
    (packPut fu [] sv.1).bind fun r2 =>
    (packPut fu r2.1.1 sv.2.1).bind fun r3 =>
    cond sv.2.2.1 (
      chk (apOk r3.1.1 ([(1 : Int)]) 1) <|
      (packPut fu (r3.1.1 ++ ([(1 : Int)])) sv.2.2.2.1).bind fun r4 =>
      some (r4.1.1, (0 : Int), ())) (
      chk (apOk r3.1.1 ([(0 : Int)]) 1) <|
      let t5 := (sv.2.2.2.2.1.length : Int)
      (packPut fu (r3.1.1 ++ ([(0 : Int)])) (IntKind.u64.wrap t5)).bind fun r6 =>
      let t7 := (sv.2.2.2.2.1.length : Int)
      snapPut.l9 fu (fun bq2 => 
          some (bq2, (0 : Int), ())) fu r6.1.1 sv.2.2.2.2.1 t7 (0 : Int) ((0 : Int), (0 : Int), (0 : Int), ())))

noncomputable def snapPut.body : Code := Try.f53.body.getD .skip
abbrev snapPut.shl9 : Shp := ⟨[.u, .u, .u, .u, .o 4 (.int .u8), .p 1 0, .u, .u, .u, .u, .u, .u, .u, .u, .u, .u, .u, .u, .u, .u, .u, .u, .u, .u, .u, .u, .u, .u, .u, .u, .u, .u, .u, .u, .d (.slice kS0), .d (.int .i64), .d (.int .i64), .u, .u, .u, .u, .u, .u, .u, .u, .u, .u, .u, .u, .u, .u, .u, .u, .u, .u, .u, .u, .u, .u], [[.u, .u, .u, .u, .u], [.g kS0]]⟩
abbrev snapPut.outl9e2 : Shp := ⟨[.u, .u, .u, .u, .o 4 (.int .u8), .u, .u, .u, .u, .u, .u, .u, .u, .u, .u, .u, .u, .u, .u, .u, .u, .u, .u, .u, .u, .u, .u, .u, .u, .u, .u, .u, .u, .u, .u, .u, .u, .u, .u, .u, .u, .u, .u, .u, .u, .u, .u, .u, .u, .u, .u, .u, .u, .u, .u, .u, .u, .u, .u], []⟩
noncomputable def snapPut.nml9 : Norm := ⟨{ keep := [4, 5, 34, 35, 36], shut := [(34, (.slice kS0)), (35, (.int .i64)), (36, (.int .i64))], retag := [(4, 4, (.int .u8))], heap := 2, dead := [0], cshut := [(1, 0, (.int .u64)), (1, 1, (.int .u64)), (1, 2, (.int .u64))], cretag := [] }, [(2, { keep := [4], shut := [], retag := [(4, 4, (.int .u8))], heap := 0, dead := [], cshut := [], cretag := [] })]⟩
noncomputable def snapPut.con : Con := { ps := [kS1], rs := [(.slice (.int .u8)), (.int .i64)], f := fun n x => snapPut n x.1 }
noncomputable def snapPut.env : Env := { tys := [(77, ⟨kS1, 56⟩), (54, ⟨(.slice (.int .u8)), 24⟩), (37, ⟨(.int .i64), 8⟩), (27, ⟨(.int .u64), 8⟩), (4, ⟨.bool, 1⟩), (5, ⟨(.int .u8), 1⟩), (75, ⟨(.slice kS0), 24⟩), (99, ⟨kS0, 24⟩), (3, ⟨(.int .i64), 8⟩)], elems := [(54, 5), (75, 99)], ptrs := [], cons := [(61, snapMay.con)], objs := [(62, [packPut.con])], loops := [(9, snapPut.nml9)], cuts := [], globs := globs, base := 0 }
noncomputable def snapPut.lp (n : Nat) : LP (Kd.struct snapPut.con.rs).T := fun lo κ body nm K s =>
  cond (lo && Nat.beq κ 9)
    (match snapPut.shl9.dec s with
    | some v => snapPut.l9 n (fun w0 => K (.exit 0) (snapPut.outl9e2.enc (w0, ()))) n v.1 v.2.1 v.2.2.1 v.2.2.2.1 v.2.2.2.2.1
    | none => loops n (Kd.struct snapPut.con.rs).T lo κ body nm K s)
    (loops n (Kd.struct snapPut.con.rs).T lo κ body nm K s)
theorem snapPut.atl9 (n : Nat) (s : St) (K : Ex → St → Option (Kd.struct snapPut.con.rs).T) : snapPut.lp n true 9 (evK snapPut.env (snapPut.lp n) n (sub [1, 1, 1, 1, 1, 1, 0, 1, 0, 0] snapPut.body)) snapPut.nml9 K s = loops n (Kd.struct snapPut.con.rs).T true 9 (evK snapPut.env (snapPut.lp n) n (sub [1, 1, 1, 1, 1, 1, 0, 1, 0, 0] snapPut.body)) snapPut.nml9 K s := by
  show (match snapPut.shl9.dec s with | some v => snapPut.l9 n (fun w0 => K (.exit 0) (snapPut.outl9e2.enc (w0, ()))) n v.1 v.2.1 v.2.2.1 v.2.2.2.1 v.2.2.2.2.1 | none => loops n (Kd.struct snapPut.con.rs).T true 9 (evK snapPut.env (snapPut.lp n) n (sub [1, 1, 1, 1, 1, 1, 0, 1, 0, 0] snapPut.body)) snapPut.nml9 K s) = _
  cases h : snapPut.shl9.dec s with
  | none => rfl
  | some v =>
    rw [Shp.dec_enc h]
    exact (evLoop_eq (sh := snapPut.shl9) (body := evK snapPut.env (snapPut.lp n) n (sub [1, 1, 1, 1, 1, 1, 0, 1, 0, 0] snapPut.body)) (nm := snapPut.nml9) (K := K) (b := fun nx v => snapPut.b9 n (fun x0 x1 x2 x3 x4 => nx (x0, x1, x2, x3, x4, ())) (fun w0 => K (.exit 0) (snapPut.outl9e2.enc (w0, ()))) v.1 v.2.1 v.2.2.1 v.2.2.2.1 v.2.2.2.2.1) (l := fun m v => snapPut.l9 n (fun w0 => K (.exit 0) (snapPut.outl9e2.enc (w0, ()))) m v.1 v.2.1 v.2.2.1 v.2.2.2.1 v.2.2.2.2.1) (fun _ => rfl) (fun _ _ => rfl) (fun m v => by kernel_rfl) n v).symm
theorem snapPut.eq (n : Nat) (x : (Kd.struct snapPut.con.ps).T) : evFunc snapPut.env Try.f53 snapPut.body snapPut.con.ps snapPut.con.rs (snapPut.lp n) n x = snapPut.con.f n x := by kernel_rfl
theorem snapPut.sound : Sound Try.prog globs 53 snapPut.con :=
  sound_by (E := snapPut.env) (c := snapPut.body) (envOk (G := globs) (lc := [(61, snapMay.con)]) (lo := [(62, [packPut.con])]) (envB_spec (by kernel_rfl)) rfl rfl ⟨.inl ⟨snapMay.sound, by kernel_rfl⟩, trivial⟩ rfl ⟨⟨⟨packPut.sound, trivial⟩, by kernel_rfl⟩, trivial⟩ (by kernel_rfl) (by kernel_rfl)) Try.func53 (by kernel_rfl) snapPut.lp (l := [(true, sub [1, 1, 1, 1, 1, 1, 0, 1, 0, 0] snapPut.body, snapPut.nml9)]) (by kernel_rfl) (fun n => ⟨snapPut.atl9 n, trivial⟩) snapPut.eq
noncomputable def law16Fixed (fu : Nat) : Option (Bool × Unit) :=
  (snapPut fu ((0 : Int), (0 : Int), false, (0 : Int), [], ())).bind fun r1 =>
  let t2 := r1.1 == ([0, 0, 0, 0] : List Int)
  cond t2 (
    some (r1.2.1 == (0 : Int), ())) (
    some (false, ()))

noncomputable def law16Fixed.body : Code := Try.f50.body.getD .skip
noncomputable def law16Fixed.con : Con := { ps := [], rs := [.bool], f := fun n x => law16Fixed n }
noncomputable def law16Fixed.env : Env := { tys := [(4, ⟨.bool, 1⟩), (77, ⟨kS1, 56⟩), (9, ⟨.str, 16⟩), (54, ⟨(.slice (.int .u8)), 24⟩), (5, ⟨(.int .u8), 1⟩)], elems := [(54, 5)], ptrs := [], cons := [(53, snapPut.con)], objs := [], loops := [], cuts := [], globs := globs, base := 0 }
noncomputable def law16Fixed.lp (n : Nat) : LP (Kd.struct law16Fixed.con.rs).T := fun lo κ body nm K s =>
  loops n (Kd.struct law16Fixed.con.rs).T lo κ body nm K s
theorem law16Fixed.eq (n : Nat) (x : (Kd.struct law16Fixed.con.ps).T) : evFunc law16Fixed.env Try.f50 law16Fixed.body law16Fixed.con.ps law16Fixed.con.rs (law16Fixed.lp n) n x = law16Fixed.con.f n x := by kernel_rfl
theorem law16Fixed.sound : Sound Try.prog globs 50 law16Fixed.con :=
  sound_by (E := law16Fixed.env) (c := law16Fixed.body) (envOk (G := globs) (lc := [(53, snapPut.con)]) (lo := []) (envB_spec (by kernel_rfl)) rfl rfl ⟨.inl ⟨snapPut.sound, by kernel_rfl⟩, trivial⟩ rfl trivial (by kernel_rfl) (by kernel_rfl)) Try.func50 (by kernel_rfl) law16Fixed.lp (l := []) (by kernel_rfl) (fun n => trivial) law16Fixed.eq
noncomputable def slicesEqual.b4 (fu : Nat) (next : (List S0) → (List S0) → Int → Int → Option (Bool × Unit)) (k1 : Bool → Option (Bool × Unit)) (k2 : Unit → Option (Bool × Unit)) (s1 : List S0) (s2 : List S0) (v : Int) (vx2 : Int) : Option (Bool × Unit) :=
  cond (decide (vx2 < v)) (
    chk (ixOk s1 vx2) <|
    let e1 := ixL ((0 : Int), (0 : Int), (0 : Int), ()) s1 vx2
    chk (ixOk s2 vx2) <|
    let e2 := ixL ((0 : Int), (0 : Int), (0 : Int), ()) s2 vx2
    cond (!(Kd.eqv kS0 e1 e2)) (
      k1 false) (
      let t3 := IntKind.i64.wrap (vx2 + (1 : Int))
      next s1 s2 v t3)) (
    k2 ())
noncomputable def slicesEqual.l4 (fu : Nat) (k1 : Bool → Option (Bool × Unit)) (k2 : Unit → Option (Bool × Unit)) : Nat → (List S0) → (List S0) → Int → Int → Option (Bool × Unit)
  | 0, _, _, _, _ => none
  | m + 1, s1, s2, v, vx2 => slicesEqual.b4 fu (slicesEqual.l4 fu k1 k2 m) k1 k2 s1 s2 v vx2
noncomputable def slicesEqual (fu : Nat) (s1 : List S0) (s2 : List S0) : Option (Bool × Unit) :=
  let t1 := (s1.length : Int) != (s2.length : Int)
  cond t1 (
    some (false, ())) (
    slicesEqual.l4 fu (fun vq3 => 
        some (vq3, ())) (fun (_ : Unit) => 
        some (true, ())) fu s1 s2 (s1.length : Int) (0 : Int))

noncomputable def slicesEqual.body : Code := Try.f60.body.getD .skip
abbrev slicesEqual.shl4 : Shp := ⟨[.d (.slice kS0), .d (.slice kS0), .u, .u, .u, .u, .u, .u, .u, .u, .u, .u, .d (.int .i64), .d (.int .i64), .u, .u, .u, .u, .u, .u, .u, .u, .u, .u, .u, .u], []⟩
abbrev slicesEqual.outl4e1 : Shp := ⟨[.u, .u, .u, .u, .d .bool, .u, .u, .u, .u, .u, .u, .u, .u, .u, .u, .u, .u, .u, .u, .u, .u, .u, .u, .u, .u, .u], []⟩
abbrev slicesEqual.outl4e2 : Shp := ⟨[.u, .u, .u, .u, .u, .u, .u, .u, .u, .u, .u, .u, .u, .u, .u, .u, .u, .u, .u, .u, .u, .u, .u, .u, .u, .u], []⟩
noncomputable def slicesEqual.nml4 : Norm := ⟨{ keep := [0, 1, 12, 13], shut := [(0, (.slice kS0)), (1, (.slice kS0)), (12, (.int .i64)), (13, (.int .i64))], retag := [], heap := 0, dead := [], cshut := [], cretag := [] }, [(1, { keep := [4], shut := [(4, .bool)], retag := [], heap := 0, dead := [], cshut := [], cretag := [] }), (2, { keep := [], shut := [], retag := [], heap := 0, dead := [], cshut := [], cretag := [] })]⟩
noncomputable def slicesEqual.con : Con := { ps := [(.slice kS0), (.slice kS0)], rs := [.bool], f := fun n x => slicesEqual n x.1 x.2.1 }
noncomputable def slicesEqual.env : Env := { tys := [(4, ⟨.bool, 1⟩), (99, ⟨kS0, 24⟩), (3, ⟨(.int .i64), 8⟩)], elems := [(75, 99)], ptrs := [], cons := [], objs := [], loops := [(4, slicesEqual.nml4)], cuts := [], globs := globs, base := 0 }
noncomputable def slicesEqual.lp (n : Nat) : LP (Kd.struct slicesEqual.con.rs).T := fun lo κ body nm K s =>
  cond (lo && Nat.beq κ 4)
    (match slicesEqual.shl4.dec s with
    | some v => slicesEqual.l4 n (fun w0 => K .ret (slicesEqual.outl4e1.enc (w0, ()))) (fun _ => K (.exit 0) (slicesEqual.outl4e2.enc (()))) n v.1 v.2.1 v.2.2.1 v.2.2.2.1
    | none => loops n (Kd.struct slicesEqual.con.rs).T lo κ body nm K s)
    (loops n (Kd.struct slicesEqual.con.rs).T lo κ body nm K s)
theorem slicesEqual.atl4 (n : Nat) (s : St) (K : Ex → St → Option (Kd.struct slicesEqual.con.rs).T) : slicesEqual.lp n true 4 (evK slicesEqual.env (slicesEqual.lp n) n (sub [1, 1, 0, 1, 0, 0] slicesEqual.body)) slicesEqual.nml4 K s = loops n (Kd.struct slicesEqual.con.rs).T true 4 (evK slicesEqual.env (slicesEqual.lp n) n (sub [1, 1, 0, 1, 0, 0] slicesEqual.body)) slicesEqual.nml4 K s := by
  show (match slicesEqual.shl4.dec s with | some v => slicesEqual.l4 n (fun w0 => K .ret (slicesEqual.outl4e1.enc (w0, ()))) (fun _ => K (.exit 0) (slicesEqual.outl4e2.enc (()))) n v.1 v.2.1 v.2.2.1 v.2.2.2.1 | none => loops n (Kd.struct slicesEqual.con.rs).T true 4 (evK slicesEqual.env (slicesEqual.lp n) n (sub [1, 1, 0, 1, 0, 0] slicesEqual.body)) slicesEqual.nml4 K s) = _
  cases h : slicesEqual.shl4.dec s with
  | none => rfl
  | some v =>
    rw [Shp.dec_enc h]
    exact (evLoop_eq (sh := slicesEqual.shl4) (body := evK slicesEqual.env (slicesEqual.lp n) n (sub [1, 1, 0, 1, 0, 0] slicesEqual.body)) (nm := slicesEqual.nml4) (K := K) (b := fun nx v => slicesEqual.b4 n (fun x0 x1 x2 x3 => nx (x0, x1, x2, x3, ())) (fun w0 => K .ret (slicesEqual.outl4e1.enc (w0, ()))) (fun _ => K (.exit 0) (slicesEqual.outl4e2.enc (()))) v.1 v.2.1 v.2.2.1 v.2.2.2.1) (l := fun m v => slicesEqual.l4 n (fun w0 => K .ret (slicesEqual.outl4e1.enc (w0, ()))) (fun _ => K (.exit 0) (slicesEqual.outl4e2.enc (()))) m v.1 v.2.1 v.2.2.1 v.2.2.2.1) (fun _ => rfl) (fun _ _ => rfl) (fun m v => by kernel_rfl) n v).symm
theorem slicesEqual.eq (n : Nat) (x : (Kd.struct slicesEqual.con.ps).T) : evFunc slicesEqual.env Try.f60 slicesEqual.body slicesEqual.con.ps slicesEqual.con.rs (slicesEqual.lp n) n x = slicesEqual.con.f n x := by kernel_rfl
theorem slicesEqual.sound : Sound Try.prog globs 60 slicesEqual.con :=
  sound_by (E := slicesEqual.env) (c := slicesEqual.body) (envOk (G := globs) (lc := []) (lo := []) (envB_spec (by kernel_rfl)) rfl rfl trivial rfl trivial (by kernel_rfl) (by kernel_rfl)) Try.func60 (by kernel_rfl) slicesEqual.lp (l := [(true, sub [1, 1, 0, 1, 0, 0] slicesEqual.body, slicesEqual.nml4)]) (by kernel_rfl) (fun n => ⟨slicesEqual.atl4 n, trivial⟩) slicesEqual.eq
noncomputable def snapSame (fu : Nat) (a : S1) (b : S1) : Option (Bool × Unit) :=
  cond (a.1 == b.1) (
    cond (a.2.1 == b.2.1) (
      cond (a.2.2.1 == b.2.2.1) (
        cond (a.2.2.2.1 == b.2.2.2.1) (
          (slicesEqual fu a.2.2.2.2.1 b.2.2.2.2.1).bind fun r1 =>
          some (r1.1, ())) (
          some (false, ()))) (
        some (false, ()))) (
      some (false, ()))) (
    some (false, ()))

noncomputable def snapSame.body : Code := Try.f51.body.getD .skip
noncomputable def snapSame.con : Con := { ps := [kS1, kS1], rs := [.bool], f := fun n x => snapSame n x.1 x.2.1 }
noncomputable def snapSame.env : Env := { tys := [(77, ⟨kS1, 56⟩), (4, ⟨.bool, 1⟩), (27, ⟨(.int .u64), 8⟩), (75, ⟨(.slice kS0), 24⟩)], elems := [], ptrs := [], cons := [(60, slicesEqual.con)], objs := [], loops := [], cuts := [], globs := globs, base := 0 }
noncomputable def snapSame.lp (n : Nat) : LP (Kd.struct snapSame.con.rs).T := fun lo κ body nm K s =>
  loops n (Kd.struct snapSame.con.rs).T lo κ body nm K s
theorem snapSame.eq (n : Nat) (x : (Kd.struct snapSame.con.ps).T) : evFunc snapSame.env Try.f51 snapSame.body snapSame.con.ps snapSame.con.rs (snapSame.lp n) n x = snapSame.con.f n x := by kernel_rfl
theorem snapSame.sound : Sound Try.prog globs 51 snapSame.con :=
  sound_by (E := snapSame.env) (c := snapSame.body) (envOk (G := globs) (lc := [(60, slicesEqual.con)]) (lo := []) (envB_spec (by kernel_rfl)) rfl rfl ⟨.inl ⟨slicesEqual.sound, by kernel_rfl⟩, trivial⟩ rfl trivial (by kernel_rfl) (by kernel_rfl)) Try.func51 (by kernel_rfl) snapSame.lp (l := []) (by kernel_rfl) (fun n => trivial) snapSame.eq
noncomputable def ref15Same.b4 (fu : Nat) (next : Int → Int → S1 → S1 → Option (Bool × Unit)) (k1 : Bool → Option (Bool × Unit)) (k2 : Unit → Option (Bool × Unit)) (v : Int) (vx2 : Int) (b0 : S1) (b1 : S1) : Option (Bool × Unit) :=
  cond (decide (vx2 < v)) (
    chk (ixOk b0.2.2.2.2.1 vx2) <|
    let e1 := ixL ((0 : Int), (0 : Int), (0 : Int), ()) b0.2.2.2.2.1 vx2
    chk (ixOk b1.2.2.2.2.1 vx2) <|
    let e2 := ixL ((0 : Int), (0 : Int), (0 : Int), ()) b1.2.2.2.2.1 vx2
    cond (!(Kd.eqv kS0 e1 e2)) (
      k1 false) (
      let t3 := IntKind.i64.wrap (vx2 + (1 : Int))
      next v t3 b0 b1)) (
    k2 ())
noncomputable def ref15Same.l4 (fu : Nat) (k1 : Bool → Option (Bool × Unit)) (k2 : Unit → Option (Bool × Unit)) : Nat → Int → Int → S1 → S1 → Option (Bool × Unit)
  | 0, _, _, _, _ => none
  | m + 1, v, vx2, b0, b1 => ref15Same.b4 fu (ref15Same.l4 fu k1 k2 m) k1 k2 v vx2 b0 b1
noncomputable def ref15Same (fu : Nat) (a : S1) (b : S1) : Option (Bool × Unit) :=
  cond (a.1 != b.1) (
    some (false, ())) (
    cond (a.2.1 != b.2.1) (
      some (false, ())) (
      cond (!(a.2.2.1 == b.2.2.1)) (
        some (false, ())) (
        cond (a.2.2.2.1 != b.2.2.2.1) (
          some (false, ())) (
          let t1 := (a.2.2.2.2.1.length : Int)
          let t2 := (b.2.2.2.2.1.length : Int)
          cond (t1 != t2) (
            some (false, ())) (
            let t3 := (a.2.2.2.2.1.length : Int)
            ref15Same.l4 fu (fun vq3 => 
                some (vq3, ())) (fun (_ : Unit) => 
                some (true, ())) fu t3 (0 : Int) a b)))))

noncomputable def ref15Same.body : Code := Try.f52.body.getD .skip
abbrev ref15Same.shl4 : Shp := ⟨[.u, .u, .p 0 0, .p 1 0, .u, .u, .u, .u, .u, .u, .u, .u, .u, .u, .u, .u, .u, .u, .u, .u, .u, .u, .u, .u, .u, .u, .u, .u, .u, .u, .u, .u, .u, .u, .u, .u, .u, .u, .u, .u, .u, .u, .u, .d (.int .i64), .d (.int .i64), .u, .u, .u, .u, .u, .u, .u, .u, .u, .u, .u, .u, .u, .u], [[.g kS1], [.g kS1]]⟩
abbrev ref15Same.outl4e1 : Shp := ⟨[.u, .u, .u, .u, .d .bool, .u, .u, .u, .u, .u, .u, .u, .u, .u, .u, .u, .u, .u, .u, .u, .u, .u, .u, .u, .u, .u, .u, .u, .u, .u, .u, .u, .u, .u, .u, .u, .u, .u, .u, .u, .u, .u, .u, .u, .u, .u, .u, .u, .u, .u, .u, .u, .u, .u, .u, .u, .u, .u, .u], []⟩
abbrev ref15Same.outl4e2 : Shp := ⟨[.u, .u, .u, .u, .u, .u, .u, .u, .u, .u, .u, .u, .u, .u, .u, .u, .u, .u, .u, .u, .u, .u, .u, .u, .u, .u, .u, .u, .u, .u, .u, .u, .u, .u, .u, .u, .u, .u, .u, .u, .u, .u, .u, .u, .u, .u, .u, .u, .u, .u, .u, .u, .u, .u, .u, .u, .u, .u, .u], []⟩
noncomputable def ref15Same.nml4 : Norm := ⟨{ keep := [2, 3, 43, 44], shut := [(43, (.int .i64)), (44, (.int .i64))], retag := [], heap := 2, dead := [], cshut := [(0, 0, (.int .u64)), (0, 1, (.int .u64)), (0, 2, .bool), (0, 3, (.int .u64)), (0, 4, (.slice kS0)), (1, 0, (.int .u64)), (1, 1, (.int .u64)), (1, 2, .bool), (1, 3, (.int .u64)), (1, 4, (.slice kS0))], cretag := [] }, [(1, { keep := [4], shut := [(4, .bool)], retag := [], heap := 0, dead := [], cshut := [], cretag := [] }), (2, { keep := [], shut := [], retag := [], heap := 0, dead := [], cshut := [], cretag := [] })]⟩
noncomputable def ref15Same.con : Con := { ps := [kS1, kS1], rs := [.bool], f := fun n x => ref15Same n x.1 x.2.1 }
noncomputable def ref15Same.env : Env := { tys := [(77, ⟨kS1, 56⟩), (4, ⟨.bool, 1⟩), (27, ⟨(.int .u64), 8⟩), (75, ⟨(.slice kS0), 24⟩), (99, ⟨kS0, 24⟩), (3, ⟨(.int .i64), 8⟩)], elems := [(75, 99)], ptrs := [], cons := [], objs := [], loops := [(4, ref15Same.nml4)], cuts := [], globs := globs, base := 0 }
noncomputable def ref15Same.lp (n : Nat) : LP (Kd.struct ref15Same.con.rs).T := fun lo κ body nm K s =>
  cond (lo && Nat.beq κ 4)
    (match ref15Same.shl4.dec s with
    | some v => ref15Same.l4 n (fun w0 => K .ret (ref15Same.outl4e1.enc (w0, ()))) (fun _ => K (.exit 0) (ref15Same.outl4e2.enc (()))) n v.1 v.2.1 v.2.2.1 v.2.2.2.1
    | none => loops n (Kd.struct ref15Same.con.rs).T lo κ body nm K s)
    (loops n (Kd.struct ref15Same.con.rs).T lo κ body nm K s)
theorem ref15Same.atl4 (n : Nat) (s : St) (K : Ex → St → Option (Kd.struct ref15Same.con.rs).T) : ref15Same.lp n true 4 (evK ref15Same.env (ref15Same.lp n) n (sub [1, 1, 0, 1, 0, 0] ref15Same.body)) ref15Same.nml4 K s = loops n (Kd.struct ref15Same.con.rs).T true 4 (evK ref15Same.env (ref15Same.lp n) n (sub [1, 1, 0, 1, 0, 0] ref15Same.body)) ref15Same.nml4 K s := by
  show (match ref15Same.shl4.dec s with | some v => ref15Same.l4 n (fun w0 => K .ret (ref15Same.outl4e1.enc (w0, ()))) (fun _ => K (.exit 0) (ref15Same.outl4e2.enc (()))) n v.1 v.2.1 v.2.2.1 v.2.2.2.1 | none => loops n (Kd.struct ref15Same.con.rs).T true 4 (evK ref15Same.env (ref15Same.lp n) n (sub [1, 1, 0, 1, 0, 0] ref15Same.body)) ref15Same.nml4 K s) = _
  cases h : ref15Same.shl4.dec s with
  | none => rfl
  | some v =>
    rw [Shp.dec_enc h]
    exact (evLoop_eq (sh := ref15Same.shl4) (body := evK ref15Same.env (ref15Same.lp n) n (sub [1, 1, 0, 1, 0, 0] ref15Same.body)) (nm := ref15Same.nml4) (K := K) (b := fun nx v => ref15Same.b4 n (fun x0 x1 x2 x3 => nx (x0, x1, x2, x3, ())) (fun w0 => K .ret (ref15Same.outl4e1.enc (w0, ()))) (fun _ => K (.exit 0) (ref15Same.outl4e2.enc (()))) v.1 v.2.1 v.2.2.1 v.2.2.2.1) (l := fun m v => ref15Same.l4 n (fun w0 => K .ret (ref15Same.outl4e1.enc (w0, ()))) (fun _ => K (.exit 0) (ref15Same.outl4e2.enc (()))) m v.1 v.2.1 v.2.2.1 v.2.2.2.1) (fun _ => rfl) (fun _ _ => rfl) (fun m v => by kernel_rfl) n v).symm
theorem ref15Same.eq (n : Nat) (x : (Kd.struct ref15Same.con.ps).T) : evFunc ref15Same.env Try.f52 ref15Same.body ref15Same.con.ps ref15Same.con.rs (ref15Same.lp n) n x = ref15Same.con.f n x := by kernel_rfl
theorem ref15Same.sound : Sound Try.prog globs 52 ref15Same.con :=
  sound_by (E := ref15Same.env) (c := ref15Same.body) (envOk (G := globs) (lc := []) (lo := []) (envB_spec (by kernel_rfl)) rfl rfl trivial rfl trivial (by kernel_rfl) (by kernel_rfl)) Try.func52 (by kernel_rfl) ref15Same.lp (l := [(true, sub [1, 1, 0, 1, 0, 0] ref15Same.body, ref15Same.nml4)]) (by kernel_rfl) (fun n => ⟨ref15Same.atl4 n, trivial⟩) ref15Same.eq
noncomputable def law16SnapSame (fu : Nat) (sv : S1) (tv : S1) : Option (Bool × Unit) :=
  let t1 := (sv.2.2.2.2.1.length : Int)
  let t2 := decide (t1 > (200 : Int))
  cond t2 (
    (law16Fixed fu).bind fun r3 =>
    some (r3.1, ())) (
    let t4 := (tv.2.2.2.2.1.length : Int)
    let t5 := decide (t4 > (200 : Int))
    cond t5 (
      (law16Fixed fu).bind fun r6 =>
      some (r6.1, ())) (
      (law16Fixed fu).bind fun r7 =>
      cond r7.1 (
        (snapSame fu sv tv).bind fun r8 =>
        (ref15Same fu sv tv).bind fun r9 =>
        cond (r8.1 == r9.1) (
          (snapSame fu sv sv).bind fun r10 =>
          some (r10.1, ())) (
          some (false, ()))) (
        some (false, ()))))

noncomputable def law16SnapSame.body : Code := Try.f12.body.getD .skip
noncomputable def law16SnapSame.con : Con := { ps := [kS1, kS1], rs := [.bool], f := fun n x => law16SnapSame n x.1 x.2.1 }
noncomputable def law16SnapSame.env : Env := { tys := [(77, ⟨kS1, 56⟩), (4, ⟨.bool, 1⟩), (75, ⟨(.slice kS0), 24⟩), (99, ⟨kS0, 24⟩)], elems := [(75, 99)], ptrs := [], cons := [(50, law16Fixed.con), (51, snapSame.con), (52, ref15Same.con)], objs := [], loops := [], cuts := [], globs := globs, base := 0 }
noncomputable def law16SnapSame.lp (n : Nat) : LP (Kd.struct law16SnapSame.con.rs).T := fun lo κ body nm K s =>
  loops n (Kd.struct law16SnapSame.con.rs).T lo κ body nm K s
theorem law16SnapSame.eq (n : Nat) (x : (Kd.struct law16SnapSame.con.ps).T) : evFunc law16SnapSame.env Try.f12 law16SnapSame.body law16SnapSame.con.ps law16SnapSame.con.rs (law16SnapSame.lp n) n x = law16SnapSame.con.f n x := by kernel_rfl
theorem law16SnapSame.sound : Sound Try.prog globs 12 law16SnapSame.con :=
  sound_by (E := law16SnapSame.env) (c := law16SnapSame.body) (envOk (G := globs) (lc := [(50, law16Fixed.con), (51, snapSame.con), (52, ref15Same.con)]) (lo := []) (envB_spec (by kernel_rfl)) rfl rfl ⟨.inl ⟨law16Fixed.sound, by kernel_rfl⟩, ⟨.inl ⟨snapSame.sound, by kernel_rfl⟩, ⟨.inl ⟨ref15Same.sound, by kernel_rfl⟩, trivial⟩⟩⟩ rfl trivial (by kernel_rfl) (by kernel_rfl)) Try.func12 (by kernel_rfl) law16SnapSame.lp (l := []) (by kernel_rfl) (fun n => trivial) law16SnapSame.eq
noncomputable def ref16May.b2 (fu : Nat) (next : Int → S1 → Option (Bool × Unit)) (k1 : Bool → Option (Bool × Unit)) (k2 : S1 → Option (Bool × Unit)) (i : Int) (b0 : S1) : Option (Bool × Unit) :=
  let t1 := (b0.2.2.2.2.1.length : Int)
  cond (decide (i < t1)) (
    chk (ixOk b0.2.2.2.2.1 i) <|
    let e2 := ixL ((0 : Int), (0 : Int), (0 : Int), ()) b0.2.2.2.2.1 i
    let t3 := IntKind.i64.wrap (i - (1 : Int))
    chk (ixOk b0.2.2.2.2.1 t3) <|
    let e4 := ixL ((0 : Int), (0 : Int), (0 : Int), ()) b0.2.2.2.2.1 t3
    cond (decide (e2.1 ≤ e4.1)) (
      k1 false) (
      chk (ixOk b0.2.2.2.2.1 i) <|
      let e5 := ixL ((0 : Int), (0 : Int), (0 : Int), ()) b0.2.2.2.2.1 i
      let t6 := IntKind.i64.wrap (i - (1 : Int))
      chk (ixOk b0.2.2.2.2.1 t6) <|
      let e7 := ixL ((0 : Int), (0 : Int), (0 : Int), ()) b0.2.2.2.2.1 t6
      cond (decide (e5.2.1 < e7.2.1)) (
        k1 false) (
        let t8 := IntKind.i64.wrap (i + (1 : Int))
        next t8 b0))) (
    k2 b0)
noncomputable def ref16May.l2 (fu : Nat) (k1 : Bool → Option (Bool × Unit)) (k2 : S1 → Option (Bool × Unit)) : Nat → Int → S1 → Option (Bool × Unit)
  | 0, _, _ => none
  | m + 1, i, b0 => ref16May.b2 fu (ref16May.l2 fu k1 k2 m) k1 k2 i b0
noncomputable def ref16May.j8 (fu : Nat) (k1 : Bool → Option (Bool × Unit)) (b0 : S1) : Option (Bool × Unit) :=
  let t1 := decide (b0.1 ≤ (1099511627776 : Int))
  cond t1 (
    let t2 := decide (b0.2.1 ≤ (1099511627776 : Int))
    cond t2 (
      let t3 := (b0.2.2.2.2.1.length : Int)
      k1 (decide (t3 ≤ (64 : Int)))) (
      k1 false)) (
    k1 false)
noncomputable def ref16May (fu : Nat) (sv : S1) : Option (Bool × Unit) :=
  ref16May.l2 fu (fun vq3 => 
      some (vq3, ())) (fun b0q4 => 
      cond b0q4.2.2.1 (
        let t1 := (b0q4.2.2.2.2.1.length : Int)
        cond (decide (t1 > (0 : Int))) (
          some (false, ())) (
          cond (!b0q4.2.2.1) (
            let t2 := b0q4.2.2.2.1 != (0 : Int)
            cond t2 (
              some (false, ())) (
              ref16May.j8 fu (fun vq5 => 
                  some (vq5, ())) b0q4)) (
            ref16May.j8 fu (fun vq6 => 
                some (vq6, ())) b0q4))) (
        cond (!b0q4.2.2.1) (
          let t3 := b0q4.2.2.2.1 != (0 : Int)
          cond t3 (
            some (false, ())) (
            ref16May.j8 fu (fun vq7 => 
                some (vq7, ())) b0q4)) (
          ref16May.j8 fu (fun vq8 => 
              some (vq8, ())) b0q4))) fu (1 : Int) sv

noncomputable def ref16May.body : Code := Try.f63.body.getD .skip
abbrev ref16May.shl2 : Shp := ⟨[.u, .p 0 0, .u, .d (.int .i64), .u, .u, .u, .u, .u, .u, .u, .u, .u, .u, .u, .u, .u, .u, .u, .u, .u, .u, .u, .u, .u, .u, .u, .u, .u, .u, .u, .u, .u, .u, .u, .u, .u, .u, .u, .u, .u, .u, .u, .u, .u, .u, .u, .u, .u, .u, .u, .u, .u, .u, .u, .u, .u, .u, .u, .u, .u, .u, .u, .u, .u, .u, .u, .u, .u, .u, .u, .u, .u], [[.g kS1]]⟩
abbrev ref16May.outl2e1 : Shp := ⟨[.u, .u, .d .bool, .u, .u, .u, .u, .u, .u, .u, .u, .u, .u, .u, .u, .u, .u, .u, .u, .u, .u, .u, .u, .u, .u, .u, .u, .u, .u, .u, .u, .u, .u, .u, .u, .u, .u, .u, .u, .u, .u, .u, .u, .u, .u, .u, .u, .u, .u, .u, .u, .u, .u, .u, .u, .u, .u, .u, .u, .u, .u, .u, .u, .u, .u, .u, .u, .u, .u, .u, .u, .u, .u], []⟩
abbrev ref16May.outl2e2 : Shp := ⟨[.u, .p 0 0, .u, .u, .u, .u, .u, .u, .u, .u, .u, .u, .u, .u, .u, .u, .u, .u, .u, .u, .u, .u, .u, .u, .u, .u, .u, .u, .u, .u, .u, .u, .u, .u, .u, .u, .u, .u, .u, .u, .u, .u, .u, .u, .u, .u, .u, .u, .u, .u, .u, .u, .u, .u, .u, .u, .u, .u, .u, .u, .u, .u, .u, .u, .u, .u, .u, .u, .u, .u, .u, .u, .u], [[.g kS1]]⟩
noncomputable def ref16May.nml2 : Norm := ⟨{ keep := [1, 3], shut := [(3, (.int .i64))], retag := [], heap := 1, dead := [], cshut := [(0, 0, (.int .u64)), (0, 1, (.int .u64)), (0, 2, .bool), (0, 3, (.int .u64)), (0, 4, (.slice kS0))], cretag := [] }, [(1, { keep := [2], shut := [(2, .bool)], retag := [], heap := 0, dead := [], cshut := [], cretag := [] }), (2, { keep := [1], shut := [], retag := [], heap := 1, dead := [], cshut := [(0, 0, (.int .u64)), (0, 1, (.int .u64)), (0, 2, .bool), (0, 3, (.int .u64)), (0, 4, (.slice kS0))], cretag := [] })]⟩
abbrev ref16May.shj8 : Shp := ⟨[.u, .p 0 0, .u, .u, .u, .u, .u, .u, .u, .u, .u, .u, .u, .u, .u, .u, .u, .u, .u, .u, .u, .u, .u, .u, .u, .u, .u, .u, .u, .u, .u, .u, .u, .u, .u, .u, .u, .u, .u, .u, .u, .u, .u, .u, .u, .u, .u, .u, .u, .u, .u, .u, .u, .u, .u, .u, .u, .u, .u, .u, .u, .u, .u, .u, .u, .u, .u, .u, .u, .u, .u, .u, .u], [[.g kS1]]⟩
abbrev ref16May.outj8e1 : Shp := ⟨[.u, .u, .d .bool, .u, .u, .u, .u, .u, .u, .u, .u, .u, .u, .u, .u, .u, .u, .u, .u, .u, .u, .u, .u, .u, .u, .u, .u, .u, .u, .u, .u, .u, .u, .u, .u, .u, .u, .u, .u, .u, .u, .u, .u, .u, .u, .u, .u, .u, .u, .u, .u, .u, .u, .u, .u, .u, .u, .u, .u, .u, .u, .u, .u, .u, .u, .u, .u, .u, .u, .u, .u, .u, .u], []⟩
noncomputable def ref16May.nmj8 : Norm := ⟨{ keep := [1], shut := [], retag := [], heap := 1, dead := [], cshut := [(0, 0, (.int .u64)), (0, 1, (.int .u64)), (0, 2, .bool), (0, 3, (.int .u64)), (0, 4, (.slice kS0))], cretag := [] }, [(1, { keep := [2], shut := [(2, .bool)], retag := [], heap := 0, dead := [], cshut := [], cretag := [] })]⟩
noncomputable def ref16May.con : Con := { ps := [kS1], rs := [.bool], f := fun n x => ref16May n x.1 }
noncomputable def ref16May.env : Env := { tys := [(77, ⟨kS1, 56⟩), (4, ⟨.bool, 1⟩), (3, ⟨(.int .i64), 8⟩), (75, ⟨(.slice kS0), 24⟩), (99, ⟨kS0, 24⟩), (27, ⟨(.int .u64), 8⟩)], elems := [(75, 99)], ptrs := [], cons := [], objs := [], loops := [(2, ref16May.nml2)], cuts := [(8, ref16May.nmj8)], globs := globs, base := 0 }
noncomputable def ref16May.lp (n : Nat) : LP (Kd.struct ref16May.con.rs).T := fun lo κ body nm K s =>
  cond (lo && Nat.beq κ 2)
    (match ref16May.shl2.dec s with
    | some v => ref16May.l2 n (fun w0 => K .ret (ref16May.outl2e1.enc (w0, ()))) (fun w0 => K (.exit 0) (ref16May.outl2e2.enc (w0, ()))) n v.1 v.2.1
    | none => loops n (Kd.struct ref16May.con.rs).T lo κ body nm K s)
    (cond (!lo && Nat.beq κ 8)
    (match ref16May.shj8.dec s with
    | some v => ref16May.j8 n (fun w0 => K .ret (ref16May.outj8e1.enc (w0, ()))) v.1
    | none => loops n (Kd.struct ref16May.con.rs).T lo κ body nm K s)
    (loops n (Kd.struct ref16May.con.rs).T lo κ body nm K s))
theorem ref16May.atl2 (n : Nat) (s : St) (K : Ex → St → Option (Kd.struct ref16May.con.rs).T) : ref16May.lp n true 2 (evK ref16May.env (ref16May.lp n) n (sub [1, 0, 1, 0, 0] ref16May.body)) ref16May.nml2 K s = loops n (Kd.struct ref16May.con.rs).T true 2 (evK ref16May.env (ref16May.lp n) n (sub [1, 0, 1, 0, 0] ref16May.body)) ref16May.nml2 K s := by
  show (match ref16May.shl2.dec s with | some v => ref16May.l2 n (fun w0 => K .ret (ref16May.outl2e1.enc (w0, ()))) (fun w0 => K (.exit 0) (ref16May.outl2e2.enc (w0, ()))) n v.1 v.2.1 | none => loops n (Kd.struct ref16May.con.rs).T true 2 (evK ref16May.env (ref16May.lp n) n (sub [1, 0, 1, 0, 0] ref16May.body)) ref16May.nml2 K s) = _
  cases h : ref16May.shl2.dec s with
  | none => rfl
  | some v =>
    rw [Shp.dec_enc h]
    exact (evLoop_eq (sh := ref16May.shl2) (body := evK ref16May.env (ref16May.lp n) n (sub [1, 0, 1, 0, 0] ref16May.body)) (nm := ref16May.nml2) (K := K) (b := fun nx v => ref16May.b2 n (fun x0 x1 => nx (x0, x1, ())) (fun w0 => K .ret (ref16May.outl2e1.enc (w0, ()))) (fun w0 => K (.exit 0) (ref16May.outl2e2.enc (w0, ()))) v.1 v.2.1) (l := fun m v => ref16May.l2 n (fun w0 => K .ret (ref16May.outl2e1.enc (w0, ()))) (fun w0 => K (.exit 0) (ref16May.outl2e2.enc (w0, ()))) m v.1 v.2.1) (fun _ => rfl) (fun _ _ => rfl) (fun m v => by kernel_rfl) n v).symm
theorem ref16May.atj8 (n : Nat) (s : St) (K : Ex → St → Option (Kd.struct ref16May.con.rs).T) : ref16May.lp n false 8 (evK ref16May.env (ref16May.lp n) n (sub [1, 1, 1] ref16May.body)) ref16May.nmj8 K s = loops n (Kd.struct ref16May.con.rs).T false 8 (evK ref16May.env (ref16May.lp n) n (sub [1, 1, 1] ref16May.body)) ref16May.nmj8 K s := by
  show (match ref16May.shj8.dec s with | some v => ref16May.j8 n (fun w0 => K .ret (ref16May.outj8e1.enc (w0, ()))) v.1 | none => loops n (Kd.struct ref16May.con.rs).T false 8 (evK ref16May.env (ref16May.lp n) n (sub [1, 1, 1] ref16May.body)) ref16May.nmj8 K s) = _
  cases h : ref16May.shj8.dec s with
  | none => rfl
  | some v =>
    rw [Shp.dec_enc h]
    kernel_rfl
theorem ref16May.eq (n : Nat) (x : (Kd.struct ref16May.con.ps).T) : evFunc ref16May.env Try.f63 ref16May.body ref16May.con.ps ref16May.con.rs (ref16May.lp n) n x = ref16May.con.f n x := by kernel_rfl
theorem ref16May.sound : Sound Try.prog globs 63 ref16May.con :=
  sound_by (E := ref16May.env) (c := ref16May.body) (envOk (G := globs) (lc := []) (lo := []) (envB_spec (by kernel_rfl)) rfl rfl trivial rfl trivial (by kernel_rfl) (by kernel_rfl)) Try.func63 (by kernel_rfl) ref16May.lp (l := [(true, sub [1, 0, 1, 0, 0] ref16May.body, ref16May.nml2), (false, sub [1, 1, 1] ref16May.body, ref16May.nmj8)]) (by kernel_rfl) (fun n => ⟨ref16May.atl2 n, ⟨ref16May.atj8 n, trivial⟩⟩) ref16May.eq
noncomputable def ref03Put.b3 (fu : Nat) (next : Int → (List Int) → Option (((List Int) × Unit) × (Unit))) (k2 : Int → (List Int) → Option (((List Int) × Unit) × (Unit))) (n : Int) (out : List Int) : Option (((List Int) × Unit) × (Unit)) :=
  cond (decide (n ≥ (128 : Int))) (
    let t1 := IntKind.u64.wrap (Int.tmod n (128 : Int) + (128 : Int))
    chk (apOk out ([IntKind.u8.wrap t1]) 1) <|
    let t2 := out ++ ([IntKind.u8.wrap t1])
    let t3 := IntKind.u64.wrap (Int.tdiv n (128 : Int))
    next t3 t2) (
    k2 n out)
noncomputable def ref03Put.l3 (fu : Nat) (k2 : Int → (List Int) → Option (((List Int) × Unit) × (Unit))) : Nat → Int → (List Int) → Option (((List Int) × Unit) × (Unit))
  | 0, _, _ => none
  | m + 1, n, out => ref03Put.b3 fu (ref03Put.l3 fu k2 m) k2 n out
noncomputable def ref03Put (fu : Nat) (b : List Int) (n : Int) : Option (((List Int) × Unit) × (Unit)) :=
  chk (apOk [] b 1) <|
  ref03Put.l3 fu (fun nq2 outq2 => 
      chk (apOk outq2 ([IntKind.u8.wrap nq2]) 1) <|
      let t1 := outq2 ++ ([IntKind.u8.wrap nq2])
      some ((t1, ()), (()))) fu n ([] ++ b)

noncomputable def ref03Put.body : Code := Try.f64.body.getD .skip
abbrev ref03Put.shl3 : Shp := ⟨[.u, .d (.int .u64), .u, .u, .u, .o 5 (.int .u8), .u, .u, .u, .u, .u, .u, .u, .u, .u, .u, .u, .u, .u, .u, .u, .u, .u, .u, .u, .u], []⟩
abbrev ref03Put.outl3e2 : Shp := ⟨[.u, .d (.int .u64), .u, .u, .u, .o 5 (.int .u8), .u, .u, .u, .u, .u, .u, .u, .u, .u, .u, .u, .u, .u, .u, .u, .u, .u, .u, .u, .u], []⟩
noncomputable def ref03Put.nml3 : Norm := ⟨{ keep := [1, 5], shut := [(1, (.int .u64))], retag := [(5, 5, (.int .u8))], heap := 0, dead := [], cshut := [], cretag := [] }, [(2, { keep := [1, 5], shut := [(1, (.int .u64))], retag := [(5, 5, (.int .u8))], heap := 0, dead := [], cshut := [], cretag := [] })]⟩
noncomputable def ref03Put.con : OCon := { ps := [.dat (.slice (.int .u8)), .dat (.int .u64)], rs := [.own (.int .u8)], f := fun n x => ref03Put n x.1 x.2.1 }
noncomputable def ref03Put.env : Env := { tys := [(54, ⟨(.slice (.int .u8)), 24⟩), (5, ⟨(.int .u8), 1⟩), (27, ⟨(.int .u64), 8⟩)], elems := [(54, 5)], ptrs := [], cons := [], objs := [], loops := [(3, ref03Put.nml3)], cuts := [], globs := globs, base := 0 }
noncomputable def ref03Put.lp (n : Nat) : LP (RT ref03Put.con.rs × BT ref03Put.con.ps) := fun lo κ body nm K s =>
  cond (lo && Nat.beq κ 3)
    (match ref03Put.shl3.dec s with
    | some v => ref03Put.l3 n (fun w0 w1 => K (.exit 0) (ref03Put.outl3e2.enc (w0, w1, ()))) n v.1 v.2.1
    | none => loops n (RT ref03Put.con.rs × BT ref03Put.con.ps) lo κ body nm K s)
    (loops n (RT ref03Put.con.rs × BT ref03Put.con.ps) lo κ body nm K s)
theorem ref03Put.atl3 (n : Nat) (s : St) (K : Ex → St → Option (RT ref03Put.con.rs × BT ref03Put.con.ps)) : ref03Put.lp n true 3 (evK ref03Put.env (ref03Put.lp n) n (sub [1, 1, 1, 0, 0, 0] ref03Put.body)) ref03Put.nml3 K s = loops n (RT ref03Put.con.rs × BT ref03Put.con.ps) true 3 (evK ref03Put.env (ref03Put.lp n) n (sub [1, 1, 1, 0, 0, 0] ref03Put.body)) ref03Put.nml3 K s := by
  show (match ref03Put.shl3.dec s with | some v => ref03Put.l3 n (fun w0 w1 => K (.exit 0) (ref03Put.outl3e2.enc (w0, w1, ()))) n v.1 v.2.1 | none => loops n (RT ref03Put.con.rs × BT ref03Put.con.ps) true 3 (evK ref03Put.env (ref03Put.lp n) n (sub [1, 1, 1, 0, 0, 0] ref03Put.body)) ref03Put.nml3 K s) = _
  cases h : ref03Put.shl3.dec s with
  | none => rfl
  | some v =>
    rw [Shp.dec_enc h]
    exact (evLoop_eq (sh := ref03Put.shl3) (body := evK ref03Put.env (ref03Put.lp n) n (sub [1, 1, 1, 0, 0, 0] ref03Put.body)) (nm := ref03Put.nml3) (K := K) (b := fun nx v => ref03Put.b3 n (fun x0 x1 => nx (x0, x1, ())) (fun w0 w1 => K (.exit 0) (ref03Put.outl3e2.enc (w0, w1, ()))) v.1 v.2.1) (l := fun m v => ref03Put.l3 n (fun w0 w1 => K (.exit 0) (ref03Put.outl3e2.enc (w0, w1, ()))) m v.1 v.2.1) (fun _ => rfl) (fun _ _ => rfl) (fun m v => by kernel_rfl) n v).symm
theorem ref03Put.eq (n : Nat) (x : PT ref03Put.con.ps) : evFuncO ref03Put.env Try.f64 ref03Put.body ref03Put.con.ps ref03Put.con.rs (ref03Put.lp n) n x = ref03Put.con.f n x := by kernel_rfl
theorem ref03Put.sound : SoundO Try.prog globs 64 ref03Put.con :=
  sound_byO (E := ref03Put.env) (c := ref03Put.body) (envOk (G := globs) (lc := []) (lo := []) (envB_spec (by kernel_rfl)) rfl rfl trivial rfl trivial (by kernel_rfl) (by kernel_rfl)) Try.func64 (by kernel_rfl) (by kernel_rfl) (by kernel_rfl) ref03Put.lp (l := [(true, sub [1, 1, 1, 0, 0, 0] ref03Put.body, ref03Put.nml3)]) (by kernel_rfl) (fun n => ⟨ref03Put.atl3 n, trivial⟩) ref03Put.eq
noncomputable def ref16Put.b11 (fu : Nat) (next : (List Int) → Int → Int → S1 → Option ((List Int) × Int × Unit)) (k2 : (List Int) → Option ((List Int) × Int × Unit)) (b : List Int) (v : Int) (vx2 : Int) (b0 : S1) : Option ((List Int) × Int × Unit) :=
  cond (decide (vx2 < v)) (
    chk (ixOk b0.2.2.2.2.1 vx2) <|
    let e1 := ixL ((0 : Int), (0 : Int), (0 : Int), ()) b0.2.2.2.2.1 vx2
    chk (ixOk b0.2.2.2.2.1 vx2) <|
    let e2 := ixL ((0 : Int), (0 : Int), (0 : Int), ()) b0.2.2.2.2.1 vx2
    cond (decide (vx2 > (0 : Int))) (
      let t3 := IntKind.i64.wrap (vx2 - (1 : Int))
      chk (ixOk b0.2.2.2.2.1 t3) <|
      let e4 := ixL ((0 : Int), (0 : Int), (0 : Int), ()) b0.2.2.2.2.1 t3
      let t5 := IntKind.u64.wrap (e1.1 - e4.1)
      let t6 := IntKind.i64.wrap (vx2 - (1 : Int))
      chk (ixOk b0.2.2.2.2.1 t6) <|
      let e7 := ixL ((0 : Int), (0 : Int), (0 : Int), ()) b0.2.2.2.2.1 t6
      let t8 := IntKind.u64.wrap (e2.2.1 - e7.2.1)
      (ref03Put fu b t5).bind fun r9 =>
      (ref03Put fu r9.1.1 t8).bind fun r10 =>
      chk (ixOk b0.2.2.2.2.1 vx2) <|
      let e11 := ixL ((0 : Int), (0 : Int), (0 : Int), ()) b0.2.2.2.2.1 vx2
      (ref03Put fu r10.1.1 e11.2.2.1).bind fun r12 =>
      let t13 := IntKind.i64.wrap (vx2 + (1 : Int))
      next r12.1.1 v t13 b0) (
      (ref03Put fu b e1.1).bind fun r14 =>
      (ref03Put fu r14.1.1 e2.2.1).bind fun r15 =>
      chk (ixOk b0.2.2.2.2.1 vx2) <|
      let e16 := ixL ((0 : Int), (0 : Int), (0 : Int), ()) b0.2.2.2.2.1 vx2
      (ref03Put fu r15.1.1 e16.2.2.1).bind fun r17 =>
      let t18 := IntKind.i64.wrap (vx2 + (1 : Int))
      next r17.1.1 v t18 b0)) (
    k2 b)
noncomputable def ref16Put.l11 (fu : Nat) (k2 : (List Int) → Option ((List Int) × Int × Unit)) : Nat → (List Int) → Int → Int → S1 → Option ((List Int) × Int × Unit)
  | 0, _, _, _, _ => none
  | m + 1, b, v, vx2, b0 => ref16Put.b11 fu (ref16Put.l11 fu k2 m) k2 b v vx2 b0
noncomputable def ref16Put (fu : Nat) (sv : S1) : Option ((List Int) × Int × Unit) :=
  (ref16May fu sv).bind fun r1 =>
  cond (!r1.1) (
    some ([], (1 : Int), ())) (
    (ref03Put fu [] sv.1).bind fun r2 =>
    (ref03Put fu r2.1.1 sv.2.1).bind fun r3 =>
    cond sv.2.2.1 (
      chk (apOk r3.1.1 ([(1 : Int)]) 1) <|
      (ref03Put fu (r3.1.1 ++ ([(1 : Int)])) sv.2.2.2.1).bind fun r4 =>
      some (r4.1.1, (0 : Int), ())) (
      chk (apOk r3.1.1 ([(0 : Int)]) 1) <|
      let t5 := (sv.2.2.2.2.1.length : Int)
      (ref03Put fu (r3.1.1 ++ ([(0 : Int)])) (IntKind.u64.wrap t5)).bind fun r6 =>
      let t7 := (sv.2.2.2.2.1.length : Int)
      ref16Put.l11 fu (fun bq2 => 
          some (bq2, (0 : Int), ())) fu r6.1.1 t7 (0 : Int) sv))

noncomputable def ref16Put.body : Code := Try.f54.body.getD .skip
abbrev ref16Put.shl11 : Shp := ⟨[.u, .p 0 0, .u, .u, .o 4 (.int .u8), .u, .u, .u, .u, .u, .u, .u, .u, .u, .u, .u, .u, .u, .u, .u, .u, .u, .u, .u, .u, .u, .u, .u, .u, .u, .u, .u, .u, .u, .u, .u, .u, .u, .u, .u, .d (.int .i64), .d (.int .i64), .u, .u, .u, .u, .u, .u, .u, .u, .u, .u, .u, .u, .u, .u, .u, .u, .u, .u, .u, .u, .u, .u, .u, .u, .u, .u, .u, .u, .u, .u, .u, .u, .u, .u, .u, .u, .u, .u, .u, .u, .u, .u, .u, .u, .u, .u, .u, .u, .u, .u], [[.g kS1]]⟩
abbrev ref16Put.outl11e2 : Shp := ⟨[.u, .u, .u, .u, .o 4 (.int .u8), .u, .u, .u, .u, .u, .u, .u, .u, .u, .u, .u, .u, .u, .u, .u, .u, .u, .u, .u, .u, .u, .u, .u, .u, .u, .u, .u, .u, .u, .u, .u, .u, .u, .u, .u, .u, .u, .u, .u, .u, .u, .u, .u, .u, .u, .u, .u, .u, .u, .u, .u, .u, .u, .u, .u, .u, .u, .u, .u, .u, .u, .u, .u, .u, .u, .u, .u, .u, .u, .u, .u, .u, .u, .u, .u, .u, .u, .u, .u, .u, .u, .u, .u, .u, .u, .u, .u], []⟩
noncomputable def ref16Put.nml11 : Norm := ⟨{ keep := [1, 4, 40, 41], shut := [(40, (.int .i64)), (41, (.int .i64))], retag := [(4, 4, (.int .u8))], heap := 1, dead := [], cshut := [(0, 0, (.int .u64)), (0, 1, (.int .u64)), (0, 2, .bool), (0, 3, (.int .u64)), (0, 4, (.slice kS0))], cretag := [] }, [(2, { keep := [4], shut := [], retag := [(4, 4, (.int .u8))], heap := 0, dead := [], cshut := [], cretag := [] })]⟩
noncomputable def ref16Put.con : Con := { ps := [kS1], rs := [(.slice (.int .u8)), (.int .i64)], f := fun n x => ref16Put n x.1 }
noncomputable def ref16Put.env : Env := { tys := [(77, ⟨kS1, 56⟩), (54, ⟨(.slice (.int .u8)), 24⟩), (3, ⟨(.int .i64), 8⟩), (5, ⟨(.int .u8), 1⟩), (27, ⟨(.int .u64), 8⟩), (4, ⟨.bool, 1⟩), (75, ⟨(.slice kS0), 24⟩), (99, ⟨kS0, 24⟩)], elems := [(54, 5), (75, 99)], ptrs := [], cons := [(63, ref16May.con)], objs := [(64, [ref03Put.con])], loops := [(11, ref16Put.nml11)], cuts := [], globs := globs, base := 0 }
noncomputable def ref16Put.lp (n : Nat) : LP (Kd.struct ref16Put.con.rs).T := fun lo κ body nm K s =>
  cond (lo && Nat.beq κ 11)
    (match ref16Put.shl11.dec s with
    | some v => ref16Put.l11 n (fun w0 => K (.exit 0) (ref16Put.outl11e2.enc (w0, ()))) n v.1 v.2.1 v.2.2.1 v.2.2.2.1
    | none => loops n (Kd.struct ref16Put.con.rs).T lo κ body nm K s)
    (loops n (Kd.struct ref16Put.con.rs).T lo κ body nm K s)
theorem ref16Put.atl11 (n : Nat) (s : St) (K : Ex → St → Option (Kd.struct ref16Put.con.rs).T) : ref16Put.lp n true 11 (evK ref16Put.env (ref16Put.lp n) n (sub [1, 1, 1, 1, 1, 1, 1, 0, 1, 0, 0] ref16Put.body)) ref16Put.nml11 K s = loops n (Kd.struct ref16Put.con.rs).T true 11 (evK ref16Put.env (ref16Put.lp n) n (sub [1, 1, 1, 1, 1, 1, 1, 0, 1, 0, 0] ref16Put.body)) ref16Put.nml11 K s := by
  show (match ref16Put.shl11.dec s with | some v => ref16Put.l11 n (fun w0 => K (.exit 0) (ref16Put.outl11e2.enc (w0, ()))) n v.1 v.2.1 v.2.2.1 v.2.2.2.1 | none => loops n (Kd.struct ref16Put.con.rs).T true 11 (evK ref16Put.env (ref16Put.lp n) n (sub [1, 1, 1, 1, 1, 1, 1, 0, 1, 0, 0] ref16Put.body)) ref16Put.nml11 K s) = _
  cases h : ref16Put.shl11.dec s with
  | none => rfl
  | some v =>
    rw [Shp.dec_enc h]
    exact (evLoop_eq (sh := ref16Put.shl11) (body := evK ref16Put.env (ref16Put.lp n) n (sub [1, 1, 1, 1, 1, 1, 1, 0, 1, 0, 0] ref16Put.body)) (nm := ref16Put.nml11) (K := K) (b := fun nx v => ref16Put.b11 n (fun x0 x1 x2 x3 => nx (x0, x1, x2, x3, ())) (fun w0 => K (.exit 0) (ref16Put.outl11e2.enc (w0, ()))) v.1 v.2.1 v.2.2.1 v.2.2.2.1) (l := fun m v => ref16Put.l11 n (fun w0 => K (.exit 0) (ref16Put.outl11e2.enc (w0, ()))) m v.1 v.2.1 v.2.2.1 v.2.2.2.1) (fun _ => rfl) (fun _ _ => rfl) (fun m v => by kernel_rfl) n v).symm
theorem ref16Put.eq (n : Nat) (x : (Kd.struct ref16Put.con.ps).T) : evFunc ref16Put.env Try.f54 ref16Put.body ref16Put.con.ps ref16Put.con.rs (ref16Put.lp n) n x = ref16Put.con.f n x := by kernel_rfl
theorem ref16Put.sound : Sound Try.prog globs 54 ref16Put.con :=
  sound_by (E := ref16Put.env) (c := ref16Put.body) (envOk (G := globs) (lc := [(63, ref16May.con)]) (lo := [(64, [ref03Put.con])]) (envB_spec (by kernel_rfl)) rfl rfl ⟨.inl ⟨ref16May.sound, by kernel_rfl⟩, trivial⟩ rfl ⟨⟨⟨ref03Put.sound, trivial⟩, by kernel_rfl⟩, trivial⟩ (by kernel_rfl) (by kernel_rfl)) Try.func54 (by kernel_rfl) ref16Put.lp (l := [(true, sub [1, 1, 1, 1, 1, 1, 1, 0, 1, 0, 0] ref16Put.body, ref16Put.nml11)]) (by kernel_rfl) (fun n => ⟨ref16Put.atl11 n, trivial⟩) ref16Put.eq
noncomputable def packGet.j50013 (fu : Nat) (k1 : Int → Int → Int → Option (Int × Int × Int × Unit)) (atv : Int) (n : Int) (i : Int) (v : Bool) : Option (Int × Int × Int × Unit) :=
  cond v (
    k1 (0 : Int) (0 : Int) (2 : Int)) (
    let t1 := IntKind.i64.wrap (atv + i)
    let t2 := IntKind.i64.wrap (t1 + (1 : Int))
    k1 n t2 (0 : Int))
noncomputable def packGet.j9 (fu : Nat) (k0 : Int → Int → (List Int) → Int → Int → Option (Int × Int × Int × Unit)) (k1 : Int → Int → Int → Option (Int × Int × Int × Unit)) (atv : Int) (n : Int) (i : Int) (c : Int) (v : List Int) (vx2 : Int) (vx3 : Int) : Option (Int × Int × Int × Unit) :=
  let t1 := IntKind.u64.wrap (bAnd .u8 c (127 : Int))
  let t2 := IntKind.i64.wrap ((7 : Int) * i)
  chk (!decide (t2 < 0)) <|
  let t3 := bOr .u64 n (sShl .u64 t1 t2)
  cond (decide (c ≥ (128 : Int))) (
    k0 atv t3 v vx2 vx3) (
    cond (c == (0 : Int)) (
      packGet.j50013 fu (fun vq5 vq5x2 vq5x3 => 
          k1 vq5 vq5x2 vq5x3) atv t3 i (decide (i > (0 : Int)))) (
      packGet.j50013 fu (fun vq6 vq6x2 vq6x3 => 
          k1 vq6 vq6x2 vq6x3) atv t3 i false))
noncomputable def packGet.b5 (fu : Nat) (next : Int → Int → (List Int) → Int → Int → Option (Int × Int × Int × Unit)) (k1 : Int → Int → Int → Option (Int × Int × Int × Unit)) (k2 : Unit → Option (Int × Int × Int × Unit)) (atv : Int) (n : Int) (v : List Int) (vx2 : Int) (vx3 : Int) : Option (Int × Int × Int × Unit) :=
  cond (decide (vx3 < vx2)) (
    chk (ixOk v vx3) <|
    let e1 := ixL (0 : Int) v vx3
    cond (vx3 == (9 : Int)) (
      cond (decide (e1 > (1 : Int))) (
        k1 (0 : Int) (0 : Int) (4 : Int)) (
        packGet.j9 fu (fun atvq11 nq11 vq11 vq11x2 vq11x3 => 
            let t2 := IntKind.i64.wrap (vq11x3 + (1 : Int))
            next atvq11 nq11 vq11 vq11x2 t2) (fun vq12 vq12x2 vq12x3 => 
            k1 vq12 vq12x2 vq12x3) atv n vx3 e1 v vx2 vx3)) (
      packGet.j9 fu (fun atvq13 nq13 vq13 vq13x2 vq13x3 => 
          let t3 := IntKind.i64.wrap (vq13x3 + (1 : Int))
          next atvq13 nq13 vq13 vq13x2 t3) (fun vq14 vq14x2 vq14x3 => 
          k1 vq14 vq14x2 vq14x3) atv n vx3 e1 v vx2 vx3)) (
    k2 ())
noncomputable def packGet.l5 (fu : Nat) (k1 : Int → Int → Int → Option (Int × Int × Int × Unit)) (k2 : Unit → Option (Int × Int × Int × Unit)) : Nat → Int → Int → (List Int) → Int → Int → Option (Int × Int × Int × Unit)
  | 0, _, _, _, _, _ => none
  | m + 1, atv, n, v, vx2, vx3 => packGet.b5 fu (packGet.l5 fu k1 k2 m) k1 k2 atv n v vx2 vx3
noncomputable def packGet (fu : Nat) (b : List Int) (atv : Int) : Option (Int × Int × Int × Unit) :=
  cond (decide (atv < (0 : Int))) (
    some ((0 : Int), (0 : Int), (3 : Int), ())) (
    let t1 := decide (atv > (b.length : Int))
    cond t1 (
      some ((0 : Int), (0 : Int), (3 : Int), ())) (
      chk (cutOk b atv (b.length : Int)) <|
      let t2 := cutL b atv (b.length : Int)
      packGet.l5 fu (fun vq3 vq3x2 vq3x3 => 
          some (vq3, vq3x2, vq3x3, ())) (fun (_ : Unit) => 
          some ((0 : Int), (0 : Int), (3 : Int), ())) fu atv (0 : Int) t2 (t2.length : Int) (0 : Int)))

noncomputable def packGet.body : Code := Try.f73.body.getD .skip
abbrev packGet.shj50013 : Shp := ⟨[.u, .d (.int .i64), .u, .u, .u, .u, .u, .d (.int .u64), .d (.int .i64), .u, .u, .u, .u, .u, .u, .u, .u, .u, .u, .u, .u, .u, .u, .u, .u, .u, .u, .u, .u, .u, .u, .u, .u, .u, .u, .u, .u, .u, .u, .u, .u, .u, .u, .u, .u, .u, .u, .u, .u, .d .bool, .u, .u, .u, .u, .u, .u, .u], []⟩
abbrev packGet.outj50013e1 : Shp := ⟨[.u, .u, .u, .u, .d (.int .u64), .d (.int .i64), .d (.int .i64), .u, .u, .u, .u, .u, .u, .u, .u, .u, .u, .u, .u, .u, .u, .u, .u, .u, .u, .u, .u, .u, .u, .u, .u, .u, .u, .u, .u, .u, .u, .u, .u, .u, .u, .u, .u, .u, .u, .u, .u, .u, .u, .u, .u, .u, .u, .u, .u, .u, .u], []⟩
noncomputable def packGet.nmj50013 : Norm := ⟨{ keep := [1, 7, 8, 49], shut := [(1, (.int .i64)), (7, (.int .u64)), (8, (.int .i64)), (49, .bool)], retag := [], heap := 0, dead := [], cshut := [], cretag := [] }, [(1, { keep := [4, 5, 6], shut := [(4, (.int .u64)), (5, (.int .i64)), (6, (.int .i64))], retag := [], heap := 0, dead := [], cshut := [], cretag := [] })]⟩
abbrev packGet.shj9 : Shp := ⟨[.u, .d (.int .i64), .u, .u, .u, .u, .u, .d (.int .u64), .d (.int .i64), .d (.int .u8), .u, .u, .u, .u, .u, .u, .u, .u, .u, .u, .d (.slice (.int .u8)), .d (.int .i64), .d (.int .i64), .u, .u, .u, .u, .u, .u, .u, .u, .u, .u, .u, .u, .u, .u, .u, .u, .u, .u, .u, .u, .u, .u, .u, .u, .u, .u, .u, .u, .u, .u, .u, .u, .u, .u], []⟩
abbrev packGet.outj9e0 : Shp := ⟨[.u, .d (.int .i64), .u, .u, .u, .u, .u, .d (.int .u64), .u, .u, .u, .u, .u, .u, .u, .u, .u, .u, .u, .u, .d (.slice (.int .u8)), .d (.int .i64), .d (.int .i64), .u, .u, .u, .u, .u, .u, .u, .u, .u, .u, .u, .u, .u, .u, .u, .u, .u, .u, .u, .u, .u, .u, .u, .u, .u, .u, .u, .u, .u, .u, .u, .u, .u, .u], []⟩
abbrev packGet.outj9e1 : Shp := ⟨[.u, .u, .u, .u, .d (.int .u64), .d (.int .i64), .d (.int .i64), .u, .u, .u, .u, .u, .u, .u, .u, .u, .u, .u, .u, .u, .u, .u, .u, .u, .u, .u, .u, .u, .u, .u, .u, .u, .u, .u, .u, .u, .u, .u, .u, .u, .u, .u, .u, .u, .u, .u, .u, .u, .u, .u, .u, .u, .u, .u, .u, .u, .u], []⟩
noncomputable def packGet.nmj9 : Norm := ⟨{ keep := [1, 7, 8, 9, 20, 21, 22], shut := [(1, (.int .i64)), (7, (.int .u64)), (8, (.int .i64)), (9, (.int .u8)), (20, (.slice (.int .u8))), (21, (.int .i64)), (22, (.int .i64))], retag := [], heap := 0, dead := [], cshut := [], cretag := [] }, [(0, { keep := [1, 7, 20, 21, 22], shut := [(1, (.int .i64)), (7, (.int .u64)), (20, (.slice (.int .u8))), (21, (.int .i64)), (22, (.int .i64))], retag := [], heap := 0, dead := [], cshut := [], cretag := [] }), (1, { keep := [4, 5, 6], shut := [(4, (.int .u64)), (5, (.int .i64)), (6, (.int .i64))], retag := [], heap := 0, dead := [], cshut := [], cretag := [] })]⟩
abbrev packGet.shl5 : Shp := ⟨[.u, .d (.int .i64), .u, .u, .u, .u, .u, .d (.int .u64), .u, .u, .u, .u, .u, .u, .u, .u, .u, .u, .u, .u, .d (.slice (.int .u8)), .d (.int .i64), .d (.int .i64), .u, .u, .u, .u, .u, .u, .u, .u, .u, .u, .u, .u, .u, .u, .u, .u, .u, .u, .u, .u, .u, .u, .u, .u, .u, .u, .u, .u, .u, .u, .u, .u, .u, .u], []⟩
abbrev packGet.outl5e1 : Shp := ⟨[.u, .u, .u, .u, .d (.int .u64), .d (.int .i64), .d (.int .i64), .u, .u, .u, .u, .u, .u, .u, .u, .u, .u, .u, .u, .u, .u, .u, .u, .u, .u, .u, .u, .u, .u, .u, .u, .u, .u, .u, .u, .u, .u, .u, .u, .u, .u, .u, .u, .u, .u, .u, .u, .u, .u, .u, .u, .u, .u, .u, .u, .u, .u], []⟩
abbrev packGet.outl5e2 : Shp := ⟨[.u, .u, .u, .u, .u, .u, .u, .u, .u, .u, .u, .u, .u, .u, .u, .u, .u, .u, .u, .u, .u, .u, .u, .u, .u, .u, .u, .u, .u, .u, .u, .u, .u, .u, .u, .u, .u, .u, .u, .u, .u, .u, .u, .u, .u, .u, .u, .u, .u, .u, .u, .u, .u, .u, .u, .u, .u], []⟩
noncomputable def packGet.nml5 : Norm := ⟨{ keep := [1, 7, 20, 21, 22], shut := [(1, (.int .i64)), (7, (.int .u64)), (20, (.slice (.int .u8))), (21, (.int .i64)), (22, (.int .i64))], retag := [], heap := 0, dead := [], cshut := [], cretag := [] }, [(1, { keep := [4, 5, 6], shut := [(4, (.int .u64)), (5, (.int .i64)), (6, (.int .i64))], retag := [], heap := 0, dead := [], cshut := [], cretag := [] }), (2, { keep := [], shut := [], retag := [], heap := 0, dead := [], cshut := [], cretag := [] })]⟩
noncomputable def packGet.con : Con := { ps := [(.slice (.int .u8)), (.int .i64)], rs := [(.int .u64), (.int .i64), (.int .i64)], f := fun n x => packGet n x.1 x.2.1 }
noncomputable def packGet.env : Env := { tys := [(27, ⟨(.int .u64), 8⟩), (3, ⟨(.int .i64), 8⟩), (37, ⟨(.int .i64), 8⟩), (4, ⟨.bool, 1⟩), (5, ⟨(.int .u8), 1⟩)], elems := [(54, 5)], ptrs := [], cons := [], objs := [], loops := [(5, packGet.nml5)], cuts := [(50013, packGet.nmj50013), (9, packGet.nmj9)], globs := globs, base := 0 }
noncomputable def packGet.lp (n : Nat) : LP (Kd.struct packGet.con.rs).T := fun lo κ body nm K s =>
  cond (!lo && Nat.beq κ 50013)
    (match packGet.shj50013.dec s with
    | some v => packGet.j50013 n (fun w0 w1 w2 => K .ret (packGet.outj50013e1.enc (w0, w1, w2, ()))) v.1 v.2.1 v.2.2.1 v.2.2.2.1
    | none => loops n (Kd.struct packGet.con.rs).T lo κ body nm K s)
    (cond (!lo && Nat.beq κ 9)
    (match packGet.shj9.dec s with
    | some v => packGet.j9 n (fun w0 w1 w2 w3 w4 => K .normal (packGet.outj9e0.enc (w0, w1, w2, w3, w4, ()))) (fun w0 w1 w2 => K .ret (packGet.outj9e1.enc (w0, w1, w2, ()))) v.1 v.2.1 v.2.2.1 v.2.2.2.1 v.2.2.2.2.1 v.2.2.2.2.2.1 v.2.2.2.2.2.2.1
    | none => loops n (Kd.struct packGet.con.rs).T lo κ body nm K s)
    (cond (lo && Nat.beq κ 5)
    (match packGet.shl5.dec s with
    | some v => packGet.l5 n (fun w0 w1 w2 => K .ret (packGet.outl5e1.enc (w0, w1, w2, ()))) (fun _ => K (.exit 0) (packGet.outl5e2.enc (()))) n v.1 v.2.1 v.2.2.1 v.2.2.2.1 v.2.2.2.2.1
    | none => loops n (Kd.struct packGet.con.rs).T lo κ body nm K s)
    (loops n (Kd.struct packGet.con.rs).T lo κ body nm K s)))
theorem packGet.atj50013 (n : Nat) (s : St) (K : Ex → St → Option (Kd.struct packGet.con.rs).T) : packGet.lp n false 50013 (evK packGet.env (packGet.lp n) n (sub [1, 1, 1, 0, 1, 0, 0, 1, 1, 0, 0, 1, 1, 1, 0, 1, 1, 1] packGet.body)) packGet.nmj50013 K s = loops n (Kd.struct packGet.con.rs).T false 50013 (evK packGet.env (packGet.lp n) n (sub [1, 1, 1, 0, 1, 0, 0, 1, 1, 0, 0, 1, 1, 1, 0, 1, 1, 1] packGet.body)) packGet.nmj50013 K s := by
  show (match packGet.shj50013.dec s with | some v => packGet.j50013 n (fun w0 w1 w2 => K .ret (packGet.outj50013e1.enc (w0, w1, w2, ()))) v.1 v.2.1 v.2.2.1 v.2.2.2.1 | none => loops n (Kd.struct packGet.con.rs).T false 50013 (evK packGet.env (packGet.lp n) n (sub [1, 1, 1, 0, 1, 0, 0, 1, 1, 0, 0, 1, 1, 1, 0, 1, 1, 1] packGet.body)) packGet.nmj50013 K s) = _
  cases h : packGet.shj50013.dec s with
  | none => rfl
  | some v =>
    rw [Shp.dec_enc h]
    kernel_rfl
theorem packGet.atj9 (n : Nat) (s : St) (K : Ex → St → Option (Kd.struct packGet.con.rs).T) : packGet.lp n false 9 (evK packGet.env (packGet.lp n) n (sub [1, 1, 1, 0, 1, 0, 0, 1, 1, 0, 0, 1, 1] packGet.body)) packGet.nmj9 K s = loops n (Kd.struct packGet.con.rs).T false 9 (evK packGet.env (packGet.lp n) n (sub [1, 1, 1, 0, 1, 0, 0, 1, 1, 0, 0, 1, 1] packGet.body)) packGet.nmj9 K s := by
  show (match packGet.shj9.dec s with | some v => packGet.j9 n (fun w0 w1 w2 w3 w4 => K .normal (packGet.outj9e0.enc (w0, w1, w2, w3, w4, ()))) (fun w0 w1 w2 => K .ret (packGet.outj9e1.enc (w0, w1, w2, ()))) v.1 v.2.1 v.2.2.1 v.2.2.2.1 v.2.2.2.2.1 v.2.2.2.2.2.1 v.2.2.2.2.2.2.1 | none => loops n (Kd.struct packGet.con.rs).T false 9 (evK packGet.env (packGet.lp n) n (sub [1, 1, 1, 0, 1, 0, 0, 1, 1, 0, 0, 1, 1] packGet.body)) packGet.nmj9 K s) = _
  cases h : packGet.shj9.dec s with
  | none => rfl
  | some v =>
    rw [Shp.dec_enc h]
    kernel_rfl
theorem packGet.atl5 (n : Nat) (s : St) (K : Ex → St → Option (Kd.struct packGet.con.rs).T) : packGet.lp n true 5 (evK packGet.env (packGet.lp n) n (sub [1, 1, 1, 0, 1, 0, 0] packGet.body)) packGet.nml5 K s = loops n (Kd.struct packGet.con.rs).T true 5 (evK packGet.env (packGet.lp n) n (sub [1, 1, 1, 0, 1, 0, 0] packGet.body)) packGet.nml5 K s := by
  show (match packGet.shl5.dec s with | some v => packGet.l5 n (fun w0 w1 w2 => K .ret (packGet.outl5e1.enc (w0, w1, w2, ()))) (fun _ => K (.exit 0) (packGet.outl5e2.enc (()))) n v.1 v.2.1 v.2.2.1 v.2.2.2.1 v.2.2.2.2.1 | none => loops n (Kd.struct packGet.con.rs).T true 5 (evK packGet.env (packGet.lp n) n (sub [1, 1, 1, 0, 1, 0, 0] packGet.body)) packGet.nml5 K s) = _
  cases h : packGet.shl5.dec s with
  | none => rfl
  | some v =>
    rw [Shp.dec_enc h]
    exact (evLoop_eq (sh := packGet.shl5) (body := evK packGet.env (packGet.lp n) n (sub [1, 1, 1, 0, 1, 0, 0] packGet.body)) (nm := packGet.nml5) (K := K) (b := fun nx v => packGet.b5 n (fun x0 x1 x2 x3 x4 => nx (x0, x1, x2, x3, x4, ())) (fun w0 w1 w2 => K .ret (packGet.outl5e1.enc (w0, w1, w2, ()))) (fun _ => K (.exit 0) (packGet.outl5e2.enc (()))) v.1 v.2.1 v.2.2.1 v.2.2.2.1 v.2.2.2.2.1) (l := fun m v => packGet.l5 n (fun w0 w1 w2 => K .ret (packGet.outl5e1.enc (w0, w1, w2, ()))) (fun _ => K (.exit 0) (packGet.outl5e2.enc (()))) m v.1 v.2.1 v.2.2.1 v.2.2.2.1 v.2.2.2.2.1) (fun _ => rfl) (fun _ _ => rfl) (fun m v => by kernel_rfl) n v).symm
theorem packGet.eq (n : Nat) (x : (Kd.struct packGet.con.ps).T) : evFunc packGet.env Try.f73 packGet.body packGet.con.ps packGet.con.rs (packGet.lp n) n x = packGet.con.f n x := by kernel_rfl
theorem packGet.sound : Sound Try.prog globs 73 packGet.con :=
  sound_by (E := packGet.env) (c := packGet.body) (envOk (G := globs) (lc := []) (lo := []) (envB_spec (by kernel_rfl)) rfl rfl trivial rfl trivial (by kernel_rfl) (by kernel_rfl)) Try.func73 (by kernel_rfl) packGet.lp (l := [(false, sub [1, 1, 1, 0, 1, 0, 0, 1, 1, 0, 0, 1, 1, 1, 0, 1, 1, 1] packGet.body, packGet.nmj50013), (false, sub [1, 1, 1, 0, 1, 0, 0, 1, 1, 0, 0, 1, 1] packGet.body, packGet.nmj9), (true, sub [1, 1, 1, 0, 1, 0, 0] packGet.body, packGet.nml5)]) (by kernel_rfl) (fun n => ⟨packGet.atj50013 n, ⟨packGet.atj9 n, ⟨packGet.atl5 n, trivial⟩⟩⟩) packGet.eq
noncomputable def snapReaderNumber (fu : Nat) (rv : O2) : Option ((Int × Unit) × (O2 × Unit)) :=
  cond (rv.2.2.1 != (0 : Int)) (
    some (((0 : Int), ()), (rv, ()))) (
    (packGet fu rv.1 rv.2.1).bind fun r1 =>
    some ((r1.1, ()), ((rv.1, r1.2.1, r1.2.2.1, ()), ())))

noncomputable def snapReaderNumber.body : Code := Try.f65.body.getD .skip
noncomputable def snapReaderNumber.con : OCon := { ps := [.obj kO2], rs := [.dat (.int .u64)], f := fun n x => snapReaderNumber n x.1 }
noncomputable def snapReaderNumber.env : Env := { tys := [(27, ⟨(.int .u64), 8⟩), (103, ⟨kS3, 40⟩), (37, ⟨(.int .i64), 8⟩), (54, ⟨(.slice (.int .u8)), 24⟩), (3, ⟨(.int .i64), 8⟩)], elems := [], ptrs := [], cons := [(73, packGet.con)], objs := [], loops := [], cuts := [], globs := globs, base := 1 }
noncomputable def snapReaderNumber.lp (n : Nat) : LP (RT snapReaderNumber.con.rs × BT snapReaderNumber.con.ps) := fun lo κ body nm K s =>
  loops n (RT snapReaderNumber.con.rs × BT snapReaderNumber.con.ps) lo κ body nm K s
theorem snapReaderNumber.eq (n : Nat) (x : PT snapReaderNumber.con.ps) : evFuncO snapReaderNumber.env Try.f65 snapReaderNumber.body snapReaderNumber.con.ps snapReaderNumber.con.rs (snapReaderNumber.lp n) n x = snapReaderNumber.con.f n x := by kernel_rfl
theorem snapReaderNumber.sound : SoundO Try.prog globs 65 snapReaderNumber.con :=
  sound_byO (E := snapReaderNumber.env) (c := snapReaderNumber.body) (envOk (G := globs) (lc := [(73, packGet.con)]) (lo := []) (envB_spec (by kernel_rfl)) rfl rfl ⟨.inl ⟨packGet.sound, by kernel_rfl⟩, trivial⟩ rfl trivial (by kernel_rfl) (by kernel_rfl)) Try.func65 (by kernel_rfl) (by kernel_rfl) (by kernel_rfl) snapReaderNumber.lp (l := []) (by kernel_rfl) (fun n => trivial) snapReaderNumber.eq
noncomputable def snapReaderFlag (fu : Nat) (rv : O2) : Option ((Bool × Unit) × (O2 × Unit)) :=
  cond (rv.2.2.1 != (0 : Int)) (
    some ((false, ()), (rv, ()))) (
    let t1 := decide (rv.2.1 ≥ (rv.1.length : Int))
    cond t1 (
      some ((false, ()), ((rv.1, rv.2.1, (3 : Int), ()), ()))) (
      chk (ixOk rv.1 rv.2.1) <|
      let e2 := ixL (0 : Int) rv.1 rv.2.1
      cond (decide (e2 > (1 : Int))) (
        some ((false, ()), ((rv.1, rv.2.1, (2 : Int), ()), ()))) (
        let t3 := IntKind.i64.wrap (rv.2.1 + (1 : Int))
        let t4 := IntKind.i64.wrap (t3 - (1 : Int))
        chk (ixOk rv.1 t4) <|
        let e5 := ixL (0 : Int) rv.1 t4
        some ((e5 == (1 : Int), ()), ((rv.1, t3, rv.2.2.1, ()), ())))))

noncomputable def snapReaderFlag.body : Code := Try.f66.body.getD .skip
noncomputable def snapReaderFlag.con : OCon := { ps := [.obj kO2], rs := [.dat .bool], f := fun n x => snapReaderFlag n x.1 }
noncomputable def snapReaderFlag.env : Env := { tys := [(4, ⟨.bool, 1⟩), (103, ⟨kS3, 40⟩), (37, ⟨(.int .i64), 8⟩), (3, ⟨(.int .i64), 8⟩), (54, ⟨(.slice (.int .u8)), 24⟩), (5, ⟨(.int .u8), 1⟩)], elems := [(54, 5)], ptrs := [], cons := [], objs := [], loops := [], cuts := [], globs := globs, base := 1 }
noncomputable def snapReaderFlag.lp (n : Nat) : LP (RT snapReaderFlag.con.rs × BT snapReaderFlag.con.ps) := fun lo κ body nm K s =>
  loops n (RT snapReaderFlag.con.rs × BT snapReaderFlag.con.ps) lo κ body nm K s
theorem snapReaderFlag.eq (n : Nat) (x : PT snapReaderFlag.con.ps) : evFuncO snapReaderFlag.env Try.f66 snapReaderFlag.body snapReaderFlag.con.ps snapReaderFlag.con.rs (snapReaderFlag.lp n) n x = snapReaderFlag.con.f n x := by kernel_rfl
theorem snapReaderFlag.sound : SoundO Try.prog globs 66 snapReaderFlag.con :=
  sound_byO (E := snapReaderFlag.env) (c := snapReaderFlag.body) (envOk (G := globs) (lc := []) (lo := []) (envB_spec (by kernel_rfl)) rfl rfl trivial rfl trivial (by kernel_rfl) (by kernel_rfl)) Try.func66 (by kernel_rfl) (by kernel_rfl) (by kernel_rfl) snapReaderFlag.lp (l := []) (by kernel_rfl) (fun n => trivial) snapReaderFlag.eq
noncomputable def snapReaderAbove (fu : Nat) (rv : O2) (n : Int) : Option ((Int × Unit) × (O2 × Unit)) :=
  (snapReaderNumber fu rv).bind fun r1 =>
  (extAdd64.f fu (n, r1.1.1, (0 : Int), ())).bind fun r2 =>
  let t3 := decide (r2.2.1 > (0 : Int))
  cond t3 (
    let t4 := r1.2.1.2.2.1 == (0 : Int)
    cond t4 (
      some ((r2.1, ()), ((r1.2.1.1, r1.2.1.2.1, (5 : Int), ()), ()))) (
      some ((r2.1, ()), (r1.2.1, ())))) (
    some ((r2.1, ()), (r1.2.1, ())))

noncomputable def snapReaderAbove.body : Code := Try.f74.body.getD .skip
noncomputable def snapReaderAbove.con : OCon := { ps := [.obj kO2, .dat (.int .u64)], rs := [.dat (.int .u64)], f := fun n x => snapReaderAbove n x.1 x.2.1 }
noncomputable def snapReaderAbove.env : Env := { tys := [(27, ⟨(.int .u64), 8⟩), (103, ⟨kS3, 40⟩), (37, ⟨(.int .i64), 8⟩), (4, ⟨.bool, 1⟩)], elems := [], ptrs := [], cons := [(76, extAdd64)], objs := [(65, [snapReaderNumber.con])], loops := [], cuts := [], globs := globs, base := 1 }
noncomputable def snapReaderAbove.lp (n : Nat) : LP (RT snapReaderAbove.con.rs × BT snapReaderAbove.con.ps) := fun lo κ body nm K s =>
  loops n (RT snapReaderAbove.con.rs × BT snapReaderAbove.con.ps) lo κ body nm K s
theorem snapReaderAbove.eq (n : Nat) (x : PT snapReaderAbove.con.ps) : evFuncO snapReaderAbove.env Try.f74 snapReaderAbove.body snapReaderAbove.con.ps snapReaderAbove.con.rs (snapReaderAbove.lp n) n x = snapReaderAbove.con.f n x := by kernel_rfl
theorem snapReaderAbove.sound : SoundO Try.prog globs 74 snapReaderAbove.con :=
  sound_byO (E := snapReaderAbove.env) (c := snapReaderAbove.body) (envOk (G := globs) (lc := [(76, extAdd64)]) (lo := [(65, [snapReaderNumber.con])]) (envB_spec (by kernel_rfl)) rfl rfl ⟨.inr (extAdd64_ok Try.func76 (by kernel_rfl) (by kernel_rfl) (by kernel_rfl) (by kernel_rfl)), trivial⟩ rfl ⟨⟨⟨snapReaderNumber.sound, trivial⟩, by kernel_rfl⟩, trivial⟩ (by kernel_rfl) (by kernel_rfl)) Try.func74 (by kernel_rfl) (by kernel_rfl) (by kernel_rfl) snapReaderAbove.lp (l := []) (by kernel_rfl) (fun n => trivial) snapReaderAbove.eq
noncomputable def snapReaderRuns.b7 (fu : Nat) (next : Int → (List S0) → Int → (List Int) → Int → Int → S0 → Option (((List S0) × Unit) × (O2 × Unit))) (k2 : (List S0) → (List Int) → Int → Int → Option (((List S0) × Unit) × (O2 × Unit))) (n : Int) (out : List S0) (i : Int) (c0 : List Int) (c0x2 : Int) (c0x3 : Int) (b1 : S0) : Option (((List S0) × Unit) × (O2 × Unit)) :=
  cond (decide (i < n)) (
    cond (c0x3 == (0 : Int)) (
      (snapReaderAbove fu (c0, c0x2, c0x3, ()) b1.1).bind fun r1 =>
      (snapReaderAbove fu r1.2.1 b1.2.1).bind fun r2 =>
      (snapReaderNumber fu r2.2.1).bind fun r3 =>
      let t4 := [(r1.1.1, r2.1.1, r3.1.1, ())]
      chk (apOk out t4 24) <|
      let t5 := IntKind.u64.wrap (i + (1 : Int))
      next n (out ++ t4) t5 r3.2.1.1 r3.2.1.2.1 r3.2.1.2.2.1 (r1.1.1, r2.1.1, r3.1.1, ())) (
      k2 out c0 c0x2 c0x3)) (
    k2 out c0 c0x2 c0x3)
noncomputable def snapReaderRuns.l7 (fu : Nat) (k2 : (List S0) → (List Int) → Int → Int → Option (((List S0) × Unit) × (O2 × Unit))) : Nat → Int → (List S0) → Int → (List Int) → Int → Int → S0 → Option (((List S0) × Unit) × (O2 × Unit))
  | 0, _, _, _, _, _, _, _ => none
  | m + 1, n, out, i, c0, c0x2, c0x3, b1 => snapReaderRuns.b7 fu (snapReaderRuns.l7 fu k2 m) k2 n out i c0 c0x2 c0x3 b1
noncomputable def snapReaderRuns.j4 (fu : Nat) (k1 : (List S0) → (List Int) → Int → Int → Option (((List S0) × Unit) × (O2 × Unit))) (n : Int) (c0 : List Int) (c0x2 : Int) (c0x3 : Int) : Option (((List S0) × Unit) × (O2 × Unit)) :=
  snapReaderRuns.l7 fu (fun outq5 c0q5 c0q5x2 c0q5x3 => 
      k1 outq5 c0q5 c0q5x2 c0q5x3) fu n [] (0 : Int) c0 c0x2 c0x3 ((0 : Int), (0 : Int), (0 : Int), ())
noncomputable def snapReaderRuns (fu : Nat) (rv : O2) : Option (((List S0) × Unit) × (O2 × Unit)) :=
  (snapReaderNumber fu rv).bind fun r1 =>
  let t2 := decide (r1.1.1 > (64 : Int))
  cond t2 (
    let t3 := r1.2.1.2.2.1 == (0 : Int)
    cond t3 (
      snapReaderRuns.j4 fu (fun vq1 c0q1 c0q1x2 c0q1x3 => 
          some ((vq1, ()), ((c0q1, c0q1x2, c0q1x3, ()), ()))) r1.1.1 r1.2.1.1 r1.2.1.2.1 (12 : Int)) (
      snapReaderRuns.j4 fu (fun vq2 c0q2 c0q2x2 c0q2x3 => 
          some ((vq2, ()), ((c0q2, c0q2x2, c0q2x3, ()), ()))) r1.1.1 r1.2.1.1 r1.2.1.2.1 r1.2.1.2.2.1)) (
    snapReaderRuns.j4 fu (fun vq3 c0q3 c0q3x2 c0q3x3 => 
        some ((vq3, ()), ((c0q3, c0q3x2, c0q3x3, ()), ()))) r1.1.1 r1.2.1.1 r1.2.1.2.1 r1.2.1.2.2.1)

noncomputable def snapReaderRuns.body : Code := Try.f67.body.getD .skip
abbrev snapReaderRuns.shl7 : Shp := ⟨[.p 0 0, .u, .u, .d (.int .u64), .o 4 kS0, .p 1 0, .d (.int .u64), .u, .u, .u, .u, .u, .u, .u, .u, .u, .u, .u, .u, .u, .u, .u, .u, .u, .u, .u, .u, .u, .u, .u, .u, .u, .u, .u, .u, .u, .u, .u, .u, .u, .u, .u, .u, .u, .u, .u, .u, .u, .u, .u, .u], [[.d (.slice (.int .u8)), .d (.int .i64), .d (.int .i64)], [.g kS0]]⟩
abbrev snapReaderRuns.outl7e2 : Shp := ⟨[.u, .u, .u, .u, .o 4 kS0, .u, .u, .u, .u, .u, .u, .u, .u, .u, .u, .u, .u, .u, .u, .u, .u, .u, .u, .u, .u, .u, .u, .u, .u, .u, .u, .u, .u, .u, .u, .u, .u, .u, .u, .u, .u, .u, .u, .u, .u, .u, .u, .u, .u, .u, .u], [[.d (.slice (.int .u8)), .d (.int .i64), .d (.int .i64)]]⟩
noncomputable def snapReaderRuns.nml7 : Norm := ⟨{ keep := [0, 3, 4, 5, 6], shut := [(3, (.int .u64)), (6, (.int .u64))], retag := [(4, 4, kS0)], heap := 2, dead := [], cshut := [(0, 0, (.slice (.int .u8))), (0, 1, (.int .i64)), (0, 2, (.int .i64)), (1, 0, (.int .u64)), (1, 1, (.int .u64)), (1, 2, (.int .u64))], cretag := [] }, [(2, { keep := [4], shut := [], retag := [(4, 4, kS0)], heap := 1, dead := [], cshut := [(0, 0, (.slice (.int .u8))), (0, 1, (.int .i64)), (0, 2, (.int .i64))], cretag := [] })]⟩
abbrev snapReaderRuns.shj4 : Shp := ⟨[.p 0 0, .u, .u, .d (.int .u64), .u, .u, .u, .u, .u, .u, .u, .u, .u, .u, .u, .u, .u, .u, .u, .u, .u, .u, .u, .u, .u, .u, .u, .u, .u, .u, .u, .u, .u, .u, .u, .u, .u, .u, .u, .u, .u, .u, .u, .u, .u, .u, .u, .u, .u, .u, .u], [[.d (.slice (.int .u8)), .d (.int .i64), .d (.int .i64)]]⟩
abbrev snapReaderRuns.outj4e1 : Shp := ⟨[.u, .u, .o 2 kS0, .u, .u, .u, .u, .u, .u, .u, .u, .u, .u, .u, .u, .u, .u, .u, .u, .u, .u, .u, .u, .u, .u, .u, .u, .u, .u, .u, .u, .u, .u, .u, .u, .u, .u, .u, .u, .u, .u, .u, .u, .u, .u, .u, .u, .u, .u, .u, .u], [[.d (.slice (.int .u8)), .d (.int .i64), .d (.int .i64)]]⟩
noncomputable def snapReaderRuns.nmj4 : Norm := ⟨{ keep := [0, 3], shut := [(3, (.int .u64))], retag := [], heap := 1, dead := [], cshut := [(0, 0, (.slice (.int .u8))), (0, 1, (.int .i64)), (0, 2, (.int .i64))], cretag := [] }, [(1, { keep := [2], shut := [], retag := [(2, 2, kS0)], heap := 1, dead := [], cshut := [(0, 0, (.slice (.int .u8))), (0, 1, (.int .i64)), (0, 2, (.int .i64))], cretag := [] })]⟩
noncomputable def snapReaderRuns.con : OCon := { ps := [.obj kO2], rs := [.dat (.slice kS0)], f := fun n x => snapReaderRuns n x.1 }
noncomputable def snapReaderRuns.env : Env := { tys := [(75, ⟨(.slice kS0), 24⟩), (103, ⟨kS3, 40⟩), (37, ⟨(.int .i64), 8⟩), (4, ⟨.bool, 1⟩), (99, ⟨kS0, 24⟩), (27, ⟨(.int .u64), 8⟩)], elems := [(75, 99)], ptrs := [], cons := [], objs := [(65, [snapReaderNumber.con]), (74, [snapReaderAbove.con])], loops := [(7, snapReaderRuns.nml7)], cuts := [(4, snapReaderRuns.nmj4)], globs := globs, base := 1 }
noncomputable def snapReaderRuns.lp (n : Nat) : LP (RT snapReaderRuns.con.rs × BT snapReaderRuns.con.ps) := fun lo κ body nm K s =>
  cond (lo && Nat.beq κ 7)
    (match snapReaderRuns.shl7.dec s with
    | some v => snapReaderRuns.l7 n (fun w0 w1 w2 w3 => K (.exit 0) (snapReaderRuns.outl7e2.enc (w0, w1, w2, w3, ()))) n v.1 v.2.1 v.2.2.1 v.2.2.2.1 v.2.2.2.2.1 v.2.2.2.2.2.1 v.2.2.2.2.2.2.1
    | none => loops n (RT snapReaderRuns.con.rs × BT snapReaderRuns.con.ps) lo κ body nm K s)
    (cond (!lo && Nat.beq κ 4)
    (match snapReaderRuns.shj4.dec s with
    | some v => snapReaderRuns.j4 n (fun w0 w1 w2 w3 => K .ret (snapReaderRuns.outj4e1.enc (w0, w1, w2, w3, ()))) v.1 v.2.1 v.2.2.1 v.2.2.2.1
    | none => loops n (RT snapReaderRuns.con.rs × BT snapReaderRuns.con.ps) lo κ body nm K s)
    (loops n (RT snapReaderRuns.con.rs × BT snapReaderRuns.con.ps) lo κ body nm K s))
theorem snapReaderRuns.atl7 (n : Nat) (s : St) (K : Ex → St → Option (RT snapReaderRuns.con.rs × BT snapReaderRuns.con.ps)) : snapReaderRuns.lp n true 7 (evK snapReaderRuns.env (snapReaderRuns.lp n) n (sub [1, 1, 1, 1, 1, 0, 1, 0, 0] snapReaderRuns.body)) snapReaderRuns.nml7 K s = loops n (RT snapReaderRuns.con.rs × BT snapReaderRuns.con.ps) true 7 (evK snapReaderRuns.env (snapReaderRuns.lp n) n (sub [1, 1, 1, 1, 1, 0, 1, 0, 0] snapReaderRuns.body)) snapReaderRuns.nml7 K s := by
  show (match snapReaderRuns.shl7.dec s with | some v => snapReaderRuns.l7 n (fun w0 w1 w2 w3 => K (.exit 0) (snapReaderRuns.outl7e2.enc (w0, w1, w2, w3, ()))) n v.1 v.2.1 v.2.2.1 v.2.2.2.1 v.2.2.2.2.1 v.2.2.2.2.2.1 v.2.2.2.2.2.2.1 | none => loops n (RT snapReaderRuns.con.rs × BT snapReaderRuns.con.ps) true 7 (evK snapReaderRuns.env (snapReaderRuns.lp n) n (sub [1, 1, 1, 1, 1, 0, 1, 0, 0] snapReaderRuns.body)) snapReaderRuns.nml7 K s) = _
  cases h : snapReaderRuns.shl7.dec s with
  | none => rfl
  | some v =>
    rw [Shp.dec_enc h]
    exact (evLoop_eq (sh := snapReaderRuns.shl7) (body := evK snapReaderRuns.env (snapReaderRuns.lp n) n (sub [1, 1, 1, 1, 1, 0, 1, 0, 0] snapReaderRuns.body)) (nm := snapReaderRuns.nml7) (K := K) (b := fun nx v => snapReaderRuns.b7 n (fun x0 x1 x2 x3 x4 x5 x6 => nx (x0, x1, x2, x3, x4, x5, x6, ())) (fun w0 w1 w2 w3 => K (.exit 0) (snapReaderRuns.outl7e2.enc (w0, w1, w2, w3, ()))) v.1 v.2.1 v.2.2.1 v.2.2.2.1 v.2.2.2.2.1 v.2.2.2.2.2.1 v.2.2.2.2.2.2.1) (l := fun m v => snapReaderRuns.l7 n (fun w0 w1 w2 w3 => K (.exit 0) (snapReaderRuns.outl7e2.enc (w0, w1, w2, w3, ()))) m v.1 v.2.1 v.2.2.1 v.2.2.2.1 v.2.2.2.2.1 v.2.2.2.2.2.1 v.2.2.2.2.2.2.1) (fun _ => rfl) (fun _ _ => rfl) (fun m v => by kernel_rfl) n v).symm
theorem snapReaderRuns.atj4 (n : Nat) (s : St) (K : Ex → St → Option (RT snapReaderRuns.con.rs × BT snapReaderRuns.con.ps)) : snapReaderRuns.lp n false 4 (evK snapReaderRuns.env (snapReaderRuns.lp n) n (sub [1, 1, 1] snapReaderRuns.body)) snapReaderRuns.nmj4 K s = loops n (RT snapReaderRuns.con.rs × BT snapReaderRuns.con.ps) false 4 (evK snapReaderRuns.env (snapReaderRuns.lp n) n (sub [1, 1, 1] snapReaderRuns.body)) snapReaderRuns.nmj4 K s := by
  show (match snapReaderRuns.shj4.dec s with | some v => snapReaderRuns.j4 n (fun w0 w1 w2 w3 => K .ret (snapReaderRuns.outj4e1.enc (w0, w1, w2, w3, ()))) v.1 v.2.1 v.2.2.1 v.2.2.2.1 | none => loops n (RT snapReaderRuns.con.rs × BT snapReaderRuns.con.ps) false 4 (evK snapReaderRuns.env (snapReaderRuns.lp n) n (sub [1, 1, 1] snapReaderRuns.body)) snapReaderRuns.nmj4 K s) = _
  cases h : snapReaderRuns.shj4.dec s with
  | none => rfl
  | some v =>
    rw [Shp.dec_enc h]
    kernel_rfl
theorem snapReaderRuns.eq (n : Nat) (x : PT snapReaderRuns.con.ps) : evFuncO snapReaderRuns.env Try.f67 snapReaderRuns.body snapReaderRuns.con.ps snapReaderRuns.con.rs (snapReaderRuns.lp n) n x = snapReaderRuns.con.f n x := by kernel_rfl
theorem snapReaderRuns.sound : SoundO Try.prog globs 67 snapReaderRuns.con :=
  sound_byO (E := snapReaderRuns.env) (c := snapReaderRuns.body) (envOk (G := globs) (lc := []) (lo := [(65, [snapReaderNumber.con]), (74, [snapReaderAbove.con])]) (envB_spec (by kernel_rfl)) rfl rfl trivial rfl ⟨⟨⟨snapReaderNumber.sound, trivial⟩, by kernel_rfl⟩, ⟨⟨⟨snapReaderAbove.sound, trivial⟩, by kernel_rfl⟩, trivial⟩⟩ (by kernel_rfl) (by kernel_rfl)) Try.func67 (by kernel_rfl) (by kernel_rfl) (by kernel_rfl) snapReaderRuns.lp (l := [(true, sub [1, 1, 1, 1, 1, 0, 1, 0, 0] snapReaderRuns.body, snapReaderRuns.nml7), (false, sub [1, 1, 1] snapReaderRuns.body, snapReaderRuns.nmj4)]) (by kernel_rfl) (fun n => ⟨snapReaderRuns.atl7 n, ⟨snapReaderRuns.atj4 n, trivial⟩⟩) snapReaderRuns.eq
noncomputable def snapGet.j7 (fu : Nat) (k1 : Int → Int → Int → Bool → Int → (List S0) → Option (S1 × Int × Unit)) (b : List Int) (c0 : Int) (c0x2 : Int) (c0x3 : Bool) (c0x4 : Int) (c0x5 : List S0) (c1 : List Int) (c1x2 : Int) (c1x3 : Int) (b2 : S1) : Option (S1 × Int × Unit) :=
  cond (c1x3 != (0 : Int)) (
    k1 c1x3 (0 : Int) (0 : Int) false (0 : Int) []) (
    let t1 := decide (c1x2 < (b.length : Int))
    cond t1 (
      k1 (2 : Int) (0 : Int) (0 : Int) false (0 : Int) []) (
      (snapMay fu b2).bind fun r2 =>
      cond (!r2.1) (
        k1 (1 : Int) (0 : Int) (0 : Int) false (0 : Int) []) (
        k1 (0 : Int) b2.1 b2.2.1 b2.2.2.1 b2.2.2.2.1 b2.2.2.2.2.1)))
noncomputable def snapGet (fu : Nat) (b : List Int) : Option (S1 × Int × Unit) :=
  (snapReaderNumber fu (b, (0 : Int), (0 : Int), ())).bind fun r1 =>
  (snapReaderNumber fu r1.2.1).bind fun r2 =>
  (snapReaderFlag fu r2.2.1).bind fun r3 =>
  cond r3.1.1 (
    (snapReaderNumber fu r3.2.1).bind fun r4 =>
    snapGet.j7 fu (fun vq1 c0q1 c0q1x2 c0q1x3 c0q1x4 c0q1x5 => 
        some ((c0q1, c0q1x2, c0q1x3, c0q1x4, c0q1x5, ()), vq1, ())) b (0 : Int) (0 : Int) false (0 : Int) [] r4.2.1.1 r4.2.1.2.1 r4.2.1.2.2.1 (r1.1.1, r2.1.1, r3.1.1, r4.1.1, [], ())) (
    (snapReaderRuns fu r3.2.1).bind fun r5 =>
    snapGet.j7 fu (fun vq2 c0q2 c0q2x2 c0q2x3 c0q2x4 c0q2x5 => 
        some ((c0q2, c0q2x2, c0q2x3, c0q2x4, c0q2x5, ()), vq2, ())) b (0 : Int) (0 : Int) false (0 : Int) [] r5.2.1.1 r5.2.1.2.1 r5.2.1.2.2.1 (r1.1.1, r2.1.1, r3.1.1, (0 : Int), r5.1.1, ()))

noncomputable def snapGet.body : Code := Try.f55.body.getD .skip
abbrev snapGet.shj7 : Shp := ⟨[.d (.slice (.int .u8)), .u, .p 0 0, .u, .p 1 0, .p 2 0, .u, .u, .u, .u, .u, .u, .u, .u, .u, .u, .u, .u, .u, .u, .u, .u, .u, .u, .u, .u, .u, .u, .u, .u, .u, .u, .u, .u, .u, .u, .u, .u, .u, .u, .u, .u, .u, .u, .u, .u, .u, .u, .u, .u, .u], [[.d (.int .u64), .d (.int .u64), .d .bool, .d (.int .u64), .o 1004 kS0], [.d (.slice (.int .u8)), .d (.int .i64), .d (.int .i64)], [.g kS1]]⟩
abbrev snapGet.outj7e1 : Shp := ⟨[.u, .u, .p 0 0, .d (.int .i64), .u, .u, .u, .u, .u, .u, .u, .u, .u, .u, .u, .u, .u, .u, .u, .u, .u, .u, .u, .u, .u, .u, .u, .u, .u, .u, .u, .u, .u, .u, .u, .u, .u, .u, .u, .u, .u, .u, .u, .u, .u, .u, .u, .u, .u, .u, .u], [[.d (.int .u64), .d (.int .u64), .d .bool, .d (.int .u64), .d (.slice kS0)]]⟩
noncomputable def snapGet.nmj7 : Norm := ⟨{ keep := [0, 2, 4, 5], shut := [(0, (.slice (.int .u8)))], retag := [], heap := 3, dead := [], cshut := [(0, 0, (.int .u64)), (0, 1, (.int .u64)), (0, 2, .bool), (0, 3, (.int .u64)), (1, 0, (.slice (.int .u8))), (1, 1, (.int .i64)), (1, 2, (.int .i64)), (2, 0, (.int .u64)), (2, 1, (.int .u64)), (2, 2, .bool), (2, 3, (.int .u64)), (2, 4, (.slice kS0))], cretag := [(0, 4, 1004, kS0)] }, [(1, { keep := [2, 3], shut := [(3, (.int .i64))], retag := [], heap := 1, dead := [], cshut := [(0, 0, (.int .u64)), (0, 1, (.int .u64)), (0, 2, .bool), (0, 3, (.int .u64)), (0, 4, (.slice kS0))], cretag := [] })]⟩
noncomputable def snapGet.con : Con := { ps := [(.slice (.int .u8))], rs := [kS1, (.int .i64)], f := fun n x => snapGet n x.1 }
noncomputable def snapGet.env : Env := { tys := [(77, ⟨kS1, 56⟩), (37, ⟨(.int .i64), 8⟩), (103, ⟨kS3, 40⟩), (4, ⟨.bool, 1⟩), (27, ⟨(.int .u64), 8⟩), (75, ⟨(.slice kS0), 24⟩), (3, ⟨(.int .i64), 8⟩), (5, ⟨(.int .u8), 1⟩)], elems := [(54, 5)], ptrs := [], cons := [(61, snapMay.con)], objs := [(65, [snapReaderNumber.con]), (66, [snapReaderFlag.con]), (67, [snapReaderRuns.con])], loops := [], cuts := [(7, snapGet.nmj7)], globs := globs, base := 0 }
noncomputable def snapGet.lp (n : Nat) : LP (Kd.struct snapGet.con.rs).T := fun lo κ body nm K s =>
  cond (!lo && Nat.beq κ 7)
    (match snapGet.shj7.dec s with
    | some v => snapGet.j7 n (fun w0 w1 w2 w3 w4 w5 => K .ret (snapGet.outj7e1.enc (w0, w1, w2, w3, w4, w5, ()))) v.1 v.2.1 v.2.2.1 v.2.2.2.1 v.2.2.2.2.1 v.2.2.2.2.2.1 v.2.2.2.2.2.2.1 v.2.2.2.2.2.2.2.1 v.2.2.2.2.2.2.2.2.1 v.2.2.2.2.2.2.2.2.2.1
    | none => loops n (Kd.struct snapGet.con.rs).T lo κ body nm K s)
    (loops n (Kd.struct snapGet.con.rs).T lo κ body nm K s)
theorem snapGet.atj7 (n : Nat) (s : St) (K : Ex → St → Option (Kd.struct snapGet.con.rs).T) : snapGet.lp n false 7 (evK snapGet.env (snapGet.lp n) n (sub [1, 1, 1, 1, 1] snapGet.body)) snapGet.nmj7 K s = loops n (Kd.struct snapGet.con.rs).T false 7 (evK snapGet.env (snapGet.lp n) n (sub [1, 1, 1, 1, 1] snapGet.body)) snapGet.nmj7 K s := by
  show (match snapGet.shj7.dec s with | some v => snapGet.j7 n (fun w0 w1 w2 w3 w4 w5 => K .ret (snapGet.outj7e1.enc (w0, w1, w2, w3, w4, w5, ()))) v.1 v.2.1 v.2.2.1 v.2.2.2.1 v.2.2.2.2.1 v.2.2.2.2.2.1 v.2.2.2.2.2.2.1 v.2.2.2.2.2.2.2.1 v.2.2.2.2.2.2.2.2.1 v.2.2.2.2.2.2.2.2.2.1 | none => loops n (Kd.struct snapGet.con.rs).T false 7 (evK snapGet.env (snapGet.lp n) n (sub [1, 1, 1, 1, 1] snapGet.body)) snapGet.nmj7 K s) = _
  cases h : snapGet.shj7.dec s with
  | none => rfl
  | some v =>
    rw [Shp.dec_enc h]
    kernel_rfl
theorem snapGet.eq (n : Nat) (x : (Kd.struct snapGet.con.ps).T) : evFunc snapGet.env Try.f55 snapGet.body snapGet.con.ps snapGet.con.rs (snapGet.lp n) n x = snapGet.con.f n x := by kernel_rfl
theorem snapGet.sound : Sound Try.prog globs 55 snapGet.con :=
  sound_by (E := snapGet.env) (c := snapGet.body) (envOk (G := globs) (lc := [(61, snapMay.con)]) (lo := [(65, [snapReaderNumber.con]), (66, [snapReaderFlag.con]), (67, [snapReaderRuns.con])]) (envB_spec (by kernel_rfl)) rfl rfl ⟨.inl ⟨snapMay.sound, by kernel_rfl⟩, trivial⟩ rfl ⟨⟨⟨snapReaderNumber.sound, trivial⟩, by kernel_rfl⟩, ⟨⟨⟨snapReaderFlag.sound, trivial⟩, by kernel_rfl⟩, ⟨⟨⟨snapReaderRuns.sound, trivial⟩, by kernel_rfl⟩, trivial⟩⟩⟩ (by kernel_rfl) (by kernel_rfl)) Try.func55 (by kernel_rfl) snapGet.lp (l := [(false, sub [1, 1, 1, 1, 1] snapGet.body, snapGet.nmj7)]) (by kernel_rfl) (fun n => ⟨snapGet.atj7 n, trivial⟩) snapGet.eq
noncomputable def law16SnapPuts (fu : Nat) (sv : S1) : Option (Bool × Unit) :=
  let t1 := (sv.2.2.2.2.1.length : Int)
  let t2 := decide (t1 > (200 : Int))
  cond t2 (
    (law16Fixed fu).bind fun r3 =>
    some (r3.1, ())) (
    (snapPut fu sv).bind fun r4 =>
    (ref16Put fu sv).bind fun r5 =>
    (law16Fixed fu).bind fun r6 =>
    cond (!r6.1) (
      some (false, ())) (
      cond (r4.1 != r5.1) (
        some (false, ())) (
        cond (r4.2.1 != r5.2.1) (
          some (false, ())) (
          cond (r4.2.1 != (0 : Int)) (
            some (true, ())) (
            (snapGet fu r4.1).bind fun r7 =>
            cond (r7.2.1 == (0 : Int)) (
              (ref15Same fu r7.1 sv).bind fun r8 =>
              some (r8.1, ())) (
              some (false, ())))))))

noncomputable def law16SnapPuts.body : Code := Try.f13.body.getD .skip
noncomputable def law16SnapPuts.con : Con := { ps := [kS1], rs := [.bool], f := fun n x => law16SnapPuts n x.1 }
noncomputable def law16SnapPuts.env : Env := { tys := [(77, ⟨kS1, 56⟩), (4, ⟨.bool, 1⟩), (75, ⟨(.slice kS0), 24⟩), (99, ⟨kS0, 24⟩), (9, ⟨.str, 16⟩), (54, ⟨(.slice (.int .u8)), 24⟩), (5, ⟨(.int .u8), 1⟩)], elems := [(75, 99), (54, 5)], ptrs := [], cons := [(50, law16Fixed.con), (53, snapPut.con), (54, ref16Put.con), (55, snapGet.con), (52, ref15Same.con)], objs := [], loops := [], cuts := [], globs := globs, base := 0 }
noncomputable def law16SnapPuts.lp (n : Nat) : LP (Kd.struct law16SnapPuts.con.rs).T := fun lo κ body nm K s =>
  loops n (Kd.struct law16SnapPuts.con.rs).T lo κ body nm K s
theorem law16SnapPuts.eq (n : Nat) (x : (Kd.struct law16SnapPuts.con.ps).T) : evFunc law16SnapPuts.env Try.f13 law16SnapPuts.body law16SnapPuts.con.ps law16SnapPuts.con.rs (law16SnapPuts.lp n) n x = law16SnapPuts.con.f n x := by kernel_rfl
theorem law16SnapPuts.sound : Sound Try.prog globs 13 law16SnapPuts.con :=
  sound_by (E := law16SnapPuts.env) (c := law16SnapPuts.body) (envOk (G := globs) (lc := [(50, law16Fixed.con), (53, snapPut.con), (54, ref16Put.con), (55, snapGet.con), (52, ref15Same.con)]) (lo := []) (envB_spec (by kernel_rfl)) rfl rfl ⟨.inl ⟨law16Fixed.sound, by kernel_rfl⟩, ⟨.inl ⟨snapPut.sound, by kernel_rfl⟩, ⟨.inl ⟨ref16Put.sound, by kernel_rfl⟩, ⟨.inl ⟨snapGet.sound, by kernel_rfl⟩, ⟨.inl ⟨ref15Same.sound, by kernel_rfl⟩, trivial⟩⟩⟩⟩⟩ rfl trivial (by kernel_rfl) (by kernel_rfl)) Try.func13 (by kernel_rfl) law16SnapPuts.lp (l := []) (by kernel_rfl) (fun n => trivial) law16SnapPuts.eq
noncomputable def ref03Get.j11 (fu : Nat) (k0 : (List Int) → Int → Int → Int → Int → Option (Int × Int × Int × Unit)) (k1 : Int → Int → Int → Option (Int × Int × Int × Unit)) (b : List Int) (atv : Int) (n : Int) (times : Int) (i : Int) (c : Int) : Option (Int × Int × Int × Unit) :=
  let t1 := IntKind.u64.wrap (Int.tmod c (128 : Int))
  let t2 := IntKind.u64.wrap (t1 * times)
  let t3 := IntKind.u64.wrap (n + t2)
  let t4 := IntKind.i64.wrap (i + (1 : Int))
  cond (decide (c < (128 : Int))) (
    cond (c == (0 : Int)) (
      cond (decide (t4 > (1 : Int))) (
        k1 (0 : Int) (0 : Int) (2 : Int)) (
        let t5 := IntKind.i64.wrap (atv + t4)
        k1 t3 t5 (0 : Int))) (
      let t6 := IntKind.i64.wrap (atv + t4)
      k1 t3 t6 (0 : Int))) (
    let t7 := IntKind.u64.wrap (times * (128 : Int))
    k0 b atv t3 t7 t4)
noncomputable def ref03Get.b6 (fu : Nat) (next : (List Int) → Int → Int → Int → Int → Option (Int × Int × Int × Unit)) (k1 : Int → Int → Int → Option (Int × Int × Int × Unit)) (b : List Int) (atv : Int) (n : Int) (times : Int) (i : Int) : Option (Int × Int × Int × Unit) :=
  let t1 := IntKind.i64.wrap (atv + i)
  let t2 := decide (t1 ≥ (b.length : Int))
  cond t2 (
    k1 (0 : Int) (0 : Int) (3 : Int)) (
    let t3 := IntKind.i64.wrap (atv + i)
    chk (ixOk b t3) <|
    let e4 := ixL (0 : Int) b t3
    cond (i == (9 : Int)) (
      cond (decide (e4 > (1 : Int))) (
        k1 (0 : Int) (0 : Int) (4 : Int)) (
        ref03Get.j11 fu (fun bq2 atvq2 nq2 timesq2 iq2 => 
            next bq2 atvq2 nq2 timesq2 iq2) (fun vq3 vq3x2 vq3x3 => 
            k1 vq3 vq3x2 vq3x3) b atv n times i e4)) (
      ref03Get.j11 fu (fun bq4 atvq4 nq4 timesq4 iq4 => 
          next bq4 atvq4 nq4 timesq4 iq4) (fun vq5 vq5x2 vq5x3 => 
          k1 vq5 vq5x2 vq5x3) b atv n times i e4))
noncomputable def ref03Get.l6 (fu : Nat) (k1 : Int → Int → Int → Option (Int × Int × Int × Unit)) : Nat → (List Int) → Int → Int → Int → Int → Option (Int × Int × Int × Unit)
  | 0, _, _, _, _, _ => none
  | m + 1, b, atv, n, times, i => ref03Get.b6 fu (ref03Get.l6 fu k1 m) k1 b atv n times i
noncomputable def ref03Get (fu : Nat) (b : List Int) (atv : Int) : Option (Int × Int × Int × Unit) :=
  cond (decide (atv < (0 : Int))) (
    some ((0 : Int), (0 : Int), (3 : Int), ())) (
    let t1 := decide (atv > (b.length : Int))
    cond t1 (
      some ((0 : Int), (0 : Int), (3 : Int), ())) (
      ref03Get.l6 fu (fun vq1 vq1x2 vq1x3 => 
          some (vq1, vq1x2, vq1x3, ())) fu b atv (0 : Int) (1 : Int) (0 : Int)))

noncomputable def ref03Get.body : Code := Try.f68.body.getD .skip
abbrev ref03Get.shj11 : Shp := ⟨[.d (.slice (.int .u8)), .d (.int .i64), .u, .u, .u, .u, .u, .d (.int .u64), .d (.int .u64), .d (.int .i64), .d (.int .u8), .u, .u, .u, .u, .u, .u, .u, .u, .u, .u, .u, .u, .u, .u, .u, .u, .u, .u, .u, .u, .u, .u, .u, .u, .u, .u, .u, .u, .u, .u, .u, .u, .u, .u, .u, .u, .u, .u, .u, .u, .u, .u, .u, .u, .u, .u, .u, .u, .u], []⟩
abbrev ref03Get.outj11e0 : Shp := ⟨[.d (.slice (.int .u8)), .d (.int .i64), .u, .u, .u, .u, .u, .d (.int .u64), .d (.int .u64), .d (.int .i64), .u, .u, .u, .u, .u, .u, .u, .u, .u, .u, .u, .u, .u, .u, .u, .u, .u, .u, .u, .u, .u, .u, .u, .u, .u, .u, .u, .u, .u, .u, .u, .u, .u, .u, .u, .u, .u, .u, .u, .u, .u, .u, .u, .u, .u, .u, .u, .u, .u, .u], []⟩
abbrev ref03Get.outj11e1 : Shp := ⟨[.u, .u, .u, .u, .d (.int .u64), .d (.int .i64), .d (.int .i64), .u, .u, .u, .u, .u, .u, .u, .u, .u, .u, .u, .u, .u, .u, .u, .u, .u, .u, .u, .u, .u, .u, .u, .u, .u, .u, .u, .u, .u, .u, .u, .u, .u, .u, .u, .u, .u, .u, .u, .u, .u, .u, .u, .u, .u, .u, .u, .u, .u, .u, .u, .u, .u], []⟩
noncomputable def ref03Get.nmj11 : Norm := ⟨{ keep := [0, 1, 7, 8, 9, 10], shut := [(0, (.slice (.int .u8))), (1, (.int .i64)), (7, (.int .u64)), (8, (.int .u64)), (9, (.int .i64)), (10, (.int .u8))], retag := [], heap := 0, dead := [], cshut := [], cretag := [] }, [(0, { keep := [0, 1, 7, 8, 9], shut := [(0, (.slice (.int .u8))), (1, (.int .i64)), (7, (.int .u64)), (8, (.int .u64)), (9, (.int .i64))], retag := [], heap := 0, dead := [], cshut := [], cretag := [] }), (1, { keep := [4, 5, 6], shut := [(4, (.int .u64)), (5, (.int .i64)), (6, (.int .i64))], retag := [], heap := 0, dead := [], cshut := [], cretag := [] })]⟩
abbrev ref03Get.shl6 : Shp := ⟨[.d (.slice (.int .u8)), .d (.int .i64), .u, .u, .u, .u, .u, .d (.int .u64), .d (.int .u64), .d (.int .i64), .u, .u, .u, .u, .u, .u, .u, .u, .u, .u, .u, .u, .u, .u, .u, .u, .u, .u, .u, .u, .u, .u, .u, .u, .u, .u, .u, .u, .u, .u, .u, .u, .u, .u, .u, .u, .u, .u, .u, .u, .u, .u, .u, .u, .u, .u, .u, .u, .u, .u], []⟩
abbrev ref03Get.outl6e1 : Shp := ⟨[.u, .u, .u, .u, .d (.int .u64), .d (.int .i64), .d (.int .i64), .u, .u, .u, .u, .u, .u, .u, .u, .u, .u, .u, .u, .u, .u, .u, .u, .u, .u, .u, .u, .u, .u, .u, .u, .u, .u, .u, .u, .u, .u, .u, .u, .u, .u, .u, .u, .u, .u, .u, .u, .u, .u, .u, .u, .u, .u, .u, .u, .u, .u, .u, .u, .u], []⟩
noncomputable def ref03Get.nml6 : Norm := ⟨{ keep := [0, 1, 7, 8, 9], shut := [(0, (.slice (.int .u8))), (1, (.int .i64)), (7, (.int .u64)), (8, (.int .u64)), (9, (.int .i64))], retag := [], heap := 0, dead := [], cshut := [], cretag := [] }, [(1, { keep := [4, 5, 6], shut := [(4, (.int .u64)), (5, (.int .i64)), (6, (.int .i64))], retag := [], heap := 0, dead := [], cshut := [], cretag := [] })]⟩
noncomputable def ref03Get.con : Con := { ps := [(.slice (.int .u8)), (.int .i64)], rs := [(.int .u64), (.int .i64), (.int .i64)], f := fun n x => ref03Get n x.1 x.2.1 }
noncomputable def ref03Get.env : Env := { tys := [(27, ⟨(.int .u64), 8⟩), (3, ⟨(.int .i64), 8⟩), (4, ⟨.bool, 1⟩), (5, ⟨(.int .u8), 1⟩)], elems := [(54, 5)], ptrs := [], cons := [], objs := [], loops := [(6, ref03Get.nml6)], cuts := [(11, ref03Get.nmj11)], globs := globs, base := 0 }
noncomputable def ref03Get.lp (n : Nat) : LP (Kd.struct ref03Get.con.rs).T := fun lo κ body nm K s =>
  cond (!lo && Nat.beq κ 11)
    (match ref03Get.shj11.dec s with
    | some v => ref03Get.j11 n (fun w0 w1 w2 w3 w4 => K .normal (ref03Get.outj11e0.enc (w0, w1, w2, w3, w4, ()))) (fun w0 w1 w2 => K .ret (ref03Get.outj11e1.enc (w0, w1, w2, ()))) v.1 v.2.1 v.2.2.1 v.2.2.2.1 v.2.2.2.2.1 v.2.2.2.2.2.1
    | none => loops n (Kd.struct ref03Get.con.rs).T lo κ body nm K s)
    (cond (lo && Nat.beq κ 6)
    (match ref03Get.shl6.dec s with
    | some v => ref03Get.l6 n (fun w0 w1 w2 => K .ret (ref03Get.outl6e1.enc (w0, w1, w2, ()))) n v.1 v.2.1 v.2.2.1 v.2.2.2.1 v.2.2.2.2.1
    | none => loops n (Kd.struct ref03Get.con.rs).T lo κ body nm K s)
    (loops n (Kd.struct ref03Get.con.rs).T lo κ body nm K s))
theorem ref03Get.atj11 (n : Nat) (s : St) (K : Ex → St → Option (Kd.struct ref03Get.con.rs).T) : ref03Get.lp n false 11 (evK ref03Get.env (ref03Get.lp n) n (sub [1, 1, 1, 1, 1, 0, 0, 0, 1, 1, 1] ref03Get.body)) ref03Get.nmj11 K s = loops n (Kd.struct ref03Get.con.rs).T false 11 (evK ref03Get.env (ref03Get.lp n) n (sub [1, 1, 1, 1, 1, 0, 0, 0, 1, 1, 1] ref03Get.body)) ref03Get.nmj11 K s := by
  show (match ref03Get.shj11.dec s with | some v => ref03Get.j11 n (fun w0 w1 w2 w3 w4 => K .normal (ref03Get.outj11e0.enc (w0, w1, w2, w3, w4, ()))) (fun w0 w1 w2 => K .ret (ref03Get.outj11e1.enc (w0, w1, w2, ()))) v.1 v.2.1 v.2.2.1 v.2.2.2.1 v.2.2.2.2.1 v.2.2.2.2.2.1 | none => loops n (Kd.struct ref03Get.con.rs).T false 11 (evK ref03Get.env (ref03Get.lp n) n (sub [1, 1, 1, 1, 1, 0, 0, 0, 1, 1, 1] ref03Get.body)) ref03Get.nmj11 K s) = _
  cases h : ref03Get.shj11.dec s with
  | none => rfl
  | some v =>
    rw [Shp.dec_enc h]
    kernel_rfl
theorem ref03Get.atl6 (n : Nat) (s : St) (K : Ex → St → Option (Kd.struct ref03Get.con.rs).T) : ref03Get.lp n true 6 (evK ref03Get.env (ref03Get.lp n) n (sub [1, 1, 1, 1, 1, 0, 0] ref03Get.body)) ref03Get.nml6 K s = loops n (Kd.struct ref03Get.con.rs).T true 6 (evK ref03Get.env (ref03Get.lp n) n (sub [1, 1, 1, 1, 1, 0, 0] ref03Get.body)) ref03Get.nml6 K s := by
  show (match ref03Get.shl6.dec s with | some v => ref03Get.l6 n (fun w0 w1 w2 => K .ret (ref03Get.outl6e1.enc (w0, w1, w2, ()))) n v.1 v.2.1 v.2.2.1 v.2.2.2.1 v.2.2.2.2.1 | none => loops n (Kd.struct ref03Get.con.rs).T true 6 (evK ref03Get.env (ref03Get.lp n) n (sub [1, 1, 1, 1, 1, 0, 0] ref03Get.body)) ref03Get.nml6 K s) = _
  cases h : ref03Get.shl6.dec s with
  | none => rfl
  | some v =>
    rw [Shp.dec_enc h]
    exact (evLoop_eq (sh := ref03Get.shl6) (body := evK ref03Get.env (ref03Get.lp n) n (sub [1, 1, 1, 1, 1, 0, 0] ref03Get.body)) (nm := ref03Get.nml6) (K := K) (b := fun nx v => ref03Get.b6 n (fun x0 x1 x2 x3 x4 => nx (x0, x1, x2, x3, x4, ())) (fun w0 w1 w2 => K .ret (ref03Get.outl6e1.enc (w0, w1, w2, ()))) v.1 v.2.1 v.2.2.1 v.2.2.2.1 v.2.2.2.2.1) (l := fun m v => ref03Get.l6 n (fun w0 w1 w2 => K .ret (ref03Get.outl6e1.enc (w0, w1, w2, ()))) m v.1 v.2.1 v.2.2.1 v.2.2.2.1 v.2.2.2.2.1) (fun _ => rfl) (fun _ _ => rfl) (fun m v => by kernel_rfl) n v).symm
theorem ref03Get.eq (n : Nat) (x : (Kd.struct ref03Get.con.ps).T) : evFunc ref03Get.env Try.f68 ref03Get.body ref03Get.con.ps ref03Get.con.rs (ref03Get.lp n) n x = ref03Get.con.f n x := by kernel_rfl
theorem ref03Get.sound : Sound Try.prog globs 68 ref03Get.con :=
  sound_by (E := ref03Get.env) (c := ref03Get.body) (envOk (G := globs) (lc := []) (lo := []) (envB_spec (by kernel_rfl)) rfl rfl trivial rfl trivial (by kernel_rfl) (by kernel_rfl)) Try.func68 (by kernel_rfl) ref03Get.lp (l := [(false, sub [1, 1, 1, 1, 1, 0, 0, 0, 1, 1, 1] ref03Get.body, ref03Get.nmj11), (true, sub [1, 1, 1, 1, 1, 0, 0] ref03Get.body, ref03Get.nml6)]) (by kernel_rfl) (fun n => ⟨ref03Get.atj11 n, ⟨ref03Get.atl6 n, trivial⟩⟩) ref03Get.eq
noncomputable def ref16Get.b27 (fu : Nat) (next : (List Int) → Int → Int → Int → Int → Int → Int → Int → Bool → Int → (List S0) → Int → Int → Bool → Int → (List S0) → Int → Int → Bool → Int → (List S0) → Option (S1 × Int × Unit)) (k1 : Int → Int → Int → Bool → Int → (List S0) → Option (S1 × Int × Unit)) (k2 : (List Int) → Int → Int → Int → Bool → Int → (List S0) → Int → Int → Bool → Int → (List S0) → Int → Int → Bool → Int → (List S0) → Option (S1 × Int × Unit)) (b : List Int) (n : Int) (atv : Int) (start : Int) (when : Int) (i : Int) (c0 : Int) (c0x2 : Int) (c0x3 : Bool) (c0x4 : Int) (c0x5 : List S0) (c1 : Int) (c1x2 : Int) (c1x3 : Bool) (c1x4 : Int) (c1x5 : List S0) (c2 : Int) (c2x2 : Int) (c2x3 : Bool) (c2x4 : Int) (c2x5 : List S0) : Option (S1 × Int × Unit) :=
  cond (decide (i < n)) (
    (ref03Get fu b atv).bind fun r1 =>
    cond (r1.2.2.1 != (0 : Int)) (
      k1 r1.2.2.1 c1 c1x2 c1x3 c1x4 c1x5) (
      let t2 := IntKind.u64.wrap ((18446744073709551615 : Int) - start)
      cond (decide (r1.1 > t2)) (
        k1 (5 : Int) c1 c1x2 c1x3 c1x4 c1x5) (
        let t3 := IntKind.u64.wrap (start + r1.1)
        (ref03Get fu b r1.2.1).bind fun r4 =>
        cond (r4.2.2.1 != (0 : Int)) (
          k1 r4.2.2.1 c1 c1x2 c1x3 c1x4 c1x5) (
          let t5 := IntKind.u64.wrap ((18446744073709551615 : Int) - when)
          cond (decide (r4.1 > t5)) (
            k1 (5 : Int) c1 c1x2 c1x3 c1x4 c1x5) (
            let t6 := IntKind.u64.wrap (when + r4.1)
            (ref03Get fu b r4.2.1).bind fun r7 =>
            cond (r7.2.2.1 != (0 : Int)) (
              k1 r7.2.2.1 c1 c1x2 c1x3 c1x4 c1x5) (
              chk (apOk c2x5 ([(t3, t6, r7.1, ())]) 24) <|
              let t8 := c2x5 ++ ([(t3, t6, r7.1, ())])
              let t9 := IntKind.u64.wrap (i + (1 : Int))
              next b n r7.2.1 t3 t6 t9 c0 c0x2 c0x3 c0x4 c0x5 c1 c1x2 c1x3 c1x4 c1x5 c2 c2x2 c2x3 c2x4 t8)))))) (
    k2 b atv c0 c0x2 c0x3 c0x4 c0x5 c1 c1x2 c1x3 c1x4 c1x5 c2 c2x2 c2x3 c2x4 c2x5)
noncomputable def ref16Get.l27 (fu : Nat) (k1 : Int → Int → Int → Bool → Int → (List S0) → Option (S1 × Int × Unit)) (k2 : (List Int) → Int → Int → Int → Bool → Int → (List S0) → Int → Int → Bool → Int → (List S0) → Int → Int → Bool → Int → (List S0) → Option (S1 × Int × Unit)) : Nat → (List Int) → Int → Int → Int → Int → Int → Int → Int → Bool → Int → (List S0) → Int → Int → Bool → Int → (List S0) → Int → Int → Bool → Int → (List S0) → Option (S1 × Int × Unit)
  | 0, _, _, _, _, _, _, _, _, _, _, _, _, _, _, _, _, _, _, _, _, _ => none
  | m + 1, b, n, atv, start, when, i, c0, c0x2, c0x3, c0x4, c0x5, c1, c1x2, c1x3, c1x4, c1x5, c2, c2x2, c2x3, c2x4, c2x5 => ref16Get.b27 fu (ref16Get.l27 fu k1 k2 m) k1 k2 b n atv start when i c0 c0x2 c0x3 c0x4 c0x5 c1 c1x2 c1x3 c1x4 c1x5 c2 c2x2 c2x3 c2x4 c2x5
noncomputable def ref16Get.j22 (fu : Nat) (k1 : Int → Int → Int → Bool → Int → (List S0) → Option (S1 × Int × Unit)) (b : List Int) (n : Int) (atv : Int) (c0 : Int) (c0x2 : Int) (c0x3 : Bool) (c0x4 : Int) (c0x5 : List S0) (c1 : Int) (c1x2 : Int) (c1x3 : Bool) (c1x4 : Int) (c1x5 : List S0) (c2 : Int) (c2x2 : Int) (c2x3 : Bool) (c2x4 : Int) (c2x5 : List S0) : Option (S1 × Int × Unit) :=
  cond (decide (n > (64 : Int))) (
    k1 (12 : Int) c1 c1x2 c1x3 c1x4 c1x5) (
    ref16Get.l27 fu (fun vq5 c0q5 c0q5x2 c0q5x3 c0q5x4 c0q5x5 => 
        k1 vq5 c0q5 c0q5x2 c0q5x3 c0q5x4 c0q5x5) (fun bq6 atvq6 c0q6 c0q6x2 c0q6x3 c0q6x4 c0q6x5 c1q6 c1q6x2 c1q6x3 c1q6x4 c1q6x5 c2q6 c2q6x2 c2q6x3 c2q6x4 c2q6x5 => 
        let t1 := decide (atvq6 < (bq6.length : Int))
        cond t1 (
          k1 (2 : Int) c1q6 c1q6x2 c1q6x3 c1q6x4 c1q6x5) (
          (ref16May fu (c2q6, c2q6x2, c2q6x3, c2q6x4, c2q6x5, ())).bind fun r2 =>
          cond (!r2.1) (
            k1 (1 : Int) c1q6 c1q6x2 c1q6x3 c1q6x4 c1q6x5) (
            k1 (0 : Int) c2q6 c2q6x2 c2q6x3 c2q6x4 c2q6x5))) fu b n atv (0 : Int) (0 : Int) (0 : Int) c0 c0x2 c0x3 c0x4 c0x5 c1 c1x2 c1x3 c1x4 c1x5 c2 c2x2 c2x3 c2x4 c2x5)
noncomputable def ref16Get (fu : Nat) (b : List Int) : Option (S1 × Int × Unit) :=
  (ref03Get fu b (0 : Int)).bind fun r1 =>
  cond (r1.2.2.1 != (0 : Int)) (
    some (((0 : Int), (0 : Int), false, (0 : Int), [], ()), r1.2.2.1, ())) (
    (ref03Get fu b r1.2.1).bind fun r2 =>
    cond (r2.2.2.1 != (0 : Int)) (
      some (((0 : Int), (0 : Int), false, (0 : Int), [], ()), r2.2.2.1, ())) (
      let t3 := decide (r2.2.1 ≥ (b.length : Int))
      cond t3 (
        some (((0 : Int), (0 : Int), false, (0 : Int), [], ()), (3 : Int), ())) (
        chk (ixOk b r2.2.1) <|
        let e4 := ixL (0 : Int) b r2.2.1
        cond (decide (e4 > (1 : Int))) (
          some (((0 : Int), (0 : Int), false, (0 : Int), [], ()), (2 : Int), ())) (
          chk (ixOk b r2.2.1) <|
          let e5 := ixL (0 : Int) b r2.2.1
          let t6 := IntKind.i64.wrap (r2.2.1 + (1 : Int))
          (ref03Get fu b t6).bind fun r7 =>
          cond (r7.2.2.1 != (0 : Int)) (
            some (((0 : Int), (0 : Int), false, (0 : Int), [], ()), r7.2.2.1, ())) (
            cond (e5 == (1 : Int)) (
              ref16Get.j22 fu (fun vq1 c0q1 c0q1x2 c0q1x3 c0q1x4 c0q1x5 => 
                  some ((c0q1, c0q1x2, c0q1x3, c0q1x4, c0q1x5, ()), vq1, ())) b (0 : Int) r7.2.1 (0 : Int) (0 : Int) false (0 : Int) [] (0 : Int) (0 : Int) false (0 : Int) [] r1.1 r2.1 (e5 == (1 : Int)) r7.1 []) (
              ref16Get.j22 fu (fun vq2 c0q2 c0q2x2 c0q2x3 c0q2x4 c0q2x5 => 
                  some ((c0q2, c0q2x2, c0q2x3, c0q2x4, c0q2x5, ()), vq2, ())) b r7.1 r7.2.1 (0 : Int) (0 : Int) false (0 : Int) [] (0 : Int) (0 : Int) false (0 : Int) [] r1.1 r2.1 (e5 == (1 : Int)) (0 : Int) []))))))

noncomputable def ref16Get.body : Code := Try.f56.body.getD .skip
abbrev ref16Get.shl27 : Shp := ⟨[.d (.slice (.int .u8)), .u, .p 0 0, .u, .p 1 0, .p 2 0, .d (.int .u64), .d (.int .i64), .u, .d (.int .u64), .d (.int .u64), .d (.int .u64), .u, .u, .u, .u, .u, .u, .u, .u, .u, .u, .u, .u, .u, .u, .u, .u, .u, .u, .u, .u, .u, .u, .u, .u, .u, .u, .u, .u, .u, .u, .u, .u, .u, .u, .u, .u, .u, .u, .u, .u, .u, .u, .u, .u, .u, .u, .u, .u, .u, .u, .u, .u, .u, .u, .u, .u, .u, .u, .u, .u, .u, .u, .u, .u, .u, .u, .u, .u, .u, .u, .u, .u, .u, .u, .u, .u, .u, .u, .u, .u, .u, .u, .u, .u, .u, .u, .u, .u, .u, .u, .u, .u, .u, .u, .u, .u, .u, .u, .u, .u, .u, .u, .u, .u, .u, .u, .u, .u, .u, .u, .u, .u, .u, .u, .u, .u, .u, .u, .u, .u, .u, .u, .u, .u, .u, .u, .u, .u, .u, .u, .u, .u, .u, .u, .u, .u, .u, .u, .u, .u, .u, .u], [[.d (.int .u64), .d (.int .u64), .d .bool, .d (.int .u64), .o 1004 kS0], [.d (.int .u64), .d (.int .u64), .d .bool, .d (.int .u64), .o 1054 kS0], [.d (.int .u64), .d (.int .u64), .d .bool, .d (.int .u64), .o 1104 kS0]]⟩
abbrev ref16Get.outl27e1 : Shp := ⟨[.u, .u, .p 0 0, .d (.int .i64), .u, .u, .u, .u, .u, .u, .u, .u, .u, .u, .u, .u, .u, .u, .u, .u, .u, .u, .u, .u, .u, .u, .u, .u, .u, .u, .u, .u, .u, .u, .u, .u, .u, .u, .u, .u, .u, .u, .u, .u, .u, .u, .u, .u, .u, .u, .u, .u, .u, .u, .u, .u, .u, .u, .u, .u, .u, .u, .u, .u, .u, .u, .u, .u, .u, .u, .u, .u, .u, .u, .u, .u, .u, .u, .u, .u, .u, .u, .u, .u, .u, .u, .u, .u, .u, .u, .u, .u, .u, .u, .u, .u, .u, .u, .u, .u, .u, .u, .u, .u, .u, .u, .u, .u, .u, .u, .u, .u, .u, .u, .u, .u, .u, .u, .u, .u, .u, .u, .u, .u, .u, .u, .u, .u, .u, .u, .u, .u, .u, .u, .u, .u, .u, .u, .u, .u, .u, .u, .u, .u, .u, .u, .u, .u, .u, .u, .u, .u, .u, .u], [[.d (.int .u64), .d (.int .u64), .d .bool, .d (.int .u64), .d (.slice kS0)]]⟩
abbrev ref16Get.outl27e2 : Shp := ⟨[.d (.slice (.int .u8)), .u, .p 0 0, .u, .p 1 0, .p 2 0, .u, .d (.int .i64), .u, .u, .u, .u, .u, .u, .u, .u, .u, .u, .u, .u, .u, .u, .u, .u, .u, .u, .u, .u, .u, .u, .u, .u, .u, .u, .u, .u, .u, .u, .u, .u, .u, .u, .u, .u, .u, .u, .u, .u, .u, .u, .u, .u, .u, .u, .u, .u, .u, .u, .u, .u, .u, .u, .u, .u, .u, .u, .u, .u, .u, .u, .u, .u, .u, .u, .u, .u, .u, .u, .u, .u, .u, .u, .u, .u, .u, .u, .u, .u, .u, .u, .u, .u, .u, .u, .u, .u, .u, .u, .u, .u, .u, .u, .u, .u, .u, .u, .u, .u, .u, .u, .u, .u, .u, .u, .u, .u, .u, .u, .u, .u, .u, .u, .u, .u, .u, .u, .u, .u, .u, .u, .u, .u, .u, .u, .u, .u, .u, .u, .u, .u, .u, .u, .u, .u, .u, .u, .u, .u, .u, .u, .u, .u, .u, .u], [[.d (.int .u64), .d (.int .u64), .d .bool, .d (.int .u64), .o 1004 kS0], [.d (.int .u64), .d (.int .u64), .d .bool, .d (.int .u64), .o 1054 kS0], [.d (.int .u64), .d (.int .u64), .d .bool, .d (.int .u64), .o 1104 kS0]]⟩
noncomputable def ref16Get.nml27 : Norm := ⟨{ keep := [0, 2, 4, 5, 6, 7, 9, 10, 11], shut := [(0, (.slice (.int .u8))), (6, (.int .u64)), (7, (.int .i64)), (9, (.int .u64)), (10, (.int .u64)), (11, (.int .u64))], retag := [], heap := 3, dead := [], cshut := [(0, 0, (.int .u64)), (0, 1, (.int .u64)), (0, 2, .bool), (0, 3, (.int .u64)), (1, 0, (.int .u64)), (1, 1, (.int .u64)), (1, 2, .bool), (1, 3, (.int .u64)), (2, 0, (.int .u64)), (2, 1, (.int .u64)), (2, 2, .bool), (2, 3, (.int .u64))], cretag := [(0, 4, 1004, kS0), (1, 4, 1054, kS0), (2, 4, 1104, kS0)] }, [(1, { keep := [2, 3], shut := [(3, (.int .i64))], retag := [], heap := 1, dead := [], cshut := [(0, 0, (.int .u64)), (0, 1, (.int .u64)), (0, 2, .bool), (0, 3, (.int .u64)), (0, 4, (.slice kS0))], cretag := [] }), (2, { keep := [0, 2, 4, 5, 7], shut := [(0, (.slice (.int .u8))), (7, (.int .i64))], retag := [], heap := 3, dead := [], cshut := [(0, 0, (.int .u64)), (0, 1, (.int .u64)), (0, 2, .bool), (0, 3, (.int .u64)), (1, 0, (.int .u64)), (1, 1, (.int .u64)), (1, 2, .bool), (1, 3, (.int .u64)), (2, 0, (.int .u64)), (2, 1, (.int .u64)), (2, 2, .bool), (2, 3, (.int .u64))], cretag := [(0, 4, 1004, kS0), (1, 4, 1054, kS0), (2, 4, 1104, kS0)] })]⟩
abbrev ref16Get.shj22 : Shp := ⟨[.d (.slice (.int .u8)), .u, .p 0 0, .u, .p 1 0, .p 2 0, .d (.int .u64), .d (.int .i64), .u, .u, .u, .u, .u, .u, .u, .u, .u, .u, .u, .u, .u, .u, .u, .u, .u, .u, .u, .u, .u, .u, .u, .u, .u, .u, .u, .u, .u, .u, .u, .u, .u, .u, .u, .u, .u, .u, .u, .u, .u, .u, .u, .u, .u, .u, .u, .u, .u, .u, .u, .u, .u, .u, .u, .u, .u, .u, .u, .u, .u, .u, .u, .u, .u, .u, .u, .u, .u, .u, .u, .u, .u, .u, .u, .u, .u, .u, .u, .u, .u, .u, .u, .u, .u, .u, .u, .u, .u, .u, .u, .u, .u, .u, .u, .u, .u, .u, .u, .u, .u, .u, .u, .u, .u, .u, .u, .u, .u, .u, .u, .u, .u, .u, .u, .u, .u, .u, .u, .u, .u, .u, .u, .u, .u, .u, .u, .u, .u, .u, .u, .u, .u, .u, .u, .u, .u, .u, .u, .u, .u, .u, .u, .u, .u, .u], [[.d (.int .u64), .d (.int .u64), .d .bool, .d (.int .u64), .o 1004 kS0], [.d (.int .u64), .d (.int .u64), .d .bool, .d (.int .u64), .o 1054 kS0], [.d (.int .u64), .d (.int .u64), .d .bool, .d (.int .u64), .o 1104 kS0]]⟩
abbrev ref16Get.outj22e1 : Shp := ⟨[.u, .u, .p 0 0, .d (.int .i64), .u, .u, .u, .u, .u, .u, .u, .u, .u, .u, .u, .u, .u, .u, .u, .u, .u, .u, .u, .u, .u, .u, .u, .u, .u, .u, .u, .u, .u, .u, .u, .u, .u, .u, .u, .u, .u, .u, .u, .u, .u, .u, .u, .u, .u, .u, .u, .u, .u, .u, .u, .u, .u, .u, .u, .u, .u, .u, .u, .u, .u, .u, .u, .u, .u, .u, .u, .u, .u, .u, .u, .u, .u, .u, .u, .u, .u, .u, .u, .u, .u, .u, .u, .u, .u, .u, .u, .u, .u, .u, .u, .u, .u, .u, .u, .u, .u, .u, .u, .u, .u, .u, .u, .u, .u, .u, .u, .u, .u, .u, .u, .u, .u, .u, .u, .u, .u, .u, .u, .u, .u, .u, .u, .u, .u, .u, .u, .u, .u, .u, .u, .u, .u, .u, .u, .u, .u, .u, .u, .u, .u, .u, .u, .u, .u, .u, .u, .u, .u, .u], [[.d (.int .u64), .d (.int .u64), .d .bool, .d (.int .u64), .d (.slice kS0)]]⟩
noncomputable def ref16Get.nmj22 : Norm := ⟨{ keep := [0, 2, 4, 5, 6, 7], shut := [(0, (.slice (.int .u8))), (6, (.int .u64)), (7, (.int .i64))], retag := [], heap := 3, dead := [], cshut := [(0, 0, (.int .u64)), (0, 1, (.int .u64)), (0, 2, .bool), (0, 3, (.int .u64)), (1, 0, (.int .u64)), (1, 1, (.int .u64)), (1, 2, .bool), (1, 3, (.int .u64)), (2, 0, (.int .u64)), (2, 1, (.int .u64)), (2, 2, .bool), (2, 3, (.int .u64))], cretag := [(0, 4, 1004, kS0), (1, 4, 1054, kS0), (2, 4, 1104, kS0)] }, [(1, { keep := [2, 3], shut := [(3, (.int .i64))], retag := [], heap := 1, dead := [], cshut := [(0, 0, (.int .u64)), (0, 1, (.int .u64)), (0, 2, .bool), (0, 3, (.int .u64)), (0, 4, (.slice kS0))], cretag := [] })]⟩
noncomputable def ref16Get.con : Con := { ps := [(.slice (.int .u8))], rs := [kS1, (.int .i64)], f := fun n x => ref16Get n x.1 }
noncomputable def ref16Get.env : Env := { tys := [(77, ⟨kS1, 56⟩), (3, ⟨(.int .i64), 8⟩), (27, ⟨(.int .u64), 8⟩), (5, ⟨(.int .u8), 1⟩), (4, ⟨.bool, 1⟩), (75, ⟨(.slice kS0), 24⟩), (99, ⟨kS0, 24⟩)], elems := [(54, 5), (75, 99)], ptrs := [], cons := [(68, ref03Get.con), (63, ref16May.con)], objs := [], loops := [(27, ref16Get.nml27)], cuts := [(22, ref16Get.nmj22)], globs := globs, base := 0 }
noncomputable def ref16Get.lp (n : Nat) : LP (Kd.struct ref16Get.con.rs).T := fun lo κ body nm K s =>
  cond (lo && Nat.beq κ 27)
    (match ref16Get.shl27.dec s with
    | some v => ref16Get.l27 n (fun w0 w1 w2 w3 w4 w5 => K .ret (ref16Get.outl27e1.enc (w0, w1, w2, w3, w4, w5, ()))) (fun w0 w1 w2 w3 w4 w5 w6 w7 w8 w9 w10 w11 w12 w13 w14 w15 w16 => K (.exit 0) (ref16Get.outl27e2.enc (w0, w1, w2, w3, w4, w5, w6, w7, w8, w9, w10, w11, w12, w13, w14, w15, w16, ()))) n v.1 v.2.1 v.2.2.1 v.2.2.2.1 v.2.2.2.2.1 v.2.2.2.2.2.1 v.2.2.2.2.2.2.1 v.2.2.2.2.2.2.2.1 v.2.2.2.2.2.2.2.2.1 v.2.2.2.2.2.2.2.2.2.1 v.2.2.2.2.2.2.2.2.2.2.1 v.2.2.2.2.2.2.2.2.2.2.2.1 v.2.2.2.2.2.2.2.2.2.2.2.2.1 v.2.2.2.2.2.2.2.2.2.2.2.2.2.1 v.2.2.2.2.2.2.2.2.2.2.2.2.2.2.1 v.2.2.2.2.2.2.2.2.2.2.2.2.2.2.2.1 v.2.2.2.2.2.2.2.2.2.2.2.2.2.2.2.2.1 v.2.2.2.2.2.2.2.2.2.2.2.2.2.2.2.2.2.1 v.2.2.2.2.2.2.2.2.2.2.2.2.2.2.2.2.2.2.1 v.2.2.2.2.2.2.2.2.2.2.2.2.2.2.2.2.2.2.2.1 v.2.2.2.2.2.2.2.2.2.2.2.2.2.2.2.2.2.2.2.2.1
    | none => loops n (Kd.struct ref16Get.con.rs).T lo κ body nm K s)
    (cond (!lo && Nat.beq κ 22)
    (match ref16Get.shj22.dec s with
    | some v => ref16Get.j22 n (fun w0 w1 w2 w3 w4 w5 => K .ret (ref16Get.outj22e1.enc (w0, w1, w2, w3, w4, w5, ()))) v.1 v.2.1 v.2.2.1 v.2.2.2.1 v.2.2.2.2.1 v.2.2.2.2.2.1 v.2.2.2.2.2.2.1 v.2.2.2.2.2.2.2.1 v.2.2.2.2.2.2.2.2.1 v.2.2.2.2.2.2.2.2.2.1 v.2.2.2.2.2.2.2.2.2.2.1 v.2.2.2.2.2.2.2.2.2.2.2.1 v.2.2.2.2.2.2.2.2.2.2.2.2.1 v.2.2.2.2.2.2.2.2.2.2.2.2.2.1 v.2.2.2.2.2.2.2.2.2.2.2.2.2.2.1 v.2.2.2.2.2.2.2.2.2.2.2.2.2.2.2.1 v.2.2.2.2.2.2.2.2.2.2.2.2.2.2.2.2.1 v.2.2.2.2.2.2.2.2.2.2.2.2.2.2.2.2.2.1
    | none => loops n (Kd.struct ref16Get.con.rs).T lo κ body nm K s)
    (loops n (Kd.struct ref16Get.con.rs).T lo κ body nm K s))
theorem ref16Get.atl27 (n : Nat) (s : St) (K : Ex → St → Option (Kd.struct ref16Get.con.rs).T) : ref16Get.lp n true 27 (evK ref16Get.env (ref16Get.lp n) n (sub [1, 1, 1, 1, 1, 1, 1, 1, 1, 1, 1, 1, 1, 1, 1, 1, 1, 1, 0, 1, 0, 0] ref16Get.body)) ref16Get.nml27 K s = loops n (Kd.struct ref16Get.con.rs).T true 27 (evK ref16Get.env (ref16Get.lp n) n (sub [1, 1, 1, 1, 1, 1, 1, 1, 1, 1, 1, 1, 1, 1, 1, 1, 1, 1, 0, 1, 0, 0] ref16Get.body)) ref16Get.nml27 K s := by
  show (match ref16Get.shl27.dec s with | some v => ref16Get.l27 n (fun w0 w1 w2 w3 w4 w5 => K .ret (ref16Get.outl27e1.enc (w0, w1, w2, w3, w4, w5, ()))) (fun w0 w1 w2 w3 w4 w5 w6 w7 w8 w9 w10 w11 w12 w13 w14 w15 w16 => K (.exit 0) (ref16Get.outl27e2.enc (w0, w1, w2, w3, w4, w5, w6, w7, w8, w9, w10, w11, w12, w13, w14, w15, w16, ()))) n v.1 v.2.1 v.2.2.1 v.2.2.2.1 v.2.2.2.2.1 v.2.2.2.2.2.1 v.2.2.2.2.2.2.1 v.2.2.2.2.2.2.2.1 v.2.2.2.2.2.2.2.2.1 v.2.2.2.2.2.2.2.2.2.1 v.2.2.2.2.2.2.2.2.2.2.1 v.2.2.2.2.2.2.2.2.2.2.2.1 v.2.2.2.2.2.2.2.2.2.2.2.2.1 v.2.2.2.2.2.2.2.2.2.2.2.2.2.1 v.2.2.2.2.2.2.2.2.2.2.2.2.2.2.1 v.2.2.2.2.2.2.2.2.2.2.2.2.2.2.2.1 v.2.2.2.2.2.2.2.2.2.2.2.2.2.2.2.2.1 v.2.2.2.2.2.2.2.2.2.2.2.2.2.2.2.2.2.1 v.2.2.2.2.2.2.2.2.2.2.2.2.2.2.2.2.2.2.1 v.2.2.2.2.2.2.2.2.2.2.2.2.2.2.2.2.2.2.2.1 v.2.2.2.2.2.2.2.2.2.2.2.2.2.2.2.2.2.2.2.2.1 | none => loops n (Kd.struct ref16Get.con.rs).T true 27 (evK ref16Get.env (ref16Get.lp n) n (sub [1, 1, 1, 1, 1, 1, 1, 1, 1, 1, 1, 1, 1, 1, 1, 1, 1, 1, 0, 1, 0, 0] ref16Get.body)) ref16Get.nml27 K s) = _
  cases h : ref16Get.shl27.dec s with
  | none => rfl
  | some v =>
    rw [Shp.dec_enc h]
    exact (evLoop_eq (sh := ref16Get.shl27) (body := evK ref16Get.env (ref16Get.lp n) n (sub [1, 1, 1, 1, 1, 1, 1, 1, 1, 1, 1, 1, 1, 1, 1, 1, 1, 1, 0, 1, 0, 0] ref16Get.body)) (nm := ref16Get.nml27) (K := K) (b := fun nx v => ref16Get.b27 n (fun x0 x1 x2 x3 x4 x5 x6 x7 x8 x9 x10 x11 x12 x13 x14 x15 x16 x17 x18 x19 x20 => nx (x0, x1, x2, x3, x4, x5, x6, x7, x8, x9, x10, x11, x12, x13, x14, x15, x16, x17, x18, x19, x20, ())) (fun w0 w1 w2 w3 w4 w5 => K .ret (ref16Get.outl27e1.enc (w0, w1, w2, w3, w4, w5, ()))) (fun w0 w1 w2 w3 w4 w5 w6 w7 w8 w9 w10 w11 w12 w13 w14 w15 w16 => K (.exit 0) (ref16Get.outl27e2.enc (w0, w1, w2, w3, w4, w5, w6, w7, w8, w9, w10, w11, w12, w13, w14, w15, w16, ()))) v.1 v.2.1 v.2.2.1 v.2.2.2.1 v.2.2.2.2.1 v.2.2.2.2.2.1 v.2.2.2.2.2.2.1 v.2.2.2.2.2.2.2.1 v.2.2.2.2.2.2.2.2.1 v.2.2.2.2.2.2.2.2.2.1 v.2.2.2.2.2.2.2.2.2.2.1 v.2.2.2.2.2.2.2.2.2.2.2.1 v.2.2.2.2.2.2.2.2.2.2.2.2.1 v.2.2.2.2.2.2.2.2.2.2.2.2.2.1 v.2.2.2.2.2.2.2.2.2.2.2.2.2.2.1 v.2.2.2.2.2.2.2.2.2.2.2.2.2.2.2.1 v.2.2.2.2.2.2.2.2.2.2.2.2.2.2.2.2.1 v.2.2.2.2.2.2.2.2.2.2.2.2.2.2.2.2.2.1 v.2.2.2.2.2.2.2.2.2.2.2.2.2.2.2.2.2.2.1 v.2.2.2.2.2.2.2.2.2.2.2.2.2.2.2.2.2.2.2.1 v.2.2.2.2.2.2.2.2.2.2.2.2.2.2.2.2.2.2.2.2.1) (l := fun m v => ref16Get.l27 n (fun w0 w1 w2 w3 w4 w5 => K .ret (ref16Get.outl27e1.enc (w0, w1, w2, w3, w4, w5, ()))) (fun w0 w1 w2 w3 w4 w5 w6 w7 w8 w9 w10 w11 w12 w13 w14 w15 w16 => K (.exit 0) (ref16Get.outl27e2.enc (w0, w1, w2, w3, w4, w5, w6, w7, w8, w9, w10, w11, w12, w13, w14, w15, w16, ()))) m v.1 v.2.1 v.2.2.1 v.2.2.2.1 v.2.2.2.2.1 v.2.2.2.2.2.1 v.2.2.2.2.2.2.1 v.2.2.2.2.2.2.2.1 v.2.2.2.2.2.2.2.2.1 v.2.2.2.2.2.2.2.2.2.1 v.2.2.2.2.2.2.2.2.2.2.1 v.2.2.2.2.2.2.2.2.2.2.2.1 v.2.2.2.2.2.2.2.2.2.2.2.2.1 v.2.2.2.2.2.2.2.2.2.2.2.2.2.1 v.2.2.2.2.2.2.2.2.2.2.2.2.2.2.1 v.2.2.2.2.2.2.2.2.2.2.2.2.2.2.2.1 v.2.2.2.2.2.2.2.2.2.2.2.2.2.2.2.2.1 v.2.2.2.2.2.2.2.2.2.2.2.2.2.2.2.2.2.1 v.2.2.2.2.2.2.2.2.2.2.2.2.2.2.2.2.2.2.1 v.2.2.2.2.2.2.2.2.2.2.2.2.2.2.2.2.2.2.2.1 v.2.2.2.2.2.2.2.2.2.2.2.2.2.2.2.2.2.2.2.2.1) (fun _ => rfl) (fun _ _ => rfl) (fun m v => by kernel_rfl) n v).symm
theorem ref16Get.atj22 (n : Nat) (s : St) (K : Ex → St → Option (Kd.struct ref16Get.con.rs).T) : ref16Get.lp n false 22 (evK ref16Get.env (ref16Get.lp n) n (sub [1, 1, 1, 1, 1, 1, 1, 1, 1, 1, 1, 1, 1, 1, 1] ref16Get.body)) ref16Get.nmj22 K s = loops n (Kd.struct ref16Get.con.rs).T false 22 (evK ref16Get.env (ref16Get.lp n) n (sub [1, 1, 1, 1, 1, 1, 1, 1, 1, 1, 1, 1, 1, 1, 1] ref16Get.body)) ref16Get.nmj22 K s := by
  show (match ref16Get.shj22.dec s with | some v => ref16Get.j22 n (fun w0 w1 w2 w3 w4 w5 => K .ret (ref16Get.outj22e1.enc (w0, w1, w2, w3, w4, w5, ()))) v.1 v.2.1 v.2.2.1 v.2.2.2.1 v.2.2.2.2.1 v.2.2.2.2.2.1 v.2.2.2.2.2.2.1 v.2.2.2.2.2.2.2.1 v.2.2.2.2.2.2.2.2.1 v.2.2.2.2.2.2.2.2.2.1 v.2.2.2.2.2.2.2.2.2.2.1 v.2.2.2.2.2.2.2.2.2.2.2.1 v.2.2.2.2.2.2.2.2.2.2.2.2.1 v.2.2.2.2.2.2.2.2.2.2.2.2.2.1 v.2.2.2.2.2.2.2.2.2.2.2.2.2.2.1 v.2.2.2.2.2.2.2.2.2.2.2.2.2.2.2.1 v.2.2.2.2.2.2.2.2.2.2.2.2.2.2.2.2.1 v.2.2.2.2.2.2.2.2.2.2.2.2.2.2.2.2.2.1 | none => loops n (Kd.struct ref16Get.con.rs).T false 22 (evK ref16Get.env (ref16Get.lp n) n (sub [1, 1, 1, 1, 1, 1, 1, 1, 1, 1, 1, 1, 1, 1, 1] ref16Get.body)) ref16Get.nmj22 K s) = _
  cases h : ref16Get.shj22.dec s with
  | none => rfl
  | some v =>
    rw [Shp.dec_enc h]
    kernel_rfl
theorem ref16Get.eq (n : Nat) (x : (Kd.struct ref16Get.con.ps).T) : evFunc ref16Get.env Try.f56 ref16Get.body ref16Get.con.ps ref16Get.con.rs (ref16Get.lp n) n x = ref16Get.con.f n x := by kernel_rfl
theorem ref16Get.sound : Sound Try.prog globs 56 ref16Get.con :=
  sound_by (E := ref16Get.env) (c := ref16Get.body) (envOk (G := globs) (lc := [(68, ref03Get.con), (63, ref16May.con)]) (lo := []) (envB_spec (by kernel_rfl)) rfl rfl ⟨.inl ⟨ref03Get.sound, by kernel_rfl⟩, ⟨.inl ⟨ref16May.sound, by kernel_rfl⟩, trivial⟩⟩ rfl trivial (by kernel_rfl) (by kernel_rfl)) Try.func56 (by kernel_rfl) ref16Get.lp (l := [(true, sub [1, 1, 1, 1, 1, 1, 1, 1, 1, 1, 1, 1, 1, 1, 1, 1, 1, 1, 0, 1, 0, 0] ref16Get.body, ref16Get.nml27), (false, sub [1, 1, 1, 1, 1, 1, 1, 1, 1, 1, 1, 1, 1, 1, 1] ref16Get.body, ref16Get.nmj22)]) (by kernel_rfl) (fun n => ⟨ref16Get.atl27 n, ⟨ref16Get.atj22 n, trivial⟩⟩) ref16Get.eq
noncomputable def law16SnapGets (fu : Nat) (b : List Int) : Option (Bool × Unit) :=
  let t1 := decide ((b.length : Int) > (3000 : Int))
  cond t1 (
    (law16Fixed fu).bind fun r2 =>
    some (r2.1, ())) (
    (snapGet fu b).bind fun r3 =>
    (ref16Get fu b).bind fun r4 =>
    (law16Fixed fu).bind fun r5 =>
    cond (!r5.1) (
      some (false, ())) (
      (ref15Same fu r3.1 r4.1).bind fun r6 =>
      cond (!r6.1) (
        some (false, ())) (
        cond (r3.2.1 != r4.2.1) (
          some (false, ())) (
          cond (r3.2.1 != (0 : Int)) (
            some (true, ())) (
            (snapPut fu r3.1).bind fun r7 =>
            cond (r7.2.1 == (0 : Int)) (
              some (r7.1 == b, ())) (
              some (false, ())))))))

noncomputable def law16SnapGets.body : Code := Try.f14.body.getD .skip
noncomputable def law16SnapGets.con : Con := { ps := [(.slice (.int .u8))], rs := [.bool], f := fun n x => law16SnapGets n x.1 }
noncomputable def law16SnapGets.env : Env := { tys := [(4, ⟨.bool, 1⟩), (5, ⟨(.int .u8), 1⟩), (77, ⟨kS1, 56⟩), (9, ⟨.str, 16⟩), (54, ⟨(.slice (.int .u8)), 24⟩)], elems := [(54, 5)], ptrs := [], cons := [(50, law16Fixed.con), (55, snapGet.con), (56, ref16Get.con), (52, ref15Same.con), (53, snapPut.con)], objs := [], loops := [], cuts := [], globs := globs, base := 0 }
noncomputable def law16SnapGets.lp (n : Nat) : LP (Kd.struct law16SnapGets.con.rs).T := fun lo κ body nm K s =>
  loops n (Kd.struct law16SnapGets.con.rs).T lo κ body nm K s
theorem law16SnapGets.eq (n : Nat) (x : (Kd.struct law16SnapGets.con.ps).T) : evFunc law16SnapGets.env Try.f14 law16SnapGets.body law16SnapGets.con.ps law16SnapGets.con.rs (law16SnapGets.lp n) n x = law16SnapGets.con.f n x := by kernel_rfl
theorem law16SnapGets.sound : Sound Try.prog globs 14 law16SnapGets.con :=
  sound_by (E := law16SnapGets.env) (c := law16SnapGets.body) (envOk (G := globs) (lc := [(50, law16Fixed.con), (55, snapGet.con), (56, ref16Get.con), (52, ref15Same.con), (53, snapPut.con)]) (lo := []) (envB_spec (by kernel_rfl)) rfl rfl ⟨.inl ⟨law16Fixed.sound, by kernel_rfl⟩, ⟨.inl ⟨snapGet.sound, by kernel_rfl⟩, ⟨.inl ⟨ref16Get.sound, by kernel_rfl⟩, ⟨.inl ⟨ref15Same.sound, by kernel_rfl⟩, ⟨.inl ⟨snapPut.sound, by kernel_rfl⟩, trivial⟩⟩⟩⟩⟩ rfl trivial (by kernel_rfl) (by kernel_rfl)) Try.func14 (by kernel_rfl) law16SnapGets.lp (l := []) (by kernel_rfl) (fun n => trivial) law16SnapGets.eq
end
end Go.Shal.Pr
